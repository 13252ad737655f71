import Derived.Test.YtgllekalddijbaaGreatRK
import Derived.Test.YtgllekalddijbaaGreatRZ
import Derived.Test.YtgllekalddijbaaGreatRN
set_option linter.unusedVariables false
set_option linter.unusedSimpArgs false
set_option linter.unusedSectionVars false
set_option maxRecDepth 100000
set_option maxHeartbeats 4000000
namespace Go.Wor
open Go.Ab Go.Proofs Go.Gat Go.Nam Go.Hos Go.Con Go.Sna
open Go.Hy hiding encI
def hE (e:En):Nat:=e.next.length - (Slp.qn e).1.length
def hG (g:Gr):Nat:=(g.ends.map hE).sum
def hV (v:Ver):Nat:=(v.zf.map hG).sum
def jB (w:Wor):Nat:=(w.zd.map hV).sum
theorem zdZ {α:Type} (f:α->Nat) (l:List α) {k:Nat} (h:k < l.length):((l.take (k+1)).map f).sum=((l.take k).map f).sum+f l[k]:=by
 rw [List.take_succ_eq_append_getElem h,List.map_append,List.sum_append]
 simp
theorem wh {α:Type} (f:α->Nat) (l:List α):∀ k,((l.take k).map f).sum<=(l.map f).sum:=fun k=>by
 have h:(l.map f).sum=((l.take k).map f).sum+((l.drop k).map f).sum:=by
  rw [<- List.sum_append,<- List.map_append,List.take_append_drop]
 omega
structure zmP (w:Wor):Prop where
 lens:w.zd.length < 4000000000000000000
 lg:∀ v ∈ w.zd,v.zf.length < 4000000000000000000
 le:∀ v ∈ w.zd,∀ g ∈ v.zf,g.ends.length < 4000000000000000000
 ok:∀ v ∈ w.zd,∀ g ∈ v.zf,∀ e ∈ g.ends,e.ok∧Slp.isV e=true∧(Slp.qn e).1.length<=e.next.length
 sum:jB w < 4000000000000000000
theorem kX (w:Wor) (hw:zmP w):zc Tryz.prog 21 [] [Cw w] (I (jB w:Nat)) []:=by
 have m1:(w.zd.map zw).length=w.zd.length:=List.length_map ..
 have b1:=hw.lens
 refine zc.zr (fn:=Tryz.f21) Tryz.func21 rfl ?_
 conv=>whnf
 rw [m1]
 refine qb.seq w.zd.length (fun k=>[.za,.ref 0 [] 8 0 0,I 0,I (((w.zd.take k).map hV).sum:Nat),.za,.za,.za,.za,.za,.za,.za,.za,.za,lV w.zd,I w.zd.length,I k,.za,.za,.za,.za,.za,.za,.za,.za,.za,.za,.za,.za,.za,.za,.za,.za,.za,.za,.za,.za,.za,.za,.za,.za,.za,.za,.za,.za,.za,.za,.za,.za,.za,.za,.za,.za]) (fun k=>[⟨1,28,8,[z5 w],0⟩]) (fun k=>True) ?_ trivial (fun k hk _=>?_) (fun _=>?_)
 ·exact cC
 ·obtain ⟨v,hx⟩:∃ v,v=w.zd[k]:=⟨_,rfl⟩
  have hv:v ∈ w.zd:=by rw [hx];exact List.getElem_mem hk
  have hg:(w.zd.map zw)[k]?= some (zw v):=by rw [List.getElem?_map,List.getElem?_eq_getElem hk,hx];rfl
  have m2:(v.zf.map zp).length=v.zf.length:=List.length_map ..
  have sk:=zdZ hV w.zd hk
  rw [<- hx] at sk
  have sl:=wh hV w.zd (k+1)
  have sw:(w.zd.map hV).sum < 4000000000000000000:=hw.sum
  have bg:=hw.lg v hv
  conv=>whnf
  (refine ⟨fun _=>?_,fun h=>absurd h (by simp;omega)⟩);refine dd ?_
  (refine ⟨by omega,_,by rw [toNat_cast];exact hg,?_⟩);refine dd ?_
  rw [m2]
  refine qb.seq v.zf.length (fun j=>[.za,.ref 0 [] 8 0 0,I 0,I (((w.zd.take k).map hV).sum+((v.zf.take j).map hG).sum:Nat),.za,.ref 1 [] 5 0 0,.za,.za,.za,.za,.za,.za,.za,lV w.zd,I w.zd.length,I k,.za,.za,.za,.za,lG v.zf,I v.zf.length,I j,.za,.za,.za,.za,.za,.za,.za,.za,.za,.za,.za,.za,.za,.za,.za,.za,.za,.za,.za,.za,.za,.za,.za,.za,.za,.za,.za,.za,.za]) (fun j=>[⟨1,28,8,[z5 w],0⟩,⟨1,72,5,[zw v],0⟩]) (fun k=>True) ?_ trivial (fun j hj _=>?_) (fun _=>?_)
  ·exact cC
  ·obtain ⟨g,hxg⟩:∃ g,g=v.zf[j]:=⟨_,rfl⟩
   have hgm:g ∈ v.zf:=by rw [hxg];exact List.getElem_mem hj
   have hgg:(v.zf.map zp)[j]?= some (zp g):=by rw [List.getElem?_map,List.getElem?_eq_getElem hj,hxg];rfl
   have m3:(g.ends.map zn).length=g.ends.length:=List.length_map ..
   have sj:=zdZ hG v.zf hj
   rw [<- hxg] at sj
   have sjl:=wh hG v.zf (j+1)
   have sjv:(v.zf.map hG).sum=hV v:=rfl
   have be:=hw.le v hv g hgm
   conv=>whnf
   (refine ⟨fun _=>?_,fun h=>absurd h (by simp;omega)⟩);refine dd ?_
   (refine ⟨by omega,_,by rw [toNat_cast];exact hgg,?_⟩);refine dd ?_
   rw [m3]
   refine qb.seq g.ends.length (fun n=>[.za,.ref 0 [] 8 0 0,I 0,I (((w.zd.take k).map hV).sum+((v.zf.take j).map hG).sum+((g.ends.take n).map hE).sum:Nat),.za,.ref 1 [] 5 0 0,.za,.ref 2 [] 2 0 0,.za,.za,.za,.za,.za,lV w.zd,I w.zd.length,I k,.za,.za,.za,.za,lG v.zf,I v.zf.length,I j,.za,.za,.za,.za,lE g.ends,I g.ends.length,I n,.za,.za,.za,.za,.za,.za,.za,.za,.za,.za,.za,.za,.za,.za,.za,.za,.za,.za,.za,.za,.za,.za]) (fun n=>[⟨1,28,8,[z5 w],0⟩,⟨1,72,5,[zw v],0⟩,⟨1,93,2,[zp g],0⟩]) (fun k=>True) ?_ trivial (fun n hn _=>?_) (fun _=>?_)
   ·exact cC
   ·obtain ⟨e,hxe⟩:∃ e,e=g.ends[n]:=⟨_,rfl⟩
    have hem:e ∈ g.ends:=by rw [hxe];exact List.getElem_mem hn
    have hge:(g.ends.map zn)[n]?= some (zn e):=by rw [List.getElem?_map,List.getElem?_eq_getElem hn,hxe];rfl
    obtain ⟨eo,ei,el⟩:=hw.ok v hv g hgm e hem
    have sn:=zdZ hE g.ends hn
    rw [<- hxe] at sn
    have snl:=wh hE g.ends (n+1)
    have sng:(g.ends.map hE).sum=hG g:=rfl
    have m4:(e.next.map Go.Hy.encI).length=e.next.length:=List.length_map ..
    have m5:((Slp.qn e).1.map Go.Hy.encI).length=(Slp.qn e).1.length:=List.length_map ..
    have en:=eo.2.1.2
    conv=>whnf
    (refine ⟨fun _=>?_,fun h=>absurd h (by simp;omega)⟩);refine dd ?_
    (refine ⟨by omega,_,by rw [toNat_cast];exact hge,?_⟩);refine dd ?_
    refine ⟨_,_,(Slp.kc e eo).frame rfl _,?_⟩;refine dd ?_
    refine ⟨_,_,(Slp.yX e eo).frame rfl _,?_⟩;refine dd ?_
    rw [ei]
    (repeat ((first | apply ya | apply yb);refine dd ?_))
    rw [m4,m5]
    have q1:IntKind.i64.wrap ((e.next.length:Int) - ((Slp.qn e).1.length:Int))=((hE e:Nat):Int):=by
     rw [jz (by omega) (by omega)];unfold hE;omega
    have q2:IntKind.i64.wrap (((((w.zd.take k).map hV).sum+((v.zf.take j).map hG).sum+((g.ends.take n).map hE).sum:Nat):Int)+((hE e:Nat):Int))=(((((w.zd.take k).map hV).sum+((v.zf.take j).map hG).sum+((g.ends.take (n+1)).map hE).sum:Nat)):Int):=by
     rw [jz (by omega) (by omega)];omega
    rw [q1,q2,zD (by omega)]
    refine .inl ⟨rfl,?_,trivial⟩
    exact cE 3
   ·have e1:(g.ends.take g.ends.length).map hE=g.ends.map hE:=by rw [List.take_length]
    have e2:(((v.zf.take j).map hG).sum+(g.ends.map hE).sum)=((v.zf.take (j+1)).map hG).sum:=by rw [sj];rfl
    (conv=>whnf);(refine ⟨fun h=>absurd h (by simp),fun _=>?_⟩);refine dd ?_;(refine ⟨by simp,?_⟩);(conv=>whnf)
    rw [e1,Nat.add_assoc,e2,zD (by omega)]
    refine .inl ⟨rfl,?_,trivial⟩
    exact cE 2
  ·have e1:(v.zf.take v.zf.length).map hG=v.zf.map hG:=by rw [List.take_length]
   have e2:(((w.zd.take k).map hV).sum+(v.zf.map hG).sum)=((w.zd.take (k+1)).map hV).sum:=by rw [sk];rfl
   (conv=>whnf);(refine ⟨fun h=>absurd h (by simp),fun _=>?_⟩);refine dd ?_;(refine ⟨by simp,?_⟩);(conv=>whnf)
   rw [e1,e2,zD (by omega)]
   refine .inl ⟨rfl,?_,trivial⟩
   exact cE 1
 ·have e1:(w.zd.take w.zd.length).map hV=w.zd.map hV:=by rw [List.take_length]
  (conv=>whnf);(refine ⟨fun h=>absurd h (by simp),fun _=>?_⟩);refine dd ?_;(refine ⟨by simp,?_⟩);(conv=>whnf)
  rw [e1]
  exact ⟨.inl rfl,_,.refl _,rfl⟩
end Go.Wor
namespace Go.Wor
open Go.Ab Go.Proofs Go.Gat Go.Nam Go.Hos Go.Con Go.Sna
open Go.Hy hiding encI
theorem zfp (e:En):(Slp.qn e).1.length<=e.next.length:=by
 have h1:=(Slp.xr e.next (Slp.zB e)).1
 unfold Slp.qn
 split
 ·show (Slp.jl _ _ _).length<=_
  unfold Slp.jl
  simp only [List.length_map,List.length_range]
  omega
 ·simp
theorem wJ {α:Type} (f:α->Nat) (b:Nat):∀ (l:List α),(∀ x ∈ l,f x<=b)->(l.map f).sum<=l.length * b
 | [],_=>by simp
 | x::l,h=>by
  have:=wJ f b l fun y hy=>h y (List.mem_cons_of_mem _ hy)
  have:=h x (List.mem_cons_self ..)
  rw [List.map_cons,List.sum_cons,List.length_cons,Nat.add_mul]
  omega
theorem zcB {N:Nat} {w:Wor} (h:j8 w) (t:TyW N w) (hN:N<=100000000):zmP w:=by
 have few:∀ v ∈ w.zd,v.zf.length<=4∧∀ g ∈ v.zf,g.ends.length<=4∧1<=g.ends.length∧∀ e ∈ g.ends,Slp.isV e=true∧e.next.length<=4∧1<=e.next.length:=fun v hv=>by
  obtain ⟨i,hi⟩:=List.mem_iff_getElem?.1 hv
  exact (h.ver i v hi).1.few
 refine ⟨by have:=t.zel;omega,fun v hv=>by have:=(few v hv).1;omega,fun v hv g hg=>by have:=((few v hv).2 g hg).1;omega,fun v hv g hg e he=>⟨((t.okv v hv).2 g hg).2 e he,(((few v hv).2 g hg).2.2 e he).1,zfp e⟩,?_⟩
 have q1:∀ v ∈ w.zd,∀ g ∈ v.zf,hG g<=16:=fun v hv g hg=>by
  have f:=(few v hv).2 g hg
  have:=wJ hE 4 g.ends fun e he=>by have:=(f.2.2 e he).2.1;unfold hE;omega
  have:=f.1
  unfold hG
  omega
 have q2:∀ v ∈ w.zd,hV v<=64:=fun v hv=>by
  have:=wJ hG 16 v.zf fun g hg=>q1 v hv g hg
  have:=(few v hv).1
  unfold hV
  omega
 have:=wJ hV 64 w.zd q2
 have:=t.zel
 unfold jB
 omega
end Go.Wor
namespace Go.Slp
open Go.Ab Go.Proofs Go.Hy
theorem zcG {nx:List Int} {i0 s v:Int} (h0:0<=s) (hs:s ∉ jl nx i0 (jb nx i0)):∀ j,j<=jb nx i0->q6 (nx.set s.toNat v) i0 j=q6 nx i0 j
 | 0,_=>rfl
 | j+1,h=>by
  have ih:=zcG (v:=v) h0 hs j (by omega)
  have hm:q6 nx i0 j ∈ jl nx i0 (jb nx i0):=List.mem_map.2 ⟨j,List.mem_range.2 (by omega),rfl⟩
  have hb:=(za9 (xr nx i0).2.2).2 _ hm
  have hp:0<=q6 nx i0 j:=by unfold inB at hb;simp at hb;omega
  show nxt (nx.set s.toNat v) (q6 (nx.set s.toNat v) i0 j)=nxt nx (q6 nx i0 j)
  rw [ih]
  exact zdB (fun e=>hs (e ▸ hm)) h0 hp
theorem zi9 {nx:List Int} {i0 s v:Int} (h0:0<=s) (hs:s ∉ jl nx i0 (jb nx i0)) {k:Nat} (hk:k<=jb nx i0):jl (nx.set s.toNat v) i0 k=jl nx i0 k:=by
 unfold jl
 apply List.map_congr_left
 intro j hj
 exact zcG h0 hs j (by have:=List.mem_range.1 hj;omega)
theorem zgR {nx:List Int} {i0 s v:Int} (h0:0<=s) (hs:s ∉ jl nx i0 (jb nx i0)) {k:Nat} (hk:k<=jb nx i0):j9 (nx.set s.toNat v) i0 k=j9 nx i0 k:=by
 unfold j9
 rw [zi9 h0 hs hk,zcG h0 hs k hk]
 unfold inB
 rw [List.length_set]
theorem ziI {nx:List Int} {i0 s v:Int} (h0:0<=s) (hs:s ∉ jl nx i0 (jb nx i0)):jb (nx.set s.toNat v) i0=jb nx i0:=by
 obtain ⟨c1,c2,c3⟩:=xr nx i0
 exact zcX (by rw [zgR h0 hs (Nat.le_refl _)];exact c2) fun j hj=>by rw [zgR h0 hs (by omega)];exact c3 j hj
theorem zll {nx:List Int} {i0 s v:Int} (h0:0<=s) (hs:s ∉ jl nx i0 (jb nx i0)):okV (nx.set s.toNat v) i0=okV nx i0:=by
 unfold okV
 rw [ziI h0 hs,zcG h0 hs _ (Nat.le_refl _)]
theorem zjI {e:En} {s v:Int} (hi:isV e=true) (h0:0<=s) (hs:s ∉ (qn e).1):qn { e with next:=e.next.set s.toNat v }=qn e∧isV { e with next:=e.next.set s.toNat v }=true:=by
 have ok:okV e.next (zB e)=true:=by
  unfold isV at hi
  simp only [Bool.and_eq_true] at hi
  exact hi.1.1.1
 have hs:s ∉ jl e.next (zB e) (jb e.next (zB e)):=by
  unfold qn at hs
  rw [if_pos ok] at hs
  exact hs
 refine ⟨?_,?_⟩
 ·show (if okV (e.next.set s.toNat v) (zB e)=true then (jl (e.next.set s.toNat v) (zB e) (jb (e.next.set s.toNat v) (zB e)),(0:Int)) else ([],11))=_
  rw [zll h0 hs,ziI h0 hs,zi9 h0 hs (Nat.le_refl _)]
  rfl
 ·show (okV (e.next.set s.toNat v) (zB e) && decide (1<=(e.next.set s.toNat v).length) && decide ((e.next.set s.toNat v).length<=4) && decide (0<=e.zj))=true
  rw [zll h0 hs,List.length_set]
  exact hi
end Go.Slp
namespace Go.Wor
open Go.Ab Go.Proofs Go.Gat Go.Nam Go.Hos Go.Con Go.Sna
open Go.Hy hiding encI
theorem zcJ {α:Type} (f:α->Nat):∀ (l:List α) (i:Nat) {x:α} (y:α),l[i]?= some x->((l.set i y).map f).sum+f x=(l.map f).sum+f y
 | [],i,x,y,h=>by simp at h
 | a::l,0,x,y,h=>by
  have e:a=x:=by simpa using h
  subst e
  simp only [List.set_cons_zero,List.map_cons,List.sum_cons]
  omega
 | a::l,i+1,x,y,h=>by
  have:=zcJ f l i y (by simpa using h)
  simp only [List.set_cons_succ,List.map_cons,List.sum_cons]
  omega
theorem zbw {w:Wor} {m:Mac} {v:Ver} {g:Gr} {e:En} (h1:w.zd[m.version.toNat]?= some v) (h2:v.zf[m.zg.toNat]?= some g) (h3:g.ends[m.end_.toNat]?= some e) (e':En) (tk:Int):
  jB { w with zd:=w.zd.set m.version.toNat { v with zf:=v.zf.set m.zg.toNat { g with zl:=tk,ends:=g.ends.set m.end_.toNat e' } } }+hE e=jB w+hE e':=by
 have q3:=zcJ hE g.ends m.end_.toNat e' h3
 have q2:=zcJ hG v.zf m.zg.toNat { g with zl:=tk,ends:=g.ends.set m.end_.toNat e' } h2
 have q1:=zcJ hV w.zd m.version.toNat { v with zf:=v.zf.set m.zg.toNat { g with zl:=tk,ends:=g.ends.set m.end_.toNat e' } } h1
 have d3:hG { g with zl:=tk,ends:=g.ends.set m.end_.toNat e' }=((g.ends.set m.end_.toNat e').map hE).sum:=rfl
 have d3':hG g=(g.ends.map hE).sum:=rfl
 have d2:hV { v with zf:=v.zf.set m.zg.toNat { g with zl:=tk,ends:=g.ends.set m.end_.toNat e' } }=((v.zf.set m.zg.toNat { g with zl:=tk,ends:=g.ends.set m.end_.toNat e' }).map hG).sum:=rfl
 have d2':hV v=(v.zf.map hG).sum:=rfl
 unfold jB
 dsimp only
 omega
end Go.Wor
namespace Go.Wor
open Go.Ab Go.Proofs Go.Gat Go.Nam Go.Hos Go.Con Go.Sna
open Go.Hy hiding encI
theorem zck {w:Wor} (gw:j8 w) {m:Mac} (ht:0<=m.zo∧m.zo < w.pins.length) (hd:m.done=false) (hv:m.version=0) (hc:m.zg=0) (he:m.end_=0) (ho:m.other=0) (hs:m.slot=0) (hl:m.listen= -1) (hi:m.i=0) (hk:m.k=0):∃ v g e,qP w m v g e:=by
 have c:=gw.current
 obtain ⟨v,hv0⟩:∃ v,w.zd[0]?= some v:=⟨_,List.getElem?_eq_getElem (by omega)⟩
 have gv:=(gw.ver _ v hv0).1
 have h0:0 < v.zf.length:=by have:=(yd gv.snap).zm.1;have:=gv.len;omega
 obtain ⟨g,e,hg,hee,l1,l2⟩:=zdf gv h0
 exact ⟨v,g,e,qR.2 gw,ht,hd,by omega,by rw [hv];exact hv0,by omega,by rw [hc];exact hg,by omega,by rw [he];exact hee,by omega,by omega,by omega,by omega,by omega⟩
end Go.Wor
namespace Go.Wor
open Go.Ab Go.Proofs Go.Gat Go.Nam Go.Hos Go.Con Go.Sna
open Go.Hy hiding encI
def vA (w:Wor) (i j k:Int):Option En:=(w.zd[i.toNat]?).bind fun v=>(v.zf[j.toNat]?).bind fun g=>g.ends[k.toNat]?
abbrev tEW (w:Wor) (m:Mac) (v:Ver) (g:Gr) (e':En) (tk:Int):Wor:={ w with zd:=w.zd.set m.version.toNat { v with zf:=v.zf.set m.zg.toNat { g with zl:=tk,ends:=g.ends.set m.end_.toNat e' } } }
theorem yT {w:Wor} {m:Mac} {v:Ver} {g:Gr} {e:En} (hat:AtE w m v g e) (e':En) (tk i j k:Int):vA (tEW w m v g e' tk) i j k=if i.toNat=m.version.toNat∧j.toNat=m.zg.toNat∧k.toNat=m.end_.toNat then some e' else vA w i j k:=by
 have s1:=(List.getElem?_eq_some_iff.1 hat.at_).1
 have s2:=(List.getElem?_eq_some_iff.1 hat.atg).1
 have s3:=(List.getElem?_eq_some_iff.1 hat.ate).1
 unfold vA tEW
 dsimp only
 by_cases h1:i.toNat=m.version.toNat
 ·rw [h1,List.getElem?_set_self s1,hat.at_,Option.bind_some,Option.bind_some]
  dsimp only
  by_cases h2:j.toNat=m.zg.toNat
  ·rw [h2,List.getElem?_set_self s2,hat.atg,Option.bind_some,Option.bind_some]
   dsimp only
   by_cases h3:k.toNat=m.end_.toNat
   ·rw [h3,List.getElem?_set_self s3,if_pos ⟨rfl,rfl,rfl⟩]
   ·rw [List.getElem?_set_ne (fun h=>h3 h.symm),if_neg (fun h=>h3 h.2.2)]
  ·rw [List.getElem?_set_ne (fun h=>h2 h.symm),if_neg (fun h=>h2 h.2.1)]
 ·rw [List.getElem?_set_ne (fun h=>h1 h.symm),if_neg (fun h=>h1 h.1)]
theorem zaG {w:Wor} {m:Mac} {v:Ver} {g:Gr} {e:En} (hat:AtE w m v g e):vA w m.version m.zg m.end_=some e:=by
 unfold vA
 rw [hat.at_,Option.bind_some,hat.atg,Option.bind_some,hat.ate]
def nE (L:List Ans) (i j k:Int):Nat:=L.countP fun a=>decide (a.version=i∧a.zg=j∧a.end_=k)
def nL (L:List Ans) (i:Int):Nat:=L.countP fun a=>decide (a.listen=i)
def zkt (a b:Ans):Prop:=a.version=b.version∧a.zg=b.zg∧a.end_=b.end_∧a.slot=b.slot
structure zd8 (w:Wor) (a:Ans):Prop where
 pos:0<=a.version∧0<=a.zg∧0<=a.end_∧0<=a.slot
 lis:0<=a.listen∧a.listen < w.ze.length
 at_:∃ e,vA w a.version a.zg a.end_=some e∧a.slot < e.next.length∧a.slot ∉ (Slp.qn e).1
structure Own (w:Wor) (L:List Ans) (x:Int):Prop where
 zhy:∀ a ∈ L,zd8 w a
 diff:L.Pairwise fun a b=>¬zkt a b
 lis:∀ (i:Nat) l,w.ze[i]?= some l->((nL L i+(if x=i then 1 else 0):Nat):Int)<=l.zj
 ends : ∀ i j k e, 0 <= i -> 0 <= j -> 0 <= k -> vA w i j k = some e -> (nE L i j k : Int) <= e.zj
theorem zd8.vx {w:Wor} {m:Mac} {v:Ver} {g:Gr} {e e':En} {a:Ans} {tk:Int} (f:zd8 w a) (hat:AtE w m v g e) (hl:e'.next.length=e.next.length) (hf:a.slot ∉ (Slp.qn e).1->a.version=m.version->a.zg=m.zg->a.end_=m.end_->a.slot ∉ (Slp.qn e').1):zd8 (tEW w m v g e' tk) a:=by
 obtain ⟨h1,h2,e0,h3,h4,h5⟩:=f
 refine ⟨h1,h2,?_⟩
 rw [yT hat]
 by_cases q:a.version.toNat=m.version.toNat∧a.zg.toNat=m.zg.toNat∧a.end_.toNat=m.end_.toNat
 ·rw [if_pos q]
  have p1:=hat.v0
  have p2:=hat.g0
  have p3:=hat.e0
  have q1:a.version=m.version:=by omega
  have q2:a.zg=m.zg:=by omega
  have q3:a.end_=m.end_:=by omega
  have:=zaG hat
  rw [<- q1,<- q2,<- q3,h3] at this
  cases this
  exact ⟨e',rfl,by omega,hf h5 q1 q2 q3⟩
 ·rw [if_neg q]
  exact ⟨e0,h3,h4,h5⟩
theorem zd8.other {w w':Wor} {a:Ans} (f:zd8 w a) (hv:w'.zd=w.zd) (hl:w'.ze.length=w.ze.length):zd8 w' a:=by
 obtain ⟨h1,h2,h3⟩:=f
 exact ⟨h1,by omega,by unfold vA at h3 ⊢;rw [hv];exact h3⟩
theorem Own.vx {w:Wor} {m:Mac} {v:Ver} {g:Gr} {e e':En} {L:List Ans} {x tk:Int} (o:Own w L x) (hat:AtE w m v g e) (hl:e'.next.length=e.next.length) (hf:∀ s,s ∉ (Slp.qn e).1->s ∉ (Slp.qn e').1) (ha:e.zj<=e'.zj):Own (tEW w m v g e' tk) L x:=by
 refine ⟨fun a h=>(o.zhy a h).vx hat hl fun h1 _ _ _=>hf _ h1,o.diff,o.lis,fun i j k e0 hi hj hk h=>?_⟩
 rw [yT hat] at h
 split at h
 ·rename_i q
  cases h
  have p1:=hat.v0
  have p2:=hat.g0
  have p3:=hat.e0
  have q1:i=m.version:=by omega
  have q2:j=m.zg:=by omega
  have q3:k=m.end_:=by omega
  have:=o.ends _ _ _ e hat.v0 hat.g0 hat.e0 (zaG hat)
  rw [q1,q2,q3]
  omega
 ·exact o.ends i j k e0 hi hj hk h
theorem Own.other {w w':Wor} {L:List Ans} {x:Int} (o:Own w L x) (hv:w'.zd=w.zd) (hl:w'.ze=w.ze):Own w' L x:=by
 refine ⟨fun a h=>(o.zhy a h).other hv (by rw [hl]),o.diff,by rw [hl];exact o.lis,?_⟩
 unfold vA
 rw [hv]
 exact o.ends
theorem Own.set {w:Wor} {L:List Ans} {x x':Int} {i:Nat} {l:Lis} {n:Int} (o:Own w L x) (hx:w.ze[i]?= some l) (hn:((nL L i+(if x'=i then 1 else 0):Nat):Int)<=n) (hi:∀ j:Nat,j≠i->(x'=j->x=j)):Own { w with ze:=w.ze.set i { l with zj:=n } } L x':=by
 refine ⟨fun a h=>(o.zhy a h).other rfl (by simp),o.diff,fun j l' h=>?_,o.ends⟩
 rcases kf h with ⟨rfl,rfl,_⟩ | ⟨hne,h⟩
 ·exact hn
 ·have:=o.lis j l' h
  have h3:=hi j (fun h=>hne h.symm)
  by_cases q:x'=j
  ·rw [if_pos q];rw [if_pos (h3 q)] at this;exact this
  ·rw [if_neg q];omega
theorem zmg (L:List Ans) (a:Ans) (i:Int):nL (L++[a]) i=nL L i+if a.listen=i then 1 else 0:=by
 unfold nL
 rw [List.countP_append,List.countP_singleton]
 simp
theorem zmf (L:List Ans) (a:Ans) (i j k:Int):nE (L++[a]) i j k=nE L i j k+if a.version=i∧a.zg=j∧a.end_=k then 1 else 0:=by
 unfold nE
 rw [List.countP_append,List.countP_singleton]
 simp
theorem Own.snoc {w:Wor} {m:Mac} {v:Ver} {g:Gr} {e e':En} {L:List Ans} {tk:Int} (o:Own w L m.listen) (hat:AtE w m v g e) (f:zd8 w (kk m)) (d:∀ b ∈ L,¬zkt b (kk m)) (hl:e'.next.length=e.next.length) (hf:∀ s,s ∉ (Slp.qn e).1->s ∉ (Slp.qn e').1) (ha:e'.zj=e.zj+1):
  Own (tEW w m v g e' tk) (L++[kk m]) (-1):=by
 refine ⟨fun a h=>?_,?_,fun i l h=>?_,fun i j k e0 hi hj hk h=>?_⟩
 ·rcases List.mem_append.1 h with h | h
  ·exact (o.zhy a h).vx hat hl fun h1 _ _ _=>hf _ h1
  ·rw [List.mem_singleton.1 h]
   exact f.vx hat hl fun h1 _ _ _=>hf _ h1
 ·rw [List.pairwise_append]
  exact ⟨o.diff,List.pairwise_singleton ..,fun a ha b hb=>by rw [List.mem_singleton.1 hb];exact d a ha⟩
 ·have:=o.lis i l h
  rw [zmg,if_neg (show ¬(-1:Int)=i by omega)]
  exact this
 ·rw [zmf]
  rw [yT hat] at h
  have p1:=hat.v0
  have p2:=hat.g0
  have p3:=hat.e0
  split at h
  ·rename_i q
   cases h
   have q1:i=m.version:=by omega
   have q2:j=m.zg:=by omega
   have q3:k=m.end_:=by omega
   have:=o.ends _ _ _ e p1 p2 p3 (zaG hat)
   rw [q1,q2,q3]
   split <;> omega
  ·rename_i q
   have:=o.ends i j k e0 hi hj hk h
   rw [if_neg]
   ·exact this
   ·rintro ⟨q1,q2,q3⟩
    have q1:m.version=i:=q1
    have q2:m.zg=j:=q2
    have q3:m.end_=k:=q3
    exact q ⟨by omega,by omega,by omega⟩
inductive HI (L:List Ans) (h:Nat):Wor->Mac->Prop
 | out {w:Wor} {m:Mac} (p:m.pc<=4∨(20<=m.pc∧m.answer.kind≠1∧(m.listen < 0∨m.pc=23))) (o:Own w L (-1)) (e:jB w=h):HI L h w m
 | in_ {w:Wor} {m:Mac} (p:(5<=m.pc∧m.pc<=11)∨(20<=m.pc∧m.pc<=22∧m.answer.kind≠1)) (l:0<=m.listen) (o:Own w L m.listen) (e:jB w=h):HI L h w m
 | got {w:Wor} {m:Mac} (p:m.pc=12) (l:0<=m.listen) (o:Own w L m.listen) (e:jB w=h+1) (f:zd8 w (kk m)) (d:∀ b ∈ L,¬zkt b (kk m)):HI L h w m
 | held {w:Wor} {m:Mac} (p:20<=m.pc∧m.pc≠22) (k:m.answer.kind=1) (o:Own w (L++[m.answer]) (-1)) (e:jB w=h+1):HI L h w m
end Go.Wor
namespace Go.Wor
open Go.Ab Go.Proofs Go.Gat Go.Nam Go.Hos Go.Con Go.Sna
open Go.Hy hiding encI
def Fi (L:List Ans) (h:Nat) (w:Wor) (a:Ans):Prop:=(a.kind=1∧Own w (L++[a]) (-1)∧jB w=h+1)∨(a.kind≠1∧Own w L (-1)∧jB w=h)
def Hn (L:List Ans) (h:Nat) (r:Wor × Mac × Eve):Prop:=(r.2.1.done=true->Fi L h r.1 r.2.1.answer)∧(r.2.1.done=false->HI L h r.1 r.2.1)
theorem xe {L:List Ans} {h:Nat} {r:Wor × Mac × Eve} (hd:r.2.1.done=false) (x:HI L h r.1 r.2.1):Hn L h r:=⟨fun hx=>absurd (hd.symm.trans hx) (by decide),fun _=>x⟩
section
variable {N K:Nat} {w:Wor} {m:Mac} {v:Ver} {g:Gr} {e:En} {L:List Ans} {h:Nat} {r:Wor × Mac × Eve}
theorem HI.early (hi:HI L h w m) (p:m.pc<=4):Own w L (-1)∧jB w=h:=by
 cases hi with
 | out q o e=>exact ⟨o,e⟩
 | in_ q l o e=>omega
 | got q l o e f d=>omega
 | held q k o e=>omega
theorem HI.mid (hi:HI L h w m) (p:5<=m.pc∧m.pc<=11):0<=m.listen∧Own w L m.listen∧jB w=h:=by
 cases hi with
 | out q o e=>omega
 | in_ q l o e=>exact ⟨l,o,e⟩
 | got q l o e f d=>omega
 | held q k o e=>omega
theorem zeJ (hat:AtE w m v g e) {e':En} (tk:Int) (he:hE e'=hE e):jB (tEW w m v g e' tk)=jB w:=by
 have:=zbw hat.at_ hat.atg hat.ate e' tk
 show jB { w with zd:=w.zd.set m.version.toNat { v with zf:=v.zf.set m.zg.toNat { g with zl:=tk,ends:=g.ends.set m.end_.toNat e' } } }=_
 omega
theorem znj (hi:HI L h w m) (h0:0<=m.pc) (h3:m.pc < 3) (hd:m.done=false) (hr:zO w m v g e=some r):Hn L h r:=by
 obtain ⟨o,hh⟩:=hi.early (by omega)
 unfold zO at hr
 rw [if_pos h3] at hr
 unfold zlt at hr
 rcases (by omega:m.pc=0∨m.pc=1∨m.pc=2) with p | p | p
 ·rw [if_pos p] at hr
  cases hr
  exact xe hd (.out (.inl (by show (1:Int)<=4;decide)) o hh)
 ·rw [if_neg (by omega),if_pos p] at hr
  cases hr
  exact xe hd (.out (.inl (by show (2:Int)<=4;decide)) (o.other rfl rfl) hh)
 ·rw [if_neg (by omega),if_neg (by omega),if_pos p] at hr
  cases hr
  exact xe hd (.out (.inl (by show (if w.zu=m.zu then (3:Int) else 1)<=4;split <;> decide)) o hh)
theorem zoA (hi:HI L h w m) (p:m.pc=3) (hd:m.done=false) (hr:zO w m v g e=some r):Hn L h r:=by
 obtain ⟨o,hh⟩:=hi.early (by omega)
 unfold zO at hr
 rw [if_neg (by omega),if_pos p] at hr
 by_cases q:jd w.ze m.op.listen < 0
 ·rw [if_pos q] at hr
  cases hr
  exact xe hd (.out (.inr ⟨by show (20:Int)<=20;decide,by show (2:Int)≠1;decide,.inl q⟩) o hh)
 ·rw [if_neg q] at hr
  cases hr
  exact xe hd (.out (.inl (by show (4:Int)<=4;decide)) o hh)
theorem zoB (hi:HI L h w m) (p:m.pc=4) (hd:m.done=false) (lo:jU w m v g e) (cal:Cal K w) (hK:K<=1099511627776) (gw:j8 w) (hr:zO w m v g e=some r):Hn L h r:=by
 obtain ⟨o,hh⟩:=hi.early (by omega)
 have l0:=lo.lis (.inl (by omega))
 unfold zO zbx at hr
 rw [if_neg (by omega),if_neg (by omega),if_pos p,if_neg (by omega)] at hr
 obtain ⟨x,hx,rfl⟩:=Option.map_eq_some_iff.1 hr
 have li:=wF (gw.lis _ x hx).1
 have ca:=cal.lis x (List.mem_of_getElem? hx)
 have hw:IntKind.i64.wrap (x.zj+1)=x.zj+1:=jz (by omega) (by omega)
 have q:=o.lis m.listen.toNat x hx
 refine xe hd (.in_ (.inl ⟨by show (5:Int)<=5;decide,by show (5:Int)<=11;decide⟩) l0 (o.set hx ?_ fun j hj he=>?_) hh)
 ·rw [hw]
  rw [if_neg (by omega)] at q
  split <;> omega
 ·have he:m.listen=j:=he
  omega
theorem zoC (hi:HI L h w m) (p:m.pc=5) (hd:m.done=false) (hr:zO w m v g e=some r):Hn L h r:=by
 obtain ⟨l0,o,hh⟩:=hi.mid (by omega)
 unfold zO zbx at hr
 rw [if_neg (by omega),if_neg (by omega),if_neg (by omega),if_pos p,if_neg (by omega)] at hr
 obtain ⟨x,hx,rfl⟩:=Option.map_eq_some_iff.1 hr
 dsimp only
 cases hxd:x.drain
 ·simp only [Bool.false_eq_true,if_false]
  unfold xq
  split
  ·exact xe hd (.in_ (.inr ⟨by show (20:Int)<=20;decide,by show (20:Int)<=22;decide,by show (2:Int)≠1;decide⟩) l0 o hh)
  split
  ·exact xe hd (.in_ (.inl ⟨by show 5<=m.pc;omega,by show m.pc<=11;omega⟩) l0 o hh)
  split
  ·exact xe hd (.in_ (.inr ⟨by show (20:Int)<=20;decide,by show (20:Int)<=22;decide,by show (3:Int)≠1;decide⟩) l0 o hh)
  split
  ·exact xe hd (.in_ (.inl ⟨by show (5:Int)<=6;decide,by show (6:Int)<=11;decide⟩) l0 o hh)
  ·exact xe hd (.in_ (.inl ⟨by show (5:Int)<=7;decide,by show (7:Int)<=11;decide⟩) l0 o hh)
 ·simp only [if_true]
  exact xe hd (.in_ (.inr ⟨by show (20:Int)<=20;decide,by show (20:Int)<=22;decide,by show (5:Int)≠1;decide⟩) l0 o hh)
theorem zoD (hi:HI L h w m) (su:qP w m v g e) (p:m.pc=6) (hr:zO w m v g e=some r):Hn L h r:=by
 obtain ⟨l0,o,hh⟩:=hi.mid (by omega)
 unfold zO at hr
 rw [if_neg (by omega),if_neg (by omega),if_neg (by omega),if_neg (by omega),if_pos p] at hr
 obtain ⟨c,hc,rfl⟩:=Option.map_eq_some_iff.1 hr
 exact xe su.done (.in_ (.inl ⟨by show (5:Int)<=9;decide,by show (9:Int)<=11;decide⟩) l0 (o.vx su.at_ (e':=qQ e e.head e.zj) rfl (fun s hs=>hs) (Int.le_refl _)) ((zeJ su.at_ (e':=qQ e e.head e.zj) _ rfl).trans hh))
theorem zoe (hi:HI L h w m) (p:m.pc=7∨m.pc=8) (hd:m.done=false) (hr:zO w m v g e=some r):Hn L h r:=by
 obtain ⟨l0,o,hh⟩:=hi.mid (by omega)
 unfold zO at hr
 rcases p with p | p
 ·rw [if_neg (by omega),if_neg (by omega),if_neg (by omega),if_neg (by omega),if_neg (by omega),if_pos p] at hr
  cases hr
  exact xe hd (.in_ (.inl ⟨by show (5:Int)<=8;decide,by show (8:Int)<=11;decide⟩) l0 o hh)
 ·rw [if_neg (by omega),if_neg (by omega),if_neg (by omega),if_neg (by omega),if_neg (by omega),if_neg (by omega),if_pos p] at hr
  obtain ⟨e2,hc,rfl⟩:=Option.map_eq_some_iff.1 hr
  exact xe hd (.in_ (.inl ⟨by show (5:Int)<=9;decide,by show (9:Int)<=11;decide⟩) l0 o hh)
theorem zoE (hi:HI L h w m) (p:m.pc=9∨m.pc=10) (hd:m.done=false) (hr:zO w m v g e=some r):Hn L h r:=by
 obtain ⟨l0,o,hh⟩:=hi.mid (by omega)
 unfold zO at hr
 rcases p with p | p
 ·rw [if_neg (by omega),if_neg (by omega),if_neg (by omega),if_neg (by omega),if_neg (by omega),if_neg (by omega),if_neg (by omega),if_pos p] at hr
  by_cases q:0<=zB e.head∧zB e.head < e.next.length
  ·rw [if_pos q] at hr
   cases hr
   exact xe hd (.in_ (.inl ⟨by show (5:Int)<=10;decide,by show (10:Int)<=11;decide⟩) l0 o hh)
  ·rw [if_neg q] at hr
   cases hr
   exact xe hd (.in_ (.inr ⟨by show (20:Int)<=20;decide,by show (20:Int)<=22;decide,by show (4:Int)≠1;decide⟩) l0 o hh)
 ·rw [if_neg (by omega),if_neg (by omega),if_neg (by omega),if_neg (by omega),if_neg (by omega),if_neg (by omega),if_neg (by omega),if_neg (by omega),if_pos p] at hr
  obtain ⟨x,hc,rfl⟩:=Option.map_eq_some_iff.1 hr
  exact xe hd (.in_ (.inl ⟨by show (5:Int)<=11;decide,by show (11:Int)<=11;decide⟩) l0 o hh)
theorem zlv {e:En} {s k:Int} (he:e.ok) (hv:Slp.isV e=true) (hh:Slp.zB e=s) (h0:0<=s) (hk:Slp.nxt e.next s=k):(Slp.qn e).1=s::(Slp.qn (qQ e (Slp.z6 e.head k) e.zj)).1∧s ∉ (Slp.qn (qQ e (Slp.z6 e.head k) e.zj)).1:=by
 have hp:Slp.zmz e=(qQ e (Slp.z6 e.head k) e.zj,s,0):=by
  unfold Slp.zmz
  rw [if_neg (by simp [hv]),if_neg (by omega),hh,hk]
 obtain ⟨_,_,_,_,_,_,_,_,q⟩:=Slp.zmA he hp
 have q1:=congrArg Prod.fst q
 refine ⟨q1,?_⟩
 have hd:=Slp.zkq e.next (Slp.zB e)
 have hf:=congrArg Prod.fst (Slp.wB (Slp.k5 hv).1)
 simp only at hf
 rw [<- hf,q1,List.nodup_cons] at hd
 exact hd.1
theorem zn8 (st:St N K w) (su:qP w m v g e) (lo:jU w m v g e) (hi:HI L h w m) (p:m.pc=11) (hr:zO w m v g e=some r):Hn L h r:=by
 obtain ⟨f1,f2,f3,f4,f5,f6,f7⟩:=xm st su
 obtain ⟨l0,o,hh⟩:=hi.mid (by omega)
 obtain ⟨z1,z2⟩:=lo.slot (.inr p)
 have z3:=lo.link p
 have ss:=su.slot
 have h1:Slp.zB e=m.slot:=by rw [z1,<- z2];rfl
 have h2:Slp.nxt e.next m.slot=m.link:=by unfold Slp.nxt;rw [z3];rfl
 obtain ⟨q1,q2⟩:=zlv f6 f1 h1 ss.1 h2
 unfold zO at hr
 rw [if_neg (by omega),if_neg (by omega),if_neg (by omega),if_neg (by omega),if_neg (by omega),if_neg (by omega),if_neg (by omega),if_neg (by omega),if_neg (by omega),if_pos p,if_pos z2,<- z2] at hr
 cases hr
 generalize he':qQ e (Slp.z6 e.head m.link) e.zj=e' at q1 q2
 have hl:e'.next=e.next:=by rw [<- he']
 have ha:e'.zj=e.zj:=by rw [<- he']
 have sub:∀ s,s ∉ (Slp.qn e).1->s ∉ (Slp.qn e').1:=fun s hs hm=>hs (by rw [q1];exact List.mem_cons_of_mem _ hm)
 have hw:yB w m v g e g.zl (Slp.z6 e.head m.link) e.zj=tEW w m v g e' g.zl:=by rw [<- he']
 have hle:=zfp e
 have hE1:hE e'=hE e+1:=by
  unfold hE
  rw [hl]
  have:=congrArg List.length q1
  rw [List.length_cons] at this
  omega
 refine xe su.done ?_
 show HI L h (yB w m v g e g.zl (Slp.z6 e.head m.link) e.zj) _
 rw [hw]
 refine .got rfl l0 (o.vx su.at_ (by rw [hl]) sub (by omega)) ?_ ⟨⟨su.version.1,su.zg.1,su.end_.1,ss.1⟩,⟨l0,su.listen.2⟩,e',?_,?_,q2⟩ fun b hb hc=>?_
 ·have:=zbw su.atv su.atg su.ate e' g.zl
  show jB { w with zd:=w.zd.set m.version.toNat { v with zf:=v.zf.set m.zg.toNat { g with zl:=g.zl,ends:=g.ends.set m.end_.toNat e' } } }=_
  omega
 ·show vA (tEW w m v g e' g.zl) m.version m.zg m.end_=some e'
  rw [yT su.at_,if_pos ⟨rfl,rfl,rfl⟩]
 ·rw [hl]
  exact ss.2
 ·obtain ⟨_,_,e0,k1,k2,k3⟩:=o.zhy b hb
  obtain ⟨c1,c2,c3,c4⟩:=hc
  have c1:b.version=m.version:=c1
  have c2:b.zg=m.zg:=c2
  have c3:b.end_=m.end_:=c3
  have c4:b.slot=m.slot:=c4
  rw [c1,c2,c3,zaG su.at_] at k1
  cases k1
  refine k3 ?_
  rw [c4,q1]
  exact List.mem_cons_self ..
theorem zn9 (st:St N K w) (su:qP w m v g e) (hi:HI L h w m) (hK:K<=1099511627776) (p:m.pc=12) (hr:zO w m v g e=some r):Hn L h r:=by
 obtain ⟨f1,f2,f3,f4,f5,f6,f7⟩:=xm st su
 have hw:IntKind.i64.wrap (e.zj+1)=e.zj+1:=jz (by omega) (by omega)
 unfold zO at hr
 rw [if_neg (by omega),if_neg (by omega),if_neg (by omega),if_neg (by omega),if_neg (by omega),if_neg (by omega),if_neg (by omega),if_neg (by omega),if_neg (by omega),if_neg (by omega),if_pos p,hw] at hr
 cases hr
 cases hi with
 | out q o e=>omega
 | in_ q l o e=>omega
 | held q k o e=>omega
 | got q l o hh f d=>
  exact xe su.done (.held ⟨by show (20:Int)<=20;decide,by show (20:Int)≠22;decide⟩ rfl (o.snoc su.at_ (e':=qQ e e.head (e.zj+1)) f d rfl (fun s hs=>hs) rfl) ((zeJ su.at_ (e':=qQ e e.head (e.zj+1)) _ rfl).trans hh))
theorem zoa (st:St N K w) (su:qP w m v g e) (hi:HI L h w m) (p:m.pc=20) (hr:zO w m v g e=some r):Hn L h r:=by
 have kr:=zdp m.answer.kind
 obtain ⟨r2,hl,hc⟩:=v5 st su (pc:=21) kr.1 kr.2
 unfold zO at hr
 rw [if_neg (by omega),if_neg (by omega),if_neg (by omega),if_neg (by omega),if_neg (by omega),if_neg (by omega),if_neg (by omega),if_neg (by omega),if_neg (by omega),if_neg (by omega),if_neg (by omega),if_pos p,hc] at hr
 cases hr
 refine xe su.done ?_
 cases hi with
 | out q o hh=>exact .out (.inr ⟨by show (20:Int)<=21;decide,by show m.answer.kind≠1;omega,.inl (by show m.listen < 0;omega)⟩) (o.other rfl rfl) hh
 | in_ q l o hh=>exact .in_ (.inr ⟨by show (20:Int)<=21;decide,by show (21:Int)<=22;decide,by show m.answer.kind≠1;omega⟩) l (o.other rfl rfl) hh
 | got q l o hh f d=>omega
 | held q k o hh=>exact .held ⟨by show (20:Int)<=21;decide,by show (21:Int)≠22;decide⟩ k (o.other rfl rfl) hh
theorem zob (st:St N K w) (su:qP w m v g e) (hi:HI L h w m) (p:m.pc=21) (hr:zO w m v g e=some r):Hn L h r:=by
 obtain ⟨r2,hl,hc⟩:=v5 st su (k:=0) (pc:=if m.answer.kind=1∨m.listen < 0 then 23 else 22) (by decide) (by decide)
 unfold zO at hr
 rw [if_neg (by omega),if_neg (by omega),if_neg (by omega),if_neg (by omega),if_neg (by omega),if_neg (by omega),if_neg (by omega),if_neg (by omega),if_neg (by omega),if_neg (by omega),if_neg (by omega),if_neg (by omega),if_pos p,hc] at hr
 cases hr
 refine xe su.done ?_
 cases hi with
 | out q o hh=>
  rw [if_pos (by omega)]
  exact .out (.inr ⟨by show (20:Int)<=23;decide,by show m.answer.kind≠1;omega,.inr rfl⟩) (o.other rfl rfl) hh
 | in_ q l o hh=>
  rw [if_neg (by omega)]
  exact .in_ (.inr ⟨by show (20:Int)<=22;decide,by show (22:Int)<=22;decide,by show m.answer.kind≠1;omega⟩) l (o.other rfl rfl) hh
 | got q l o hh f d=>omega
 | held q k o hh=>
  rw [if_pos (.inl k)]
  exact .held ⟨by show (20:Int)<=23;decide,by show (23:Int)≠22;decide⟩ k (o.other rfl rfl) hh
theorem zoc (hi:HI L h w m) (p:m.pc=22) (hd:m.done=false) (lo:jU w m v g e) (cal:Cal K w) (hK:K<=1099511627776) (gw:j8 w) (hr:zO w m v g e=some r):Hn L h r:=by
 have l0:=lo.lis (.inr p)
 unfold zO zbx at hr
 rw [if_neg (by omega),if_neg (by omega),if_neg (by omega),if_neg (by omega),if_neg (by omega),if_neg (by omega),if_neg (by omega),if_neg (by omega),if_neg (by omega),if_neg (by omega),if_neg (by omega),if_neg (by omega),if_neg (by omega),if_pos p,if_neg (by omega)] at hr
 obtain ⟨x,hx,rfl⟩:=Option.map_eq_some_iff.1 hr
 have li:=wF (gw.lis _ x hx).1
 have ca:=cal.lis x (List.mem_of_getElem? hx)
 have hw:IntKind.i64.wrap (x.zj - 1)=x.zj - 1:=jz (by omega) (by omega)
 cases hi with
 | out q o hh=>omega
 | got q l o hh f d=>omega
 | held q k o hh=>omega
 | in_ q l o hh=>
  have q2:=o.lis m.listen.toNat x hx
  refine xe hd (.out (.inr ⟨by show (20:Int)<=23;decide,by show m.answer.kind≠1;omega,.inr rfl⟩) (o.set hx ?_ fun j hj he=>by omega) hh)
  rw [hw,if_neg (by omega)]
  rw [if_pos (by omega)] at q2
  omega
theorem zod (hi:HI L h w m) (p:m.pc=23) (hr:zO w m v g e=some r):Hn L h r:=by
 unfold zO at hr
 rw [if_neg (by omega),if_neg (by omega),if_neg (by omega),if_neg (by omega),if_neg (by omega),if_neg (by omega),if_neg (by omega),if_neg (by omega),if_neg (by omega),if_neg (by omega),if_neg (by omega),if_neg (by omega),if_neg (by omega),if_neg (by omega),if_pos p] at hr
 cases hr
 refine ⟨fun _=>?_,fun hx=>nomatch hx⟩
 cases hi with
 | out q o hh=>exact .inr ⟨by show m.answer.kind≠1;omega,o.other rfl rfl,hh⟩
 | in_ q l o hh=>omega
 | got q l o hh f d=>omega
 | held q k o hh=>exact .inl ⟨k,o.other rfl rfl,hh⟩
theorem ziM (st:St N K w) (su:qP w m v g e) (lo:jU w m v g e) (hK:K<=1099511627776) (hi:HI L h w m) (hr:zO w m v g e=some r):Hn L h r:=by
 have pc:=lo.pc
 by_cases h3:m.pc < 3
 ·exact znj hi (by omega) h3 su.done hr
 rcases (by omega:m.pc=3∨m.pc=4∨m.pc=5∨m.pc=6∨(m.pc=7∨m.pc=8)∨(m.pc=9∨m.pc=10)∨m.pc=11∨m.pc=12∨m.pc=20∨m.pc=21∨m.pc=22∨m.pc=23) with p | p | p | p | p | p | p | p | p | p | p | p
 ·exact zoA hi p su.done hr
 ·exact zoB hi p su.done lo st.cal hK st.jt hr
 ·exact zoC hi p su.done hr
 ·exact zoD hi su p hr
 ·exact zoe hi p su.done hr
 ·exact zoE hi p su.done hr
 ·exact zn8 st su lo hi p hr
 ·exact zn9 st su hi hK p hr
 ·exact zoa st su hi p hr
 ·exact zob st su hi p hr
 ·exact zoc hi p su.done lo st.cal hK st.jt hr
 ·exact zod hi p hr
end
end Go.Wor
namespace Go.Wor
open Go.Ab Go.Proofs Go.Gat Go.Nam Go.Hos Go.Con Go.Sna Go.Pla
open Go.Hy hiding encI
theorem zlu {N:Nat} {w:Wor} {m:Mac} {v:Ver} {g:Gr} {e:En} {r:Wor × Mac × Eve} (su:qP w m v g e) (t:TyW N w) (tm:TyM m) (hN:N<=100000000) (hk:m.op.kind=1) (h:zO w m v g e=some r):zc Tryz.prog 53 [] [Sw w,Sm m] (Sr r.1 r.2.1 r.2.2) []:=
 zS hk (zgk su (zdY su) t tm hN h)
theorem zbG {N:Nat} {w:Wor} {m:Mac} {v:Ver} {g:Gr} {e:En} {r:Wor × Mac × Eve} (su:qP w m v g e) (t:TyW N w) (tm:TyM m) (hN:N<=100000000) (hk:m.op.kind=2) (h:xx w m v g e=some r):zc Tryz.prog 53 [] [Sw w,Sm m] (Sr r.1 r.2.1 r.2.2) []:=
 xi hk (zgg su (zdY su) t tm hN h)
theorem zk1:∀ (n:Nat) {N K:Nat} {w:Wor} {m:Mac} {v:Ver} {g:Gr} {e:En} {L:List Ans} {h:Nat},muH w m<=n->St N K w->qP w m v g e->TyM m->jU w m v g e->m.op.kind=1->HI L h w m->N+n<=100000000->K+n<=1099511627776->
  ∃ n' w' m',jg n' w m w' m'∧n'<=n+1∧St (N+n+1) (K+n+1) w'∧w'.pins.length=w.pins.length∧kH m'∧Fi L h w' m'.answer:=by
 intro n
 induction n with
 | zero=>
  intro N K w m v g e L h hμ st su tm lo hk hi hN hK
  obtain ⟨⟨w',m',ev⟩,h1,h2⟩:=zdF st su tm lo hk (by omega) (by omega)
  have hp:=zlu su st.ty tm (by omega) hk h1
  have hn:=ziM st su lo (by omega) hi h1
  rcases h2.go with ⟨hd,hf⟩ | ⟨_,h3⟩
  ·exact ⟨1,w',m',.last hp h2.ev hd,by omega,h2.st.mono (by omega) (by omega),h2.pins,hf,hn.1 hd⟩
  ·omega
 | succ n ih=>
  intro N K w m v g e L h hμ st su tm lo hk hi hN hK
  obtain ⟨⟨w',m',ev⟩,h1,h2⟩:=zdF st su tm lo hk (by omega) (by omega)
  have hp:=zlu su st.ty tm (by omega) hk h1
  have hn:=ziM st su lo (by omega) hi h1
  rcases h2.go with ⟨hd,hf⟩ | ⟨⟨v',g',e',hs',lo'⟩,h3⟩
  ·exact ⟨1,w',m',.last hp h2.ev hd,by omega,h2.st.mono (by omega) (by omega),h2.pins,hf,hn.1 hd⟩
  ·obtain ⟨n',w2,m2,hg,hn',hst,hpi,hf,hfi⟩:=ih (by omega) h2.st hs' h2.tm lo' (by rw [h2.op];exact hk) (hn.2 hs'.done) (by omega) (by omega)
   exact ⟨n'+1,w2,m2,.more hp h2.ev hs'.done hg,by omega,hst.mono (by omega) (by omega),hpi.trans h2.pins,hf,hfi⟩
end Go.Wor
namespace Go.Wor
open Go.Ab Go.Proofs Go.Gat Go.Nam Go.Hos Go.Con Go.Sna Go.Pla
open Go.Hy hiding encI
theorem ziR (L:List Ans) (a:Ans) (i:Int):nL (a::L) i=nL L i+if a.listen=i then 1 else 0:=by
 unfold nL
 rw [List.countP_cons]
 simp
theorem ziQ (L:List Ans) (a:Ans) (i j k:Int):nE (a::L) i j k=nE L i j k+if a.version=i∧a.zg=j∧a.end_=k then 1 else 0:=by
 unfold nE
 rw [List.countP_cons]
 simp
abbrev opF:Opn:=⟨2,[],[],[],0,0,0,⟨[],[],[]⟩⟩
abbrev fnM (t:Int) (a:Ans) (pc word:Int):Mac:=⟨opF,t,pc,0,a.version,a.listen,a.zg,a.end_,0,a.slot,word,0,0,0,0,false,Beg.zcO,wg⟩
theorem zm1 {t:Int} {a:Ans} {pc word:Int} (h1:i64 a.listen) (h2:u64 word):TyM (fnM t a pc word):=⟨h1,h2,(by decide:(-1:Int)<=0∧(0:Int)<=2147483646),by show (0:Nat) < _;decide,by show (0:Nat) < _;decide,(by decide:i64 0),(by decide:i64 0),fun h=>absurd (show (2:Int)=3 from h) (by decide),fun h=>absurd (show (2:Int)=6 from h) (by decide)⟩
theorem zm0 (w:Wor) (m m':Mac) (v:Ver) (g:Gr) (x y:En) (tk:Int) (h1:m'.version=m.version) (h2:m'.zg=m.zg) (h3:m'.end_=m.end_):
  tEW (tEW w m v g x tk) m' { v with zf:=v.zf.set m.zg.toNat { g with zl:=tk,ends:=g.ends.set m.end_.toNat x } } { g with zl:=tk,ends:=g.ends.set m.end_.toNat x } y tk=tEW w m v g y tk:=by
 unfold tEW
 simp only [h1,h2,h3,List.set_set]
theorem zmS {w:Wor} {i j k:Int} {e:En} (h:vA w i j k=some e):∃ v g,w.zd[i.toNat]?= some v∧v.zf[j.toNat]?= some g∧g.ends[k.toNat]?= some e:=by
 unfold vA at h
 obtain ⟨v,h1,h⟩:=Option.bind_eq_some_iff.1 h
 obtain ⟨g,h2,h3⟩:=Option.bind_eq_some_iff.1 h
 exact ⟨v,g,h1,h2,h3⟩
theorem zj8 {e:En} {s:Int} (he:e.ok) (hv:Slp.isV e=true) (h0:0<=s) (h1:s < e.next.length) (hn:s ∉ (Slp.qn e).1):
  Slp.isV ⟨Slp.z6 e.head s,e.next.set s.toNat (Slp.zB e),e.zj⟩=true∧(⟨Slp.z6 e.head s,e.next.set s.toNat (Slp.zB e),e.zj⟩:En).ok∧(Slp.qn ⟨Slp.z6 e.head s,e.next.set s.toNat (Slp.zB e),e.zj⟩).1=s::(Slp.qn e).1:=by
 have hp:Slp.zi0 e s=(⟨Slp.z6 e.head s,e.next.set s.toNat (Slp.zB e),e.zj⟩,0):=by
  unfold Slp.zi0
  rw [if_neg (by simp [hv]),if_neg (by omega),if_neg (by simpa using hn)]
 obtain ⟨_,_,_,_,_,q1,q2,_,q3⟩:=Slp.zlz he hp
 exact ⟨q1,q2,congrArg Prod.fst q3⟩
abbrev zng (a:Ans):Ans:=⟨6,a.version,a.zg,a.end_,a.slot,a.listen,0,⟨0,0,0,0,0,0⟩⟩
theorem zk0 {N K:Nat} {w:Wor} {t:Int} {a:Ans} {L:List Ans} {h:Nat} (st:St N K w) (ht:0<=t∧t < w.pins.length) (ow:Own w (a::L) (-1)) (hh:jB w=h+1) (hN:N+1<=100000000) (hK:K+1<=1099511627776):
  ∃ w' m',jg 5 w (fnM t a 0 0) w' m'∧m'.answer=zng a∧St (N+1) (K+1) w'∧w'.pins.length=w.pins.length∧Own w' L (-1)∧jB w'=h:=by
 obtain ⟨⟨p1,p2,p3,p4⟩,⟨l0,l1⟩,e,hat,hs,hf⟩:=ow.zhy a (List.mem_cons_self ..)
 obtain ⟨v,g,a1,a2,a3⟩:=zmS hat
 have s1:=(List.getElem?_eq_some_iff.1 a1).1
 have s2:=(List.getElem?_eq_some_iff.1 a2).1
 have s3:=(List.getElem?_eq_some_iff.1 a3).1
 have su:qP w (fnM t a 0 0) v g e:=⟨qR.2 st.jt,ht,rfl,⟨p1,by show a.version < _;omega⟩,a1,⟨p2,by show a.zg < _;omega⟩,a2,⟨p3,by show a.end_ < _;omega⟩,a3,⟨Int.le_refl _,by show (0:Int) < _;omega⟩,⟨p4,hs⟩,⟨by show -1<=a.listen;omega,l1⟩,Int.le_refl _,Int.le_refl _⟩
 obtain ⟨f1,f2,f3,f4,f5,f6,f7⟩:=xm st su
 have lN:=st.ty.lis
 have li:i64 a.listen:=by unfold i64;omega
 have ty0:TyM (fnM t a 0 0):=zm1 li (by decide)
 have ty:∀ pc,TyM (fnM t a pc e.head):=fun pc=>zm1 li f6.1
 have hE1:=ow.ends _ _ _ e p1 p2 p3 hat
 rw [ziQ,if_pos ⟨rfl,rfl,rfl⟩] at hE1
 obtain ⟨x,hx⟩:∃ x,w.ze[a.listen.toNat]?= some x:=⟨_,List.getElem?_eq_getElem (by omega)⟩
 have hL1:=ow.lis a.listen.toNat x hx
 rw [ziR,if_pos (by omega),if_neg (by omega)] at hL1
 have hai:i64 e.zj:=f6.2.2
 have hw3:IntKind.i64.wrap (e.zj - 1)=e.zj - 1:=jz (by omega) (by omega)
 have lx:=wF (st.jt.lis _ x hx).1
 have cx:=st.cal.lis x (List.mem_of_getElem? hx)
 have hw4:IntKind.i64.wrap (x.zj - 1)=x.zj - 1:=jz (by omega) (by omega)
 obtain ⟨b1,b2⟩:=Slp.zjI (v:=Slp.zB e) f1 p4 hf
 obtain ⟨c1,c2,c3⟩:=zj8 f6 f1 p4 hs hf
 generalize hnx:e.next.set a.slot.toNat (Slp.zB e)=nx at b1 b2 c1 c2 c3
 have hlen:nx.length=e.next.length:=by rw [<- hnx,List.length_set]
 have d1:Slp.isV ⟨Slp.z6 e.head a.slot,nx,e.zj - 1⟩=true:=ziN c1 _ (by omega)
 have d2:(⟨Slp.z6 e.head a.slot,nx,e.zj - 1⟩:En).ok:=⟨c2.1,c2.2.1,by show i64 (e.zj - 1);unfold i64;omega⟩
 have d3:(Slp.qn ⟨Slp.z6 e.head a.slot,nx,e.zj - 1⟩).1=a.slot::(Slp.qn e).1:=c3
 have st':St (N+1) (K+1) w:=st.mono (by omega) (by omega)
 have stA:=st'.vx su.at_ (e':=⟨e.head,nx,e.zj⟩) (tk:=g.zl) b2 hlen ⟨f6.1,c2.2.1,f6.2.2⟩ f7 (by show e.zj<=_;omega)
 have stB:=st'.vx su.at_ (e':=⟨Slp.z6 e.head a.slot,nx,e.zj⟩) (tk:=g.zl) c1 hlen c2 f7 (by show e.zj<=_;omega)
 have stC:=st'.vx su.at_ (e':=⟨Slp.z6 e.head a.slot,nx,e.zj - 1⟩) (tk:=g.zl) d1 hlen d2 f7 (by show e.zj - 1<=_;omega)
 have su1:qP w (fnM t a 1 e.head) v g e:=⟨su.world,su.zo,rfl,su.version,su.atv,su.zg,su.atg,su.end_,su.ate,su.other,su.slot,su.listen,su.i,su.k⟩
 have suA:=y9 (e':=⟨e.head,nx,e.zj⟩) (m':=fnM t a 2 e.head) su hlen stA.jt rfl rfl rfl rfl rfl rfl rfl rfl rfl rfl
 have suB:=y9 (e':=⟨Slp.z6 e.head a.slot,nx,e.zj⟩) (m':=fnM t a 3 e.head) su hlen stB.jt rfl rfl rfl rfl rfl rfl rfl rfl rfl rfl
 have suC:=y9 (e':=⟨Slp.z6 e.head a.slot,nx,e.zj - 1⟩) (m':=fnM t a 4 e.head) su hlen stC.jt rfl rfl rfl rfl rfl rfl rfl rfl rfl rfl
 have q0:xx w (fnM t a 0 0) v g e=some (w,fnM t a 1 e.head,evV (fnM t a 0 0) v 1 8 (zB e.head)):=rfl
 have q1:xx w (fnM t a 1 e.head) v g e=some (tEW w (fnM t a 0 0) v g ⟨e.head,nx,e.zj⟩ g.zl,fnM t a 2 e.head,evV (fnM t a 1 e.head) v 2 9 (zB e.head)):=by rw [<- hnx];rfl
 have q2:xx (tEW w (fnM t a 0 0) v g ⟨e.head,nx,e.zj⟩ g.zl) (fnM t a 2 e.head) { v with zf:=v.zf.set (fnM t a 0 0).zg.toNat { g with zl:=g.zl,ends:=g.ends.set (fnM t a 0 0).end_.toNat ⟨e.head,nx,e.zj⟩ } } { g with zl:=g.zl,ends:=g.ends.set (fnM t a 0 0).end_.toNat ⟨e.head,nx,e.zj⟩ } ⟨e.head,nx,e.zj⟩=some (tEW w (fnM t a 0 0) v g ⟨Slp.z6 e.head a.slot,nx,e.zj⟩ g.zl,fnM t a 3 e.head,{ evV (fnM t a 2 e.head) { v with zf:=v.zf.set (fnM t a 0 0).zg.toNat { g with zl:=g.zl,ends:=g.ends.set (fnM t a 0 0).end_.toNat ⟨e.head,nx,e.zj⟩ } } 4 8 a.slot with wT:=true }):=by
  unfold xx
  rw [if_neg (by show ¬(2:Int)=0;decide),if_neg (by show ¬(2:Int)=1;decide),if_pos (by rfl),if_pos (by rfl)]
  rw [<- zm0 w (fnM t a 0 0) (fnM t a 2 e.head) v g ⟨e.head,nx,e.zj⟩ ⟨Slp.z6 e.head a.slot,nx,e.zj⟩ g.zl rfl rfl rfl]
 have q3:xx (tEW w (fnM t a 0 0) v g ⟨Slp.z6 e.head a.slot,nx,e.zj⟩ g.zl) (fnM t a 3 e.head) { v with zf:=v.zf.set (fnM t a 0 0).zg.toNat { g with zl:=g.zl,ends:=g.ends.set (fnM t a 0 0).end_.toNat ⟨Slp.z6 e.head a.slot,nx,e.zj⟩ } } { g with zl:=g.zl,ends:=g.ends.set (fnM t a 0 0).end_.toNat ⟨Slp.z6 e.head a.slot,nx,e.zj⟩ } ⟨Slp.z6 e.head a.slot,nx,e.zj⟩=some (tEW w (fnM t a 0 0) v g ⟨Slp.z6 e.head a.slot,nx,e.zj - 1⟩ g.zl,fnM t a 4 e.head,evV (fnM t a 3 e.head) { v with zf:=v.zf.set (fnM t a 0 0).zg.toNat { g with zl:=g.zl,ends:=g.ends.set (fnM t a 0 0).end_.toNat ⟨Slp.z6 e.head a.slot,nx,e.zj⟩ } } 3 7 (e.zj - 1)):=by
  unfold xx
  rw [if_neg (by show ¬(3:Int)=0;decide),if_neg (by show ¬(3:Int)=1;decide),if_neg (by show ¬(3:Int)=2;decide),if_pos (by rfl)]
  dsimp only
  rw [hw3,<- zm0 w (fnM t a 0 0) (fnM t a 3 e.head) v g ⟨Slp.z6 e.head a.slot,nx,e.zj⟩ ⟨Slp.z6 e.head a.slot,nx,e.zj - 1⟩ g.zl rfl rfl rfl]
 have q4:xx (tEW w (fnM t a 0 0) v g ⟨Slp.z6 e.head a.slot,nx,e.zj - 1⟩ g.zl) (fnM t a 4 e.head) { v with zf:=v.zf.set (fnM t a 0 0).zg.toNat { g with zl:=g.zl,ends:=g.ends.set (fnM t a 0 0).end_.toNat ⟨Slp.z6 e.head a.slot,nx,e.zj - 1⟩ } } { g with zl:=g.zl,ends:=g.ends.set (fnM t a 0 0).end_.toNat ⟨Slp.z6 e.head a.slot,nx,e.zj - 1⟩ } ⟨Slp.z6 e.head a.slot,nx,e.zj - 1⟩=some ({ tEW w (fnM t a 0 0) v g ⟨Slp.z6 e.head a.slot,nx,e.zj - 1⟩ g.zl with ze:=w.ze.set a.listen.toNat { x with zj:=x.zj - 1 } },{ fnM t a 4 e.head with answer:=zng a,done:=true },zkW (fnM t a 4 e.head) x):=by
  unfold xx zbx
  rw [if_neg (by show ¬(4:Int)=0;decide),if_neg (by show ¬(4:Int)=1;decide),if_neg (by show ¬(4:Int)=2;decide),if_neg (by show ¬(4:Int)=3;decide),if_pos (by rfl),if_neg (by show ¬a.listen < 0;omega)]
  show Option.map _ (w.ze[a.listen.toNat]?)=_
  rw [hx,Option.map_some]
  show some (_,_,_)=_
  unfold zb6
  rw [hw4]
 refine ⟨_,_,.more (zbG su st'.ty ty0 (by omega) rfl q0) (by show (1:Int)≠0;decide) rfl (.more (zbG su1 st'.ty (ty 1) (by omega) rfl q1) (by show (2:Int)≠0;decide) rfl (.more (zbG suA stA.ty (ty 2) (by omega) rfl q2) (by show (4:Int)≠0;decide) rfl (.more (zbG suB stB.ty (ty 3) (by omega) rfl q3) (by show (3:Int)≠0;decide) rfl (.last (zbG suC stC.ty (ty 4) (by omega) rfl q4) (by show (3:Int)≠0;decide) rfl)))),rfl,?_,rfl,?_,?_⟩
 ·exact stC.zcD (x:=x) hx rfl (zgp lx.1 (by show 0<=x.zj - 1;omega) lx.2.2) (by show i64 (x.zj - 1);unfold i64;omega) (by show x.zj - 1<=_;omega)
 ·have dif:=List.pairwise_cons.1 ow.diff
  refine ⟨fun b hb=>?_,dif.2,fun i l hl=>?_,fun i j k e0 hi hj hk he=>?_⟩
  ·have fb:=ow.zhy b (List.mem_cons_of_mem _ hb)
   refine zd8.other (w:=tEW w (fnM t a 0 0) v g ⟨Slp.z6 e.head a.slot,nx,e.zj - 1⟩ g.zl) (fb.vx su.at_ hlen fun k1 k2 k3 k4=>?_) rfl (by simp)
   rw [d3]
   intro hm
   rcases List.mem_cons.1 hm with hm | hm
   ·exact dif.1 b hb ⟨k2.symm,k3.symm,k4.symm,hm.symm⟩
   ·exact k1 hm
  ·rcases kf hl with ⟨rfl,rfl,_⟩ | ⟨hne,hl⟩
   ·rw [if_neg (by omega)]
    show _<=x.zj - 1
    omega
   ·have:=ow.lis i l hl
    rw [ziR,if_neg (by omega)] at this
    exact this
  ·have he:vA (tEW w (fnM t a 0 0) v g ⟨Slp.z6 e.head a.slot,nx,e.zj - 1⟩ g.zl) i j k=some e0:=he
   rw [yT su.at_] at he
   split at he
   ·rename_i q
    cases he
    have k1:i=a.version:=by have:=q.1;have this:i.toNat=a.version.toNat:=this;omega
    have k2:j=a.zg:=by have:=q.2.1;have this:j.toNat=a.zg.toNat:=this;omega
    have k3:k=a.end_:=by have:=q.2.2;have this:k.toNat=a.end_.toNat:=this;omega
    rw [k1,k2,k3]
    show _<=e.zj - 1
    omega
   ·rename_i q
    have:=ow.ends i j k e0 hi hj hk he
    rw [ziQ,if_neg] at this
    ·exact this
    ·rintro ⟨q1,q2,q3⟩
     exact q ⟨by show i.toNat=a.version.toNat;rw [q1],by show j.toNat=a.zg.toNat;rw [q2],by show k.toNat=a.end_.toNat;rw [q3]⟩
 ·have ht:=zbw su.atv su.atg su.ate ⟨Slp.z6 e.head a.slot,nx,e.zj - 1⟩ g.zl
  have hle:=zfp ⟨Slp.z6 e.head a.slot,nx,e.zj - 1⟩
  show jB { w with zd:=w.zd.set (fnM t a 0 0).version.toNat { v with zf:=v.zf.set (fnM t a 0 0).zg.toNat { g with zl:=g.zl,ends:=g.ends.set (fnM t a 0 0).end_.toNat ⟨Slp.z6 e.head a.slot,nx,e.zj - 1⟩ } } }=h
  have e1:hE e=e.next.length - (Slp.qn e).1.length:=rfl
  have e2:hE ⟨Slp.z6 e.head a.slot,nx,e.zj - 1⟩=nx.length - (Slp.qn ⟨Slp.z6 e.head a.slot,nx,e.zj - 1⟩).1.length:=rfl
  rw [d3,List.length_cons] at e2 hle
  have hle:(Slp.qn e).1.length+1<=nx.length:=hle
  omega
abbrev nfM (t:Int):Mac:=⟨opF,t,9,0,0, -1,0,0,0,0,0,0,0,0,0,false,Beg.zcO,wg⟩
theorem zjy {N K:Nat} {w:Wor} {t:Int} (st:St N K w) (ht:0<=t∧t < w.pins.length) (hN:N<=100000000):∃ m',jg 1 w (nfM t) w m'∧m'.answer=zcn 7:=by
 obtain ⟨v,g,e,su⟩:=zck st.jt (m:=nfM t) ht rfl rfl rfl rfl rfl rfl rfl rfl rfl
 have q0:xx w (nfM t) v g e=some (w,{ nfM t with answer:=zcn 7,done:=true },zlj (nfM t)):=rfl
 have ty0:TyM (nfM t):=⟨(by decide:i64 (-1)),(by decide:u64 0),(by decide:(-1:Int)<=0∧(0:Int)<=2147483646),by show (0:Nat) < _;decide,by show (0:Nat) < _;decide,(by decide:i64 0),(by decide:i64 0),fun h=>absurd (show (2:Int)=3 from h) (by decide),fun h=>absurd (show (2:Int)=6 from h) (by decide)⟩
 exact ⟨_,.last (zbG su st.ty ty0 hN rfl q0) (by show (1:Int)≠0;decide) rfl,rfl⟩
end Go.Wor
namespace Go.Pla
open Go.Ab Go.Proofs Go.Hy
theorem zde {α:Type} {p q:α->Bool}:∀ {l:List α},(∀ x ∈ l,p x=q x)->l.findIdx? p=l.findIdx? q
 | [],_=>rfl
 | x::l,h=>by
  rw [List.findIdx?_cons,List.findIdx?_cons,h x (List.mem_cons_self ..),zde fun y hy=>h y (List.mem_cons_of_mem _ hy)]
theorem ziF (given:List Ans) (a f:Ans) {n:Nat} (h:n < given.length):atV (given++[a]) f n=atV given f n:=by
 unfold atV
 rw [List.getElem?_append_left h]
theorem zdD (given:List Ans) (a:Ans):∀ k,k<=given.length->qE (given++[a]) k=qE given k
 | 0,_=>rfl
 | k+1,h=>by
  show wR (given++[a]) (qE (given++[a]) k) k=wR given (qE given k) k
  have hlt:=yo given k (by omega)
  rw [zdD given a k (by omega)]
  unfold wR
  rw [List.getElem?_append_left (by omega)]
  cases hx:given[k]? with
  | none=>rfl
  | some x=>
   dsimp only
   rw [zde (p:=atV (given++[a]) x) (q:=atV given x) fun n hn=>ziF given a x (by have:=hlt n hn;omega)]
theorem zbA (given:List Ans) (a:Ans):qS (given++[a])=if a.kind=1 then qS given++[given.length] else match (qS given).findIdx? (atV given a) with
  | some k=>(qS given).eraseIdx k
  | none=>qS given:=by
 have hlt:=yo given given.length (Nat.le_refl _)
 unfold qS
 rw [List.length_append,List.length_singleton]
 show wR (given++[a]) (qE (given++[a]) given.length) given.length=_
 rw [zdD given a _ (Nat.le_refl _)]
 unfold wR
 rw [List.getElem?_append_right (Nat.le_refl _),Nat.sub_self]
 show (if a.kind=1 then _ else match (qE given given.length).findIdx? (atV (given++[a]) a) with | some k=>_ | none=>_)=_
 rw [zde (p:=atV (given++[a]) a) (q:=atV given a) fun n hn=>ziF given a a (hlt n hn)]
def yP (given L:List Ans):Prop:=(qS given).map (fun i=>given[i]?)=L.map some
theorem yP.len {given L:List Ans} (h:yP given L):(qS given).length=L.length:=by
 have:=congrArg List.length h
 simpa using this
theorem zmm:yP [] []:=rfl
theorem zdt (given:List Ans) (a:Ans) (l:List Nat) (h:∀ n ∈ l,n < given.length):l.map (fun i=>(given++[a])[i]?)=l.map fun i=>given[i]?:=
 List.map_congr_left fun n hn=>List.getElem?_append_left (h n hn)
theorem yP.znE {given L:List Ans} (h:yP given L) {a:Ans} (ha:a.kind=1):yP (given++[a]) (L++[a]):=by
 have hlt:∀ n ∈ qS given,n < given.length:=yo given given.length (Nat.le_refl _)
 unfold yP at h ⊢
 rw [zbA,if_pos ha,List.map_append,zdt given a _ hlt,h,List.map_append]
 simp
theorem yP.other {given L:List Ans} (h:yP given L) {a:Ans} (ha:a.kind≠1) (h6:a.kind≠6):yP (given++[a]) L:=by
 have hlt:∀ n ∈ qS given,n < given.length:=yo given given.length (Nat.le_refl _)
 have e:(qS given).findIdx? (atV given a)=none:=by
  rw [List.findIdx?_eq_none_iff]
  intro n hn
  unfold atV
  split
  ·unfold xE
   rw [decide_eq_false h6]
   rfl
  ·rfl
 unfold yP at h ⊢
 rw [zbA,if_neg ha,e]
 dsimp only
 rw [zdt given a _ hlt,h]
theorem yP.head {given L:List Ans} {b:Ans} (h:yP given (b::L)):∃ i l,qS given=i::l∧given[i]?= some b∧l.map (fun i=>given[i]?)=L.map some:=by
 unfold yP at h
 cases ho:qS given with
 | nil=>rw [ho] at h;cases h
 | cons i l=>
  rw [ho,List.map_cons,List.map_cons] at h
  obtain ⟨h1,h2⟩:=List.cons.inj h
  exact ⟨i,l,rfl,h1,h2⟩
theorem yP.ended {given L:List Ans} {b f:Ans} (h:yP given (b::L)) (he:xE f b=true):yP (given++[f]) L:=by
 have hlt:∀ n ∈ qS given,n < given.length:=yo given given.length (Nat.le_refl _)
 have h6:f.kind=6:=by
  unfold xE at he
  simp only [Bool.and_eq_true,decide_eq_true_eq] at he
  exact he.1
 obtain ⟨i,l,h1,h2,h3⟩:=h.head
 have e:(qS given).findIdx? (atV given f)=some 0:=by
  rw [h1,List.findIdx?_cons]
  unfold atV
  rw [h2]
  dsimp only
  rw [if_pos he]
 have hl:∀ n ∈ l,n < given.length:=fun n hn=>hlt n (by rw [h1];exact List.mem_cons_of_mem _ hn)
 unfold yP
 rw [zbA,if_neg (by omega),e,h1]
 show l.map _=_
 rw [zdt given f _ hl,h3]
end Go.Pla
namespace Go.Beg
open Go.Ab Go.Proofs Go.Hy Go.Pla
theorem ziq {o:Opn} {given L:List Ans} {b:Ans} (h:yP given (b::L)) (hn:o.n=0):wi o given=b:=by
 obtain ⟨i,l,h1,h2,_⟩:=h.head
 unfold wi
 rw [h1,hn,if_pos ⟨Int.le_refl _,by simp⟩]
 show (given[i]?).getD zcO=b
 rw [h2]
 rfl
theorem zir {o:Opn} {given:List Ans} (h:yP given []) (hn:o.n=0):wi o given=zcO:=by
 refine zbK ?_
 rintro ⟨_,h1⟩
 have:=h.len
 simp at this
 rw [this,hn] at h1
 simp at h1
end Go.Beg
namespace Go.Wor
open Go.Ab Go.Proofs Go.Gat Go.Nam Go.Hos Go.Con Go.Sna Go.Pla
open Go.Hy hiding encI
theorem zjj {t:Int} {given L:List Ans} {b:Ans} (h:yP given (b::L)) (hb:b.kind=1):Beg.yr t opF given=fnM t b 0 0:=by
 unfold Beg.yr
 rw [if_pos rfl,Beg.ziq h rfl]
 unfold Beg.zaL
 rw [if_pos hb,if_pos hb]
theorem zha {t:Int} {given:List Ans} (h:yP given []):Beg.yr t opF given=nfM t:=by
 unfold Beg.yr
 rw [if_pos rfl,Beg.zir h rfl]
 rfl
theorem zkS (b:Ans) (hb:b.kind=1):Pla.xE (zng b) b=true:=by
 unfold Pla.xE
 simp [hb]
end Go.Wor
namespace Go.Wor
open Go.Ab Go.Proofs Go.Gat Go.Nam Go.Hos Go.Con Go.Sna Go.Pla
open Go.Hy hiding encI
structure S1 (N K:Nat) (w0:Wor) (given L:List Ans) (x:Wor):Prop where
 st:St N K x
 pins:x.pins.length=w0.pins.length
 own:Own x L (-1)
 held:jB x=jB w0+L.length
 opn:yP given L
 zh5:∀ b ∈ L,b.kind=1
theorem zmv {N K:Nat} {w:Wor} (st:St N K w):Own w [] (-1):=by
 refine ⟨(fun _ h=>nomatch h),List.Pairwise.nil,fun i l h=>?_,fun i j k e hi hj hk h=>?_⟩
 ·have:=(wF (st.jt.lis i l h).1).2.1
  show ((0+_:Nat):Int)<=_
  rw [if_neg (by omega)]
  exact this
 ·obtain ⟨v,g,h1,h2,h3⟩:=zmS h
  have f:=((st.jt.ver _ v h1).1.few.2 g (List.mem_of_getElem? h2)).2.2 e (List.mem_of_getElem? h3)
  exact (Slp.k5 f.1).2.2.2
theorem S1.begin {N K:Nat} {w:Wor} (st:St N K w):S1 N K w [] [] w:=⟨st,rfl,zmv st,rfl,zmm,fun _ h=>nomatch h⟩
abbrev hM0 (t:Int) (o:Opn):Mac:=⟨o,t,0,0,0, -1,0,0,0,0,0,0,0,0,0,false,Beg.zcO,wg⟩
theorem zes (t:Int) (o:Opn) (given:List Ans) (hk:o.kind=1):Beg.yr t o given=hM0 t o:=by
 unfold Beg.yr
 rw [if_neg (by omega)]
theorem S1.req {N K:Nat} {w0 x:Wor} {given L:List Ans} {t:Int} {o:Opn} (s:S1 N K w0 given L x) (ht:0<=t∧t < w0.pins.length) (hk:o.kind=1) (ho:o.okW) (hh:o.host.length<=100) (hp:o.path.length<=100) (hN:N+30<=100000000) (hK:K+30<=1099511627776):
  ∃ n y m' L',jg n x (Beg.yr t o given) y m'∧n<=3000∧S1 (N+30) (K+30) w0 (given++[m'.answer]) L' y∧L'.length<=L.length+1:=by
 rw [zes t o given hk]
 obtain ⟨v,g,e,su⟩:=zck s.st.jt (m:=hM0 t o) (by rw [s.pins];exact ht) rfl rfl rfl rfl rfl rfl rfl rfl rfl
 have ty:TyM (hM0 t o):=⟨(by decide:i64 (-1)),(by decide:u64 0),(by decide:(-1:Int)<=0∧(0:Int)<=2147483646),by show o.host.length < _;omega,by show o.path.length < _;omega,ho.2.1,ho.2.2,fun h=>absurd (show o.kind=3 from h) (by omega),fun _ _=>rfl⟩
 have lo:jU x (hM0 t o) v g e:=by constructor <;> dsimp only <;> omega
 obtain ⟨n,y,m',h1,h2,h3,h4,h5,h6⟩:=zk1 24 (by unfold muH;show (24 - 0:Int).toNat<=24;decide) s.st su ty lo hk (HI.out (.inl (by show (0:Int)<=4;decide)) s.own s.held) (by omega) (by omega)
 rcases h6 with ⟨k1,k2,k3⟩ | ⟨k1,k2,k3⟩
 ·refine ⟨n,y,m',L++[m'.answer],h1,by omega,⟨h3.mono (by omega) (by omega),h4.trans s.pins,k2,by rw [k3,List.length_append,List.length_singleton];omega,s.opn.znE k1,fun b hb=>?_⟩,by simp⟩
  rcases List.mem_append.1 hb with hb | hb
  ·exact s.zh5 b hb
  ·rw [List.mem_singleton.1 hb]
   exact k1
 ·exact ⟨n,y,m',L,h1,by omega,⟨h3.mono (by omega) (by omega),h4.trans s.pins,k2,k3,s.opn.other k1 (by have:=h5.2;omega),s.zh5⟩,by omega⟩
theorem S1.fin {N K:Nat} {w0 x:Wor} {given L:List Ans} {t:Int} (s:S1 N K w0 given L x) (ht:0<=t∧t < w0.pins.length) (hN:N+30<=100000000) (hK:K+30<=1099511627776):
  ∃ n y m' L',jg n x (Beg.yr t opF given) y m'∧n<=3000∧S1 (N+30) (K+30) w0 (given++[m'.answer]) L' y∧L'.length=L.length - 1:=by
 cases L with
 | nil=>
  rw [zha s.opn]
  obtain ⟨m',h1,h2⟩:=zjy s.st (by rw [s.pins];exact ht) (by omega)
  exact ⟨1,x,m',[],h1,by omega,⟨s.st.mono (by omega) (by omega),s.pins,s.own,s.held,s.opn.other (by rw [h2];show (7:Int)≠1;decide) (by rw [h2];show (7:Int)≠6;decide),s.zh5⟩,rfl⟩
 | cons b L=>
  have hb:=s.zh5 b (List.mem_cons_self ..)
  rw [zjj s.opn hb]
  obtain ⟨y,m',h1,h2,h3,h4,h5,h6⟩:=zk0 (h:=jB w0+L.length) s.st (by rw [s.pins];exact ht) s.own (by rw [s.held,List.length_cons];omega) (by omega) (by omega)
  exact ⟨5,y,m',L,h1,by omega,⟨h3.mono (by omega) (by omega),h4.trans s.pins,h5,h6,by rw [h2];exact s.opn.ended (zkS b hb),fun c hc=>s.zh5 c (List.mem_cons_of_mem _ hc)⟩,by simp⟩
end Go.Wor
namespace Go.Wor
open Go.Ab Go.Proofs Go.Gat Go.Nam Go.Hos Go.Con Go.Sna Go.Pla
open Go.Hy hiding encI
theorem WC.zoz {a b:List C} (h:WCs a b):WC (.agg a) (.agg b):=fun E y hl=>by
 cases hl with
 | agg cs ys h1 h2 h3=>
  have h:=(h.LL (E:=E) (ys:=ys.toList) ⟨by simpa using h1,fun i c y e1 e2=>h2 i c y e1 (by simpa using e2)⟩)
  exact .agg b ys (by simpa using h.1) (fun i c y e1 e2=>h.2 i c y e1 (by simpa using e2)) h3
theorem planeAll_sound (w:Wor) (t:Int) (o:Opn) (n:Int) (hw:Hy.Wor.okW w) (ho:o.okW):zc Tryz.prog 3 [] [Cw w,I t,.agg (zc2 o),I n] (Bo true) []:=by
 have hk:=zot hw
 have bg:zc Tryz.prog 18 [] [I t,.agg (zc2 { o with kind:=1 }),.lst 1 0 []] (Cm (hM0 t { o with kind:=1 })) []:=by
  have h:=(Beg.jP t { o with kind:=1 } [] (by decide)).pre (.cons (.refl _) (.cons (.refl _) (.cons (fun E y h=>WC.share 1 13 _ E y (WC.none 1 0 13 E y h)) .nil)))
  rw [zes t _ [] rfl] at h
  exact h
 refine zc.zr (fn:=Tryz.f3) Tryz.func3 rfl ?_
 conv=>whnf
 refine .inl ⟨⟨false,[],[],[]⟩,by kernel_rfl,?_⟩;(conv=>whnf)
 refine ⟨_,_,(zhc w hk.wk).frame rfl _,?_⟩;refine dd ?_
 refine ⟨fun h1=>?_,fun h1=>?_⟩
 ·(refine dd ?_;(try (repeat ((first | apply ya | apply yb);refine dd ?_)));refine ⟨_,_,(jy).frame rfl _,?_⟩;refine dd ?_;(repeat ((first | apply ya | apply yb);refine dd ?_));exact ⟨.inl rfl,_,.refl _,rfl⟩)
 refine dd ?_
 refine ⟨_,_,(zf6 w hk.wk).frame rfl _,?_⟩;refine dd ?_
 refine ⟨fun h2=>?_,fun h2=>?_⟩
 rotate_left
 ·(refine dd ?_;(try (repeat ((first | apply ya | apply yb);refine dd ?_)));refine ⟨_,_,(jy).frame rfl _,?_⟩;refine dd ?_;(repeat ((first | apply ya | apply yb);refine dd ?_));exact ⟨.inl rfl,_,.refl _,rfl⟩)
 have h2:kz w=false:=by simpa using h2
 refine dd ?_
 refine ⟨fun h3=>?_,fun h3=>?_⟩
 ·(refine dd ?_;(try (repeat ((first | apply ya | apply yb);refine dd ?_)));refine ⟨_,_,(jy).frame rfl _,?_⟩;refine dd ?_;(repeat ((first | apply ya | apply yb);refine dd ?_));exact ⟨.inl rfl,_,.refl _,rfl⟩)
 have h3:0<=n:=by simpa using h3
 refine dd ?_
 refine ⟨fun h4=>?_,fun h4=>?_⟩
 ·(refine dd ?_;(try (repeat ((first | apply ya | apply yb);refine dd ?_)));refine ⟨_,_,(jy).frame rfl _,?_⟩;refine dd ?_;(repeat ((first | apply ya | apply yb);refine dd ?_));exact ⟨.inl rfl,_,.refl _,rfl⟩)
 have h4:n<=8:=by simpa using h4
 refine dd ?_
 refine ⟨fun h5=>?_,fun h5=>?_⟩
 ·(refine dd ?_;(try (repeat ((first | apply ya | apply yb);refine dd ?_)));refine ⟨_,_,(jy).frame rfl _,?_⟩;refine dd ?_;(repeat ((first | apply ya | apply yb);refine dd ?_));exact ⟨.inl rfl,_,.refl _,rfl⟩)
 have h5:o.host.length<=100:=by simp at h5;omega
 refine dd ?_
 refine ⟨fun h6=>?_,fun h6=>?_⟩
 ·(refine dd ?_;(try (repeat ((first | apply ya | apply yb);refine dd ?_)));refine ⟨_,_,(jy).frame rfl _,?_⟩;refine dd ?_;(repeat ((first | apply ya | apply yb);refine dd ?_));exact ⟨.inl rfl,_,.refl _,rfl⟩)
 have h6:o.path.length<=100:=by simp at h6;omega
 refine dd ?_
 refine ⟨_,_,(bg).frame rfl _,?_⟩;refine dd ?_
 refine ⟨_,_,(zU w (hM0 t { o with kind:=1 }) (znq hw h1) (by decide:i64 (-1))).frame rfl _,?_⟩;refine dd ?_
 refine ⟨fun h7=>?_,fun h7=>?_⟩
 rotate_left
 ·(refine dd ?_;(try (repeat ((first | apply ya | apply yb);refine dd ?_)));refine ⟨_,_,(jy).frame rfl _,?_⟩;refine dd ?_;(repeat ((first | apply ya | apply yb);refine dd ?_));exact ⟨.inl rfl,_,.refl _,rfl⟩)
 have h7:qc w (hM0 t { o with kind:=1 })=true:=by simpa using h7
 obtain ⟨v0,g0,e0,su⟩:=vT h7
 have gw:=qR.1 su.world
 have st:St 60 1000000 w:=⟨gw,zor hw h1,znf h2⟩
 have ht:=su.zo
 have ho':({ o with kind:=1 }:Opn).okW:=ho
 obtain ⟨N,rfl⟩:∃ N:Nat,n=N:=⟨n.toNat,by omega⟩
 have hN:N<=8:=by omega
 have hw0:=kX w (zcB gw st.ty (by decide))
 refine dd ?_
 (try (repeat ((first | apply ya | apply yb);refine dd ?_)))
 refine qb.inv (fun i t1 H1=>∃ (k:Nat) (given L:List Ans) (x:Wor),k+i=N∧given.length=k∧L.length<=k∧S1 (60+30 * k) (1000000+30 * k) w given L x∧t1=(let n:Int:=(N:Int);(.za::I t:: .za::I n:: .ref 0 [] 8 0 0:: .za::.ref 1 [] 10 0 0:: .za::Bo false:: .gl 3 13 (given.map qq):: .ref 2 [] 8 0 0::I k:: .za::.za::.za::.za::.za::.za::.za::.za::.za::.za::.za::.za::.za::.za::.za::.za::.za::.za::.za::.za::.za::.za::.za::.za::.za::.za::.za::.za::.za::.za::.za::.za::.za::.za::.za::.za::.za::.za::.za::.za::.za::.za::.za::.za::.za::.za::.za::.za::.za::.za::.za::.za::.za::.za::.za::.za::.za::.za::.za::.za::.za::.za::.za::.za::.za::.za::.za::.za::.za::.za::.za::.za::.za::.za::.za::.za::.za::.za::.za::.za::.za::.za::.za::.za::.za::.za::.za::.za::.za::.za::.za::.za::.za::.za::.za::.za::.za::.za::.za::.za::.za::.za::.za::.za::.za::.za::.za::.za::.za::.za::.za::.za::.za::.za::.za::.za::.za::[]))∧H1=[⟨1,28,8,[z5 (w)],0⟩,⟨1,35,10,[zc2 ({ o with kind:=1 })],0⟩,⟨1,28,8,[z5 (x)],0⟩,⟨4,41,13,(given).map qq,0⟩]) N ?_ ?_
 ·exact ⟨_,_,(zq.grow 9 41 13 rfl (.inl rfl)).trans (cC),0,[],[],w,by simp,rfl,Nat.le_refl _,S1.begin st,rfl,rfl⟩
 rintro i _ _ ⟨k,given,L,x,hki,hgl,hLl,s,rfl,rfl⟩
 dsimp only
 have mA:(given.map qq).length=given.length:=List.length_map ..
 conv=>whnf
 by_cases hi:i=0
 ·subst hi
  clear bg
  have ek:k=N:=by omega
  subst ek
  have gx:=s.st.jt
  have hx:=kX x (zcB gx s.st.ty (by omega))
  have hop:=kj given (by omega)
  have mo:(((qS given).map fun (n:Nat)=>(n:Int)).map Go.Hy.encI).length=L.length:=by rw [List.length_map,List.length_map,s.opn.len]
  have hhx:=s.held
  refine ⟨fun h=>absurd h (by simp),fun _=>?_⟩
  refine dd ?_
  (refine .inr ⟨by simp,?_⟩);(conv=>whnf)
  refine .inl ⟨⟨false,[],[],[]⟩,by kernel_rfl,?_⟩;(conv=>whnf)
  refine ⟨_,_,(hx).frame rfl _,?_⟩;refine dd ?_
  refine ⟨_,_,(hw0).frame rfl _,?_⟩;refine dd ?_
  refine ⟨_,_,(hop).frame rfl _,?_⟩;refine dd ?_
  rw [mo]
  have e1:IntKind.i64.wrap (((jB w:Nat):Int)+(L.length:Int))=((jB x:Nat):Int):=by
   have b:=(zcB gx s.st.ty (by omega)).sum
   rw [jz (by omega) (by omega)]
   omega
  rw [e1]
  refine ⟨fun h=>absurd h (by simp),fun _=>?_⟩;refine dd ?_
  have hLk:=hLl
  refine qb.inv (fun i t1 H1=>∃ (k2:Nat) (given L:List Ans) (x:Wor),k2+i=k∧given.length=k+k2∧L.length<=k - k2∧S1 (60+30 * (k+k2)) (1000000+30 * (k+k2)) w given L x∧t1=(let n:Int:=(k:Int);let k:=k2;(.za::I t:: .za::I n:: .ref 0 [] 8 0 0:: .za::.ref 1 [] 10 0 0:: .za::Bo false:: .gl 3 13 (given.map qq):: .ref 2 [] 8 0 0:: .za::.za::.za::.za::I k:: .za::.za::.za::.za::.za::.za::.za::.za::.za::.za::.za::.za::.za::.za::.za::.za::.za::.za::.za::.za::.za::.za::.za::.za::.za::.za::.za::.za::.za::.za::.za::.za::.za::.za::.za::.za::.za::.za::.za::.za::.za::.za::.za::.za::.za::.za::.za::.za::.za::.za::.za::.za::.za::.za::.za::.za::.za::.za::.za::.za::.za::.za::.za::.za::.za::.za::.za::.za::.za::.za::.za::.za::.za::.za::.za::.za::.za::.za::.za::.za::.za::.za::.za::.za::.za::.za::.za::.za::.za::.za::.za::.za::.za::.za::.za::.za::.za::.za::.za::.za::.za::.za::.za::.za::.za::.za::.za::.za::.za::.za::.za::.za::.za::[]))∧H1=[⟨1,28,8,[z5 (w)],0⟩,⟨1,35,10,[zc2 ({ o with kind:=1 })],0⟩,⟨1,28,8,[z5 (x)],0⟩,⟨4,41,13,(given).map qq,0⟩]) k ?_ ?_
  ·exact ⟨_,_,cC,0,given,L,x,by simp,by simpa using hgl,by omega,s,rfl,rfl⟩
  rintro i _ _ ⟨k2,given,L,x,hki,hgl,hLl,s,rfl,rfl⟩
  dsimp only
  have mA:(given.map qq).length=given.length:=List.length_map ..
  have gx:=s.st.jt
  conv=>whnf
  by_cases hi:i=0
  ·subst hi
   have ek:k2=k:=by omega
   subst ek
   have hx:=kX x (zcB gx s.st.ty (by omega))
   have hop:=kj given (by omega)
   have mo:(((qS given).map fun (n:Nat)=>(n:Int)).map Go.Hy.encI).length=L.length:=by rw [List.length_map,List.length_map,s.opn.len]
   have hhx:=s.held
   have l0:L.length=0:=by omega
   have ok:=ziU gx s.st.ty (by omega)
   have he:jB x=jB w:=by omega
   refine ⟨fun h=>absurd h (by simp),fun _=>?_⟩
   refine dd ?_
   (refine .inr ⟨by simp,?_⟩);(conv=>whnf)
   refine .inl ⟨⟨false,[],[],[]⟩,by kernel_rfl,?_⟩;(conv=>whnf)
   refine ⟨_,_,(jy).frame rfl _,?_⟩;refine dd ?_
   (repeat ((first | apply ya | apply yb);refine dd ?_))
   refine ⟨_,_,(hop).frame rfl _,?_⟩;refine dd ?_
   rw [mo,l0]
   (repeat ((first | apply ya | apply yb);refine dd ?_))
   refine ⟨_,_,(hx).frame rfl _,?_⟩;refine dd ?_
   refine ⟨_,_,(hw0).frame rfl _,?_⟩;refine dd ?_
   rw [he]
   refine ⟨fun _=>?_,fun h=>absurd h (by simp)⟩;refine dd ?_
   refine ⟨_,_,(wY x ok).frame rfl _,?_⟩;refine dd ?_
   rw [qR.2 gx]
   (try (repeat ((first | apply ya | apply yb);refine dd ?_)))
   exact ⟨.inl rfl,_,.refl _,rfl⟩
  have hkN:k2 < k:=by omega
  (refine ⟨fun _=>?_,fun h=>absurd h (by simp;omega)⟩);refine dd ?_
  obtain ⟨j,y,m',L',hg,hj,s',hL'⟩:=s.fin ht (by omega) (by omega)
  have bg0:=Beg.jP t opF given (by omega)
  have bg2:zc Tryz.prog 18 [] [I t,.agg [I 2,Tx [],Tx [],Tx [],I 0,I 0,I 0,.lst 1 0 [],.lst 1 0 [],.lst 1 0 []],lA given] (Sm (Beg.yr t opF given)) []:=
   bg0.pre (.cons (.refl _) (.cons (WC.zoz (.cons (.refl _) (.cons (.refl _) (.cons (.refl _) (.cons (.refl _) (.cons (.refl _) (.cons (.refl _) (.cons (.refl _) (.cons (WC.nil 0 1) (.cons (WC.nil 0 4) (.cons (WC.nil 0 4) .nil))))))))))) (.cons (.refl _) .nil)))
  refine .inr ⟨⟨[0,4,5],[0,1,2],true⟩,by kernel_rfl,fun _=>rfl,fun t1 H1=>t1=(let n:Int:=(k:Int);let k:=k2;(.za::I t:: .za::I n:: .ref 0 [] 8 0 0:: .za::.ref 1 [] 10 0 0:: .za::Bo false:: .gl 3 13 (given.map qq):: .ref 2 [] 8 0 0:: .za::.za::.za::.za::I k:: .ref 4 [] 8 0 0:: .ref 5 [] 13 0 0::Bo true:: .za::.za::.za::.za::.za::.za::.za::.za::.za::.za::.za::.za::.za::.za::.za::.za::.za::.za::.za::.za::.za::.za::.za::.za::.za::.za::.za::.za::.za::.za::.za::.za::.za::.za::.za::.za::.za::.za::.za::.za::.za::.za::.za::.za::.za::.za::.za::.za::.za::.za::.za::.za::.za::.za::.za::.za::.za::.za::.za::.za::.za::.za::.za::.za::.za::.za::.za::.za::.za::.za::.za::.za::.za::.za::.za::.za::.za::.za::.za::.za::.za::.za::.za::.za::.za::.za::.za::.za::.za::.za::.za::.za::.za::.za::.za::.za::.za::.za::.za::.za::.za::.za::.za::.za::.za::.za::.za::.za::.za::.za::[]))∧H1=[⟨1,28,8,[z5 (w)],0⟩,⟨1,35,10,[zc2 ({ o with kind:=1 })],0⟩,⟨1,28,8,[z5 (x)],0⟩,⟨4,41,13,(given).map qq,0⟩,⟨1,28,8,[z5 (y)],0⟩,⟨1,41,13,[qq (m'.answer)],0⟩],?_,?_⟩
  ·conv=>whnf
   refine ⟨_,zc.blind [] (bg2) rfl rfl rfl rfl rfl rfl rfl (fun _=>rfl) (fun _=>rfl),?_⟩;(conv=>whnf)
   refine ⟨_,zc.blind [] (xa hg hj) rfl rfl rfl rfl rfl rfl rfl (fun _=>rfl) (fun _=>rfl),?_⟩;(conv=>whnf)
   repeat' (first | (exact trivial) | (refine ⟨rfl,?_⟩;(conv=>whnf)) | (refine ⟨fun _=>?_,fun h=>absurd h (by decide)⟩;(conv=>whnf)) | (exact ⟨_,_,zq.ren [0,1,2,3,4,5] [1,3,4,6,8,9,10,15,16,17,18] _ _ rfl rfl rfl rfl,rfl,rfl⟩) | (exact ⟨_,_,zq.ren [0,1,2,3,5,4] [1,3,4,6,8,9,10,15,16,17,18] _ _ rfl rfl rfl rfl,rfl,rfl⟩) | (refine And.intro ?_ ?_ <;> (conv=>whnf)))
  rintro _ _ ⟨rfl,rfl⟩
  dsimp only
  conv=>whnf
  (repeat ((first | apply ya | apply yb);refine dd ?_))
  refine ⟨rfl,.inr rfl,by rw [mA];simp [maxLen];omega,by rw [mA];show _ * 104<=_;simp;omega,?_⟩
  refine dd ?_
  rw [zD (by omega)]
  have eA:given.map qq++[[I m'.answer.kind,I m'.answer.version,I m'.answer.zg,I m'.answer.end_,I m'.answer.slot,I m'.answer.listen,I m'.answer.n,U m'.answer.counts.c0,U m'.answer.counts.c1,U m'.answer.counts.c2,U m'.answer.counts.c3,U m'.answer.counts.c4,U m'.answer.counts.c5]]=(given++[m'.answer]).map qq:=by rw [List.map_append];rfl
  rw [eA]
  exact .inl ⟨rfl,i - 1,_,_,by omega,cE 4,k2+1,given++[m'.answer],L',y,by omega,by simp [hgl];omega,by omega,⟨s'.st.mono (by omega) (by omega),s'.pins,s'.own,s'.held,s'.opn,s'.zh5⟩,rfl,rfl⟩
 have hkN:k < N:=by omega
 (refine ⟨fun _=>?_,fun h=>absurd h (by simp;omega)⟩);refine dd ?_
 obtain ⟨j,y,m',L',hg,hj,s',hL'⟩:=s.req ht rfl ho' h5 h6 (by omega) (by omega)
 have bg2:=Beg.jP t { o with kind:=1 } given (by omega)
 refine .inr ⟨⟨[0,2,4,5],[0,1,2],true⟩,by kernel_rfl,fun _=>rfl,fun t1 H1=>t1=(let n:Int:=(N:Int);(.za::I t:: .za::I n:: .ref 0 [] 8 0 0:: .za::.ref 1 [] 10 0 0:: .za::Bo false:: .gl 3 13 (given.map qq):: .ref 2 [] 8 0 0::I k:: .ref 4 [] 8 0 0:: .ref 5 [] 13 0 0::Bo true:: .za::.za::.za::.za::.za::.za::.za::.za::.za::.za::.za::.za::.za::.za::.za::.za::.za::.za::.za::.za::.za::.za::.za::.za::.za::.za::.za::.za::.za::.za::.za::.za::.za::.za::.za::.za::.za::.za::.za::.za::.za::.za::.za::.za::.za::.za::.za::.za::.za::.za::.za::.za::.za::.za::.za::.za::.za::.za::.za::.za::.za::.za::.za::.za::.za::.za::.za::.za::.za::.za::.za::.za::.za::.za::.za::.za::.za::.za::.za::.za::.za::.za::.za::.za::.za::.za::.za::.za::.za::.za::.za::.za::.za::.za::.za::.za::.za::.za::.za::.za::.za::.za::.za::.za::.za::.za::.za::.za::.za::.za::.za::.za::.za::.za::[]))∧H1=[⟨1,28,8,[z5 (w)],0⟩,⟨1,35,10,[zc2 ({ o with kind:=1 })],0⟩,⟨1,28,8,[z5 (x)],0⟩,⟨4,41,13,(given).map qq,0⟩,⟨1,28,8,[z5 (y)],0⟩,⟨1,41,13,[qq (m'.answer)],0⟩],?_,?_⟩
 ·conv=>whnf
  refine ⟨_,zc.blind [] (bg2) rfl rfl rfl rfl rfl rfl rfl (fun _=>rfl) (fun _=>rfl),?_⟩;(conv=>whnf)
  refine ⟨_,zc.blind [] (xa hg hj) rfl rfl rfl rfl rfl rfl rfl (fun _=>rfl) (fun _=>rfl),?_⟩;(conv=>whnf)
  repeat' (first | (exact trivial) | (refine ⟨rfl,?_⟩;(conv=>whnf)) | (refine ⟨fun _=>?_,fun h=>absurd h (by decide)⟩;(conv=>whnf)) | (exact ⟨_,_,zq.ren [0,1,2,3,4,5] [1,3,4,6,8,9,10,11,12,13,14] _ _ rfl rfl rfl rfl,rfl,rfl⟩) | (exact ⟨_,_,zq.ren [0,1,2,3,5,4] [1,3,4,6,8,9,10,11,12,13,14] _ _ rfl rfl rfl rfl,rfl,rfl⟩) | (refine And.intro ?_ ?_ <;> (conv=>whnf)))
 rintro _ _ ⟨rfl,rfl⟩
 dsimp only
 conv=>whnf
 (repeat ((first | apply ya | apply yb);refine dd ?_))
 refine ⟨rfl,.inr rfl,by rw [mA];simp [maxLen];omega,by rw [mA];show _ * 104<=_;simp;omega,?_⟩
 refine dd ?_
 rw [zD (by omega)]
 have eA:given.map qq++[[I m'.answer.kind,I m'.answer.version,I m'.answer.zg,I m'.answer.end_,I m'.answer.slot,I m'.answer.listen,I m'.answer.n,U m'.answer.counts.c0,U m'.answer.counts.c1,U m'.answer.counts.c2,U m'.answer.counts.c3,U m'.answer.counts.c4,U m'.answer.counts.c5]]=(given++[m'.answer]).map qq:=by rw [List.map_append];rfl
 rw [eA]
 exact .inl ⟨rfl,i - 1,_,_,by omega,cE 4,k+1,given++[m'.answer],L',y,by omega,by simp [hgl],by omega,⟨s'.st.mono (by omega) (by omega),s'.pins,s'.own,s'.held,s'.opn,s'.zh5⟩,rfl,rfl⟩
end Go.Wor
