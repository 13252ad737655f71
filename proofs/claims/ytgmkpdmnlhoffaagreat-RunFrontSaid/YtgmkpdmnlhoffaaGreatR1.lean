import Derived.Test.YtgmkpdmnlhoffaaGreatRK
import Derived.Test.YtgmkpdmnlhoffaaGreatRZ
set_option linter.all false
set_option maxRecDepth 100000
set_option maxHeartbeats 4000000
namespace Go.Wor
open Go.Ab Go.Proofs Go.Gat Go.Nam Go.Hos Go.Con Go.Sna
open Go.Hy hiding encI
def hE (e:En):Nat:=e.next.length - (Slp.qt e).1.length
def hG (g:Gr):Nat:=(g.ends.map hE).sum
def hV (v:Ver):Nat:=(v.zm.map hG).sum
def zbT (w:Wor):Nat:=(w.ze.map hV).sum
theorem zgB {α:Type} (f:α->Nat) (l:List α) {k:Nat} (h:k < l.length):((l.take (k+1)).map f).sum=((l.take k).map f).sum+f l[k]:=by
 rw [List.take_succ_eq_append_getElem h,List.map_append,List.sum_append];simp
theorem zbg {α:Type} (f:α->Nat) (l:List α):∀ k,((l.take k).map f).sum<=(l.map f).sum:=fun k=>by
 have h:(l.map f).sum=((l.take k).map f).sum+((l.drop k).map f).sum:=by
  rw [<- List.sum_append,<- List.map_append,List.take_append_drop]
 omega
structure zsp (w:Wor):Prop where
 lens:w.ze.length < 4000000000000000000
 lg:∀ v ∈ w.ze,v.zm.length < 4000000000000000000
 le:∀ v ∈ w.ze,∀ g ∈ v.zm,g.ends.length < 4000000000000000000
 ok:∀ v ∈ w.ze,∀ g ∈ v.zm,∀ e ∈ g.ends,e.ok∧Slp.isV e=true∧(Slp.qt e).1.length<=e.next.length
 sum:zbT w < 4000000000000000000
theorem zjF (w:Wor) (hw:zsp w):zb Tryz.prog 56 [] [Cw w] (I (zbT w:Nat)) []:=by
 have m1:(w.ze.map zI).length=w.ze.length:=List.length_map ..;have b1:=hw.lens;refine zb.zp (fn:=Tryz.f56) Tryz.func56 rfl (uH ?_);rw [m1];refine qf.seq w.ze.length (fun k=>(.za::.ref 0 [] 8 0 0::I 0::I (((w.ze.take k).map hV).sum:Nat)::tY (.za::(lV w.ze)::I w.ze.length::I k::tY (tY (tY (tY ([.za,.za,.za,.za]))))))) (fun k=>[⟨1,28,8,[zJ w],0⟩]) (fun k=>True) ?_ trivial (fun k hk _=>?_) (fun _=>?_)
 ·exact cC
 ·obtain ⟨v,hx⟩:∃ v,v=w.ze[k]:=⟨_,rfl⟩;have hv:v ∈ w.ze:=by rw [hx];exact List.getElem_mem hk
  have hg:(w.ze.map zI)[k]?= some (zI v):=by rw [List.getElem?_map,List.getElem?_eq_getElem hk,hx];rfl
  have m2:(v.zm.map zE).length=v.zm.length:=List.length_map ..;have sk:=zgB hV w.ze hk;rw [<- hx] at sk;have sl:=zbg hV w.ze (k+1);have sw:(w.ze.map hV).sum < 4000000000000000000:=hw.sum;have bg:=hw.lg v hv;conv=>whnf
  refine uF ?_;(refine ⟨by omega,_,by rw [toNat_cast];exact hg,dd ?_⟩)
  rw [m2];refine qf.seq v.zm.length (fun j=>(.za::.ref 0 [] 8 0 0::I 0::I (((w.ze.take k).map hV).sum+((v.zm.take j).map hG).sum:Nat)::.za::.ref 1 [] 5 0 0::.za::.za::.za::.za::.za::.za::.za::(lV w.ze)::I w.ze.length::I k::.za::.za::.za::.za::(lG v.zm)::I v.zm.length::I j::tY (tY (tY ([.za,.za,.za,.za,.za]))))) (fun j=>[⟨1,28,8,[zJ w],0⟩,⟨1,79,5,[zI v],0⟩]) (fun k=>True) ?_ trivial (fun j hj _=>?_) (fun _=>?_)
  ·exact cC
  ·obtain ⟨g,hxg⟩:∃ g,g=v.zm[j]:=⟨_,rfl⟩;have hgm:g ∈ v.zm:=by rw [hxg];exact List.getElem_mem hj
   have hgg:(v.zm.map zE)[j]?= some (zE g):=by rw [List.getElem?_map,List.getElem?_eq_getElem hj,hxg];rfl
   have m3:(g.ends.map zu).length=g.ends.length:=List.length_map ..;have sj:=zgB hG v.zm hj;rw [<- hxg] at sj;have sjl:=zbg hG v.zm (j+1);have sjv:(v.zm.map hG).sum=hV v:=rfl;have be:=hw.le v hv g hgm;conv=>whnf
   refine uF ?_;(refine ⟨by omega,_,by rw [toNat_cast];exact hgg,dd ?_⟩)
   rw [m3];refine qf.seq g.ends.length (fun n=>(.za::.ref 0 [] 8 0 0::I 0::I (((w.ze.take k).map hV).sum+((v.zm.take j).map hG).sum+((g.ends.take n).map hE).sum:Nat)::.za::.ref 1 [] 5 0 0::.za::.ref 2 [] 2 0 0::.za::.za::.za::.za::.za::(lV w.ze)::I w.ze.length::I k::.za::.za::.za::.za::(lG v.zm)::I v.zm.length::I j::.za::.za::.za::.za::(lE g.ends)::I g.ends.length::I n::tY (tY ([.za,.za,.za,.za,.za,.za])))) (fun n=>[⟨1,28,8,[zJ w],0⟩,⟨1,79,5,[zI v],0⟩,⟨1,83,2,[zE g],0⟩]) (fun k=>True) ?_ trivial (fun n hn _=>?_) (fun _=>?_)
   ·exact cC
   ·obtain ⟨e,hxe⟩:∃ e,e=g.ends[n]:=⟨_,rfl⟩;have hem:e ∈ g.ends:=by rw [hxe];exact List.getElem_mem hn
    have hge:(g.ends.map zu)[n]?= some (zu e):=by rw [List.getElem?_map,List.getElem?_eq_getElem hn,hxe];rfl
    obtain ⟨eo,ei,el⟩:=hw.ok v hv g hgm e hem;have sn:=zgB hE g.ends hn;rw [<- hxe] at sn;have snl:=zbg hE g.ends (n+1);have sng:(g.ends.map hE).sum=hG g:=rfl;have m4:(e.next.map Go.Hy.encI).length=e.next.length:=List.length_map ..;have m5:((Slp.qt e).1.map Go.Hy.encI).length=(Slp.qt e).1.length:=List.length_map ..;have en:=eo.2.1.2;conv=>whnf
    refine uF ?_;(refine ⟨by omega,_,by rw [toNat_cast];exact hge,dd ?_⟩)
    refine ⟨_,_,(Slp.zac e eo).frame rfl _,dd ?_⟩;refine ⟨_,_,(Slp.wG e eo).frame rfl _,dd ?_⟩;rw [ei];(repeat refine uC ?_)
    rw [m4,m5]
    have q1:IntKind.i64.wrap ((e.next.length:Int) - ((Slp.qt e).1.length:Int))=((hE e:Nat):Int):=by
     rw [q0 (by omega) (by omega)];unfold hE;omega
    have q2:IntKind.i64.wrap (((((w.ze.take k).map hV).sum+((v.zm.take j).map hG).sum+((g.ends.take n).map hE).sum:Nat):Int)+((hE e:Nat):Int))=(((((w.ze.take k).map hV).sum+((v.zm.take j).map hG).sum+((g.ends.take (n+1)).map hE).sum:Nat)):Int):=by
     rw [q0 (by omega) (by omega)];omega
    rw [q1,q2,zA (by omega)];refine .inl ⟨rfl,?_,trivial⟩;exact cE 3
   ·have e1:(g.ends.take g.ends.length).map hE=g.ends.map hE:=by rw [List.take_length]
    have e2:(((v.zm.take j).map hG).sum+(g.ends.map hE).sum)=((v.zm.take (j+1)).map hG).sum:=by rw [sj];rfl
    refine uD ?_;rw [e1,Nat.add_assoc,e2,zA (by omega)];refine .inl ⟨rfl,?_,trivial⟩;exact cE 2
  ·have e1:(v.zm.take v.zm.length).map hG=v.zm.map hG:=by rw [List.take_length]
   have e2:(((w.ze.take k).map hV).sum+(v.zm.map hG).sum)=((w.ze.take (k+1)).map hV).sum:=by rw [sk];rfl
   refine uD ?_;rw [e1,e2,zA (by omega)];refine .inl ⟨rfl,?_,trivial⟩;exact cE 1
 ·have e1:(w.ze.take w.ze.length).map hV=w.ze.map hV:=by rw [List.take_length]
  refine uD ?_;rw [e1];exact uI
theorem zrr (e:En):(Slp.qt e).1.length<=e.next.length:=by
 have h1:=(Slp.yo e.next (Slp.zC e)).1;unfold Slp.qt;split
 ·show (Slp.jR _ _ _).length<=_;unfold Slp.jR;simp only [List.length_map,List.length_range];omega
 ·simp
theorem zbF {α:Type} (f:α->Nat) (b:Nat):∀ (l:List α),(∀ x ∈ l,f x<=b)->(l.map f).sum<=l.length * b
 | [],_=>by simp
 | x::l,h=>by
  have:=zbF f b l fun y hy=>h y (List.mem_cons_of_mem _ hy)
  have:=h x (List.mem_cons_self ..);rw [List.map_cons,List.sum_cons,List.length_cons,Nat.add_mul];omega
theorem zrw {N:Nat} {w:Wor} (h:jH w) (t:TyW N w) (hN:N<=100000000):zsp w:=by
 have few:∀ v ∈ w.ze,v.zm.length<=4∧∀ g ∈ v.zm,g.ends.length<=4∧1<=g.ends.length∧∀ e ∈ g.ends,Slp.isV e=true∧e.next.length<=4∧1<=e.next.length:=fun v hv=>by
  obtain ⟨i,hi⟩:=List.mem_iff_getElem?.1 hv;exact (h.ver i v hi).1.few
 refine ⟨by have:=t.zbm;omega,fun v hv=>by have:=(few v hv).1;omega,fun v hv g hg=>by have:=((few v hv).2 g hg).1;omega,fun v hv g hg e he=>⟨((t.okv v hv).2 g hg).2 e he,(((few v hv).2 g hg).2.2 e he).1,zrr e⟩,?_⟩
 have q1:∀ v ∈ w.ze,∀ g ∈ v.zm,hG g<=16:=fun v hv g hg=>by
  have f:=(few v hv).2 g hg;have:=zbF hE 4 g.ends fun e he=>by have:=(f.2.2 e he).2.1;unfold hE;omega
  have:=f.1;unfold hG;omega
 have q2:∀ v ∈ w.ze,hV v<=64:=fun v hv=>by
  have:=zbF hG 16 v.zm fun g hg=>q1 v hv g hg
  have:=(few v hv).1;unfold hV;omega
 have:=zbF hV 64 w.ze q2;have:=t.zbm;unfold zbT;omega
end Go.Wor
namespace Go.Slp
open Go.Ab Go.Proofs Go.Hy
theorem zff {nx:List Int} {i0 s v:Int} (h0:0<=s) (hs:s ∉ jR nx i0 (jK nx i0)):∀ j,j<=jK nx i0->jF (nx.set s.toNat v) i0 j=jF nx i0 j
 | 0,_=>rfl
 | j+1,h=>by
  have ih:=zff (v:=v) h0 hs j (by omega);have hm:jF nx i0 j ∈ jR nx i0 (jK nx i0):=List.mem_map.2 ⟨j,List.mem_range.2 (by omega),rfl⟩;have hb:=(zdt (yo nx i0).2.2).2 _ hm;have hp:0<=jF nx i0 j:=by unfold inB at hb;simp at hb;omega
  show nxt (nx.set s.toNat v) (jF (nx.set s.toNat v) i0 j)=nxt nx (jF nx i0 j);rw [ih];exact zgb (fun e=>hs (e ▸ hm)) h0 hp
theorem znl {nx:List Int} {i0 s v:Int} (h0:0<=s) (hs:s ∉ jR nx i0 (jK nx i0)) {k:Nat} (hk:k<=jK nx i0):jR (nx.set s.toNat v) i0 k=jR nx i0 k:=by
 unfold jR;apply List.map_congr_left
 intro j hj;exact zff h0 hs j (by have:=List.mem_range.1 hj;omega)
theorem zkr {nx:List Int} {i0 s v:Int} (h0:0<=s) (hs:s ∉ jR nx i0 (jK nx i0)) {k:Nat} (hk:k<=jK nx i0):xX (nx.set s.toNat v) i0 k=xX nx i0 k:=by
 unfold xX;rw [znl h0 hs hk,zff h0 hs k hk];unfold inB;rw [List.length_set]
theorem zmU {nx:List Int} {i0 s v:Int} (h0:0<=s) (hs:s ∉ jR nx i0 (jK nx i0)):jK (nx.set s.toNat v) i0=jK nx i0:=by
 obtain ⟨c1,c2,c3⟩:=yo nx i0;exact zfx (by rw [zkr h0 hs (Nat.le_refl _)];exact c2) fun j hj=>by rw [zkr h0 hs (by omega)];exact c3 j hj
theorem zqh {nx:List Int} {i0 s v:Int} (h0:0<=s) (hs:s ∉ jR nx i0 (jK nx i0)):okV (nx.set s.toNat v) i0=okV nx i0:=by
 unfold okV;rw [zmU h0 hs,zff h0 hs _ (Nat.le_refl _)]
theorem zoc {e:En} {s v:Int} (hi:isV e=true) (h0:0<=s) (hs:s ∉ (qt e).1):qt { e with next:=e.next.set s.toNat v }=qt e∧isV { e with next:=e.next.set s.toNat v }=true:=by
 have ok:okV e.next (zC e)=true:=by
  unfold isV at hi;simp only [Bool.and_eq_true] at hi;exact hi.1.1.1
 have hs:s ∉ jR e.next (zC e) (jK e.next (zC e)):=by
  unfold qt at hs;rw [if_pos ok] at hs;exact hs
 refine ⟨?_,?_⟩
 ·show (if okV (e.next.set s.toNat v) (zC e)=true then (jR (e.next.set s.toNat v) (zC e) (jK (e.next.set s.toNat v) (zC e)),(0:Int)) else ([],11))=_;rw [zqh h0 hs,zmU h0 hs,znl h0 hs (Nat.le_refl _)]
  rfl
 ·show (okV (e.next.set s.toNat v) (zC e) && decide (1<=(e.next.set s.toNat v).length) && decide ((e.next.set s.toNat v).length<=4) && decide (0<=e.zg))=true;rw [zqh h0 hs,List.length_set];exact hi
end Go.Slp
namespace Go.Wor
open Go.Ab Go.Proofs Go.Gat Go.Nam Go.Hos Go.Con Go.Sna
open Go.Hy hiding encI
theorem znh {α:Type} (f:α->Nat):∀ (l:List α) (i:Nat) {x:α} (y:α),l[i]?= some x->((l.set i y).map f).sum+f x=(l.map f).sum+f y
 | [],i,x,y,h=>by simp at h
 | a::l,0,x,y,h=>by
  have e:a=x:=by simpa using h
  subst e;simp only [List.set_cons_zero,List.map_cons,List.sum_cons];omega
 | a::l,i+1,x,y,h=>by
  have:=znh f l i y (by simpa using h);simp only [List.set_cons_succ,List.map_cons,List.sum_cons];omega
theorem zeO {w:Wor} (gw:jH w) {m:Mac} (ht:0<=m.zj∧m.zj < w.pins.length) (hd:m.done=false) (hv:m.version=0) (hc:m.zf=0) (he:m.end_=0) (ho:m.other=0) (hs:m.slot=0) (hl:m.listen= -1) (hi:m.i=0) (hk:m.k=0):∃ v g e,qC w m v g e:=by
 have c:=gw.current;obtain ⟨v,hv0⟩:∃ v,w.ze[0]?= some v:=⟨_,List.getElem?_eq_getElem (by omega)⟩;have gv:=(gw.ver _ v hv0).1;have h0:0 < v.zm.length:=by have:=(jk gv.snap).zl.1;have:=gv.len;omega
 obtain ⟨g,e,hg,hee,l1,l2⟩:=vu gv h0;exact ⟨v,g,e,qe.2 gw,ht,hd,by omega,by rw [hv];exact hv0,by omega,by rw [hc];exact hg,by omega,by rw [he];exact hee,by omega,by omega,by omega,by omega,by omega⟩
def kz (w:Wor) (i j k:Int):Option En:=(w.ze[i.toNat]?).bind fun v=>(v.zm[j.toNat]?).bind fun g=>g.ends[k.toNat]?
abbrev tEW (w:Wor) (m:Mac) (v:Ver) (g:Gr) (e':En) (tk:Int):Wor:={ w with ze:=w.ze.set m.version.toNat { v with zm:=v.zm.set m.zf.toNat { g with zr:=tk,ends:=g.ends.set m.end_.toNat e' } } }
theorem zca {w:Wor} {m:Mac} {v:Ver} {g:Gr} {e:En} (hat:AtE w m v g e) (e':En) (tk i j k:Int):kz (tEW w m v g e' tk) i j k=if i.toNat=m.version.toNat∧j.toNat=m.zf.toNat∧k.toNat=m.end_.toNat then some e' else kz w i j k:=by
 have s1:=(List.getElem?_eq_some_iff.1 hat.at_).1;have s2:=(List.getElem?_eq_some_iff.1 hat.atg).1;have s3:=(List.getElem?_eq_some_iff.1 hat.ate).1;unfold kz tEW;dsimp only;by_cases h1:i.toNat=m.version.toNat
 ·rw [h1,List.getElem?_set_self s1,hat.at_,Option.bind_some,Option.bind_some];dsimp only;by_cases h2:j.toNat=m.zf.toNat
  ·rw [h2,List.getElem?_set_self s2,hat.atg,Option.bind_some,Option.bind_some];dsimp only;by_cases h3:k.toNat=m.end_.toNat
   ·rw [h3,List.getElem?_set_self s3,if_pos ⟨rfl,rfl,rfl⟩]
   ·rw [List.getElem?_set_ne (fun h=>h3 h.symm),if_neg (fun h=>h3 h.2.2)]
  ·rw [List.getElem?_set_ne (fun h=>h2 h.symm),if_neg (fun h=>h2 h.2.1)]
 ·rw [List.getElem?_set_ne (fun h=>h1 h.symm),if_neg (fun h=>h1 h.1)]
theorem zfF {w:Wor} {m:Mac} {v:Ver} {g:Gr} {e:En} (hat:AtE w m v g e):kz w m.version m.zf m.end_=some e:=by
 unfold kz;rw [hat.at_,Option.bind_some,hat.atg,Option.bind_some,hat.ate]
def nE (L:List Ans) (i j k:Int):Nat:=L.countP fun a=>decide (a.version=i∧a.zf=j∧a.end_=k)
def nL (L:List Ans) (i:Int):Nat:=L.countP fun a=>decide (a.listen=i)
def zo5 (a b:Ans):Prop:=a.version=b.version∧a.zf=b.zf∧a.end_=b.end_∧a.slot=b.slot
structure zgI (w:Wor) (a:Ans):Prop where
 pos:0<=a.version∧0<=a.zf∧0<=a.end_∧0<=a.slot
 lis:0<=a.listen∧a.listen < w.zd.length
 at_:∃ e,kz w a.version a.zf a.end_=some e∧a.slot < e.next.length∧a.slot ∉ (Slp.qt e).1
structure Own (w:Wor) (L:List Ans) (x:Int):Prop where
 zsS:∀ a ∈ L,zgI w a
 diff:L.Pairwise fun a b=>¬zo5 a b
 lis:∀ (i:Nat) l,w.zd[i]?= some l->((nL L i+(if x=i then 1 else 0):Nat):Int)<=l.zg
 ends : ∀ i j k e, 0 <= i -> 0 <= j -> 0 <= k -> kz w i j k = some e -> (nE L i j k : Int) <= e.zg
theorem zgI.zbM {w:Wor} {m:Mac} {v:Ver} {g:Gr} {e e':En} {a:Ans} {tk:Int} (f:zgI w a) (hat:AtE w m v g e) (hl:e'.next.length=e.next.length) (hf:a.slot ∉ (Slp.qt e).1->a.version=m.version->a.zf=m.zf->a.end_=m.end_->a.slot ∉ (Slp.qt e').1):zgI (tEW w m v g e' tk) a:=by
 obtain ⟨h1,h2,e0,h3,h4,h5⟩:=f;refine ⟨h1,h2,?_⟩;rw [zca hat];by_cases q:a.version.toNat=m.version.toNat∧a.zf.toNat=m.zf.toNat∧a.end_.toNat=m.end_.toNat
 ·rw [if_pos q];have p1:=hat.v0;have p2:=hat.g0;have p3:=hat.e0;have q1:a.version=m.version:=by omega
  have q2:a.zf=m.zf:=by omega
  have q3:a.end_=m.end_:=by omega
  have:=zfF hat;rw [<- q1,<- q2,<- q3,h3] at this;cases this
  exact ⟨e',rfl,by omega,hf h5 q1 q2 q3⟩
 ·rw [if_neg q];exact ⟨e0,h3,h4,h5⟩
theorem zgI.other {w w':Wor} {a:Ans} (f:zgI w a) (hv:w'.ze=w.ze) (hl:w'.zd.length=w.zd.length):zgI w' a:=by
 obtain ⟨h1,h2,h3⟩:=f;exact ⟨h1,by omega,by unfold kz at h3 ⊢;rw [hv];exact h3⟩
theorem Own.zbM {w:Wor} {m:Mac} {v:Ver} {g:Gr} {e e':En} {L:List Ans} {x tk:Int} (o:Own w L x) (hat:AtE w m v g e) (hl:e'.next.length=e.next.length) (hf:∀ s,s ∉ (Slp.qt e).1->s ∉ (Slp.qt e').1) (ha:e.zg<=e'.zg):Own (tEW w m v g e' tk) L x:=by
 refine ⟨fun a h=>(o.zsS a h).zbM hat hl fun h1 _ _ _=>hf _ h1,o.diff,o.lis,fun i j k e0 hi hj hk h=>?_⟩;rw [zca hat] at h;split at h
 ·rename_i q;cases h
  have p1:=hat.v0;have p2:=hat.g0;have p3:=hat.e0;have q1:i=m.version:=by omega
  have q2:j=m.zf:=by omega
  have q3:k=m.end_:=by omega
  have:=o.ends _ _ _ e hat.v0 hat.g0 hat.e0 (zfF hat);rw [q1,q2,q3];omega
 ·exact o.ends i j k e0 hi hj hk h
theorem Own.other {w w':Wor} {L:List Ans} {x:Int} (o:Own w L x) (hv:w'.ze=w.ze) (hl:w'.zd=w.zd):Own w' L x:=by
 refine ⟨fun a h=>(o.zsS a h).other hv (by rw [hl]),o.diff,by rw [hl];exact o.lis,?_⟩;unfold kz;rw [hv];exact o.ends
theorem Own.set {w:Wor} {L:List Ans} {x x':Int} {i:Nat} {l:Lis} {n:Int} (o:Own w L x) (hx:w.zd[i]?= some l) (hn:((nL L i+(if x'=i then 1 else 0):Nat):Int)<=n) (hi:∀ j:Nat,j≠i->(x'=j->x=j)):Own { w with zd:=w.zd.set i { l with zg:=n } } L x':=by
 refine ⟨fun a h=>(o.zsS a h).other rfl (by simp),o.diff,fun j l' h=>?_,o.ends⟩;rcases yj h with ⟨rfl,rfl,_⟩ | ⟨hne,h⟩
 ·exact hn
 ·have:=o.lis j l' h;have h3:=hi j (fun h=>hne h.symm);by_cases q:x'=j
  ·rw [if_pos q];rw [if_pos (h3 q)] at this;exact this
  ·rw [if_neg q];omega
inductive HI (L:List Ans) (h:Nat):Wor->Mac->Prop
 | out {w:Wor} {m:Mac} (p:m.pc<=4∨(20<=m.pc∧m.answer.kind≠1∧(m.listen < 0∨m.pc=23))) (o:Own w L (-1)) (e:zbT w=h):HI L h w m
 | in_ {w:Wor} {m:Mac} (p:(5<=m.pc∧m.pc<=11)∨(20<=m.pc∧m.pc<=22∧m.answer.kind≠1)) (l:0<=m.listen) (o:Own w L m.listen) (e:zbT w=h):HI L h w m
 | got {w:Wor} {m:Mac} (p:m.pc=12) (l:0<=m.listen) (o:Own w L m.listen) (e:zbT w=h+1) (f:zgI w (zbC m)) (d:∀ b ∈ L,¬zo5 b (zbC m)):HI L h w m
 | held {w:Wor} {m:Mac} (p:20<=m.pc∧m.pc≠22) (k:m.answer.kind=1) (o:Own w (L++[m.answer]) (-1)) (e:zbT w=h+1):HI L h w m
section
variable {N K:Nat} {w:Wor} {m:Mac} {v:Ver} {g:Gr} {e:En} {L:List Ans} {h:Nat} {r:Wor × Mac × Eve}
theorem HI.early (hi:HI L h w m) (p:m.pc<=4):Own w L (-1)∧zbT w=h:=by
 cases hi with
 | out q o e=>exact ⟨o,e⟩
 | in_ q l o e=>omega
 | got q l o e f d=>omega
 | held q k o e=>omega
theorem HI.mid (hi:HI L h w m) (p:5<=m.pc∧m.pc<=11):0<=m.listen∧Own w L m.listen∧zbT w=h:=by
 cases hi with
 | out q o e=>omega
 | in_ q l o e=>exact ⟨l,o,e⟩
 | got q l o e f d=>omega
 | held q k o e=>omega
theorem zqr {e:En} {s k:Int} (he:e.ok) (hv:Slp.isV e=true) (hh:Slp.zC e=s) (h0:0<=s) (hk:Slp.nxt e.next s=k):(Slp.qt e).1=s::(Slp.qt (qp e (Slp.qP e.head k) e.zg)).1∧s ∉ (Slp.qt (qp e (Slp.qP e.head k) e.zg)).1:=by
 have hp:Slp.zr6 e=(qp e (Slp.qP e.head k) e.zg,s,0):=by
  unfold Slp.zr6;rw [if_neg (by simp [hv]),if_neg (by omega),hh,hk]
 obtain ⟨_,_,_,_,_,_,_,_,q⟩:=Slp.zr7 he hp;have q1:=congrArg Prod.fst q;refine ⟨q1,?_⟩;have hd:=Slp.zo2 e.next (Slp.zC e);have hf:=congrArg Prod.fst (Slp.zab (Slp.zaY hv).1);simp only at hf;rw [<- hf,q1,List.nodup_cons] at hd;exact hd.1
end
end Go.Wor
namespace Go.Wor
open Go.Ab Go.Proofs Go.Gat Go.Nam Go.Hos Go.Con Go.Sna Go.Pla
open Go.Hy hiding encI
theorem zss {w:Wor} {i j k:Int} {e:En} (h:kz w i j k=some e):∃ v g,w.ze[i.toNat]?= some v∧v.zm[j.toNat]?= some g∧g.ends[k.toNat]?= some e:=by
 unfold kz at h;obtain ⟨v,h1,h⟩:=Option.bind_eq_some_iff.1 h;obtain ⟨g,h2,h3⟩:=Option.bind_eq_some_iff.1 h;exact ⟨v,g,h1,h2,h3⟩
theorem zoH {e:En} {s:Int} (he:e.ok) (hv:Slp.isV e=true) (h0:0<=s) (h1:s < e.next.length) (hn:s ∉ (Slp.qt e).1):
  Slp.isV ⟨Slp.qP e.head s,e.next.set s.toNat (Slp.zC e),e.zg⟩=true∧(⟨Slp.qP e.head s,e.next.set s.toNat (Slp.zC e),e.zg⟩:En).ok∧(Slp.qt ⟨Slp.qP e.head s,e.next.set s.toNat (Slp.zC e),e.zg⟩).1=s::(Slp.qt e).1:=by
 have hp:Slp.zne e s=(⟨Slp.qP e.head s,e.next.set s.toNat (Slp.zC e),e.zg⟩,0):=by
  unfold Slp.zne;rw [if_neg (by simp [hv]),if_neg (by omega),if_neg (by simpa using hn)]
 obtain ⟨_,_,_,_,_,q1,q2,_,q3⟩:=Slp.zqv he hp;exact ⟨q1,q2,congrArg Prod.fst q3⟩
end Go.Wor
namespace Go.Pla
open Go.Ab Go.Proofs Go.Hy
theorem zfM {α:Type} {p q:α->Bool}:∀ {l:List α},(∀ x ∈ l,p x=q x)->l.findIdx? p=l.findIdx? q
 | [],_=>rfl
 | x::l,h=>by
  rw [List.findIdx?_cons,List.findIdx?_cons,h x (List.mem_cons_self ..),zfM fun y hy=>h y (List.mem_cons_of_mem _ hy)]
theorem zmQ (given:List Ans) (a f:Ans) {n:Nat} (h:n < given.length):atV (given++[a]) f n=atV given f n:=by
 unfold atV;rw [List.getElem?_append_left h]
theorem zgd (given:List Ans) (a:Ans):∀ k,k<=given.length->q7 (given++[a]) k=q7 given k
 | 0,_=>rfl
 | k+1,h=>by
  show zbV (given++[a]) (q7 (given++[a]) k) k=zbV given (q7 given k) k;have hlt:=vA given k (by omega);rw [zgd given a k (by omega)];unfold zbV;rw [List.getElem?_append_left (by omega)];cases hx:given[k]? with
  | none=>rfl
  | some x=>
   dsimp only;rw [zfM (p:=atV (given++[a]) x) (q:=atV given x) fun n hn=>zmQ given a x (by have:=hlt n hn;omega)]
theorem zdY (given:List Ans) (a:Ans):jo (given++[a])=if a.kind=1 then jo given++[given.length] else match (jo given).findIdx? (atV given a) with
  | some k=>(jo given).eraseIdx k
  | none=>jo given:=by
 have hlt:=vA given given.length (Nat.le_refl _);unfold jo;rw [List.length_append,List.length_singleton];show zbV (given++[a]) (q7 (given++[a]) given.length) given.length=_;rw [zgd given a _ (Nat.le_refl _)];unfold zbV;rw [List.getElem?_append_right (Nat.le_refl _),Nat.sub_self];show (if a.kind=1 then _ else match (q7 given given.length).findIdx? (atV (given++[a]) a) with | some k=>_ | none=>_)=_;rw [zfM (p:=atV (given++[a]) a) (q:=atV given a) fun n hn=>zmQ given a a (hlt n hn)]
def vQ (given L:List Ans):Prop:=(jo given).map (fun i=>given[i]?)=L.map some
theorem vQ.len {given L:List Ans} (h:vQ given L):(jo given).length=L.length:=by
 have:=congrArg List.length h;simpa using this
theorem zrR:vQ [] []:=rfl
theorem zf1 (given:List Ans) (a:Ans) (l:List Nat) (h:∀ n ∈ l,n < given.length):l.map (fun i=>(given++[a])[i]?)=l.map fun i=>given[i]?:=
 List.map_congr_left fun n hn=>List.getElem?_append_left (h n hn)
theorem vQ.ztn {given L:List Ans} (h:vQ given L) {a:Ans} (ha:a.kind=1):vQ (given++[a]) (L++[a]):=by
 have hlt:∀ n ∈ jo given,n < given.length:=vA given given.length (Nat.le_refl _);unfold vQ at h ⊢;rw [zdY,if_pos ha,List.map_append,zf1 given a _ hlt,h,List.map_append];simp
theorem vQ.other {given L:List Ans} (h:vQ given L) {a:Ans} (ha:a.kind≠1) (h6:a.kind≠6):vQ (given++[a]) L:=by
 have hlt:∀ n ∈ jo given,n < given.length:=vA given given.length (Nat.le_refl _)
 have e:(jo given).findIdx? (atV given a)=none:=by
  rw [List.findIdx?_eq_none_iff];intro n hn;unfold atV;split
  ·unfold xV;rw [decide_eq_false h6]
   rfl
  ·rfl
 unfold vQ at h ⊢;rw [zdY,if_neg ha,e];dsimp only;rw [zf1 given a _ hlt,h]
theorem vQ.head {given L:List Ans} {b:Ans} (h:vQ given (b::L)):∃ i l,jo given=i::l∧given[i]?= some b∧l.map (fun i=>given[i]?)=L.map some:=by
 unfold vQ at h;cases ho:jo given with
 | nil=>rw [ho] at h;cases h
 | cons i l=>
  rw [ho,List.map_cons,List.map_cons] at h;obtain ⟨h1,h2⟩:=List.cons.inj h;exact ⟨i,l,rfl,h1,h2⟩
end Go.Pla
namespace Go.Beg
open Go.Ab Go.Proofs Go.Hy Go.Pla
end Go.Beg
namespace Go.Wor
open Go.Ab Go.Proofs Go.Gat Go.Nam Go.Hos Go.Con Go.Sna Go.Pla
open Go.Hy hiding encI
end Go.Wor
