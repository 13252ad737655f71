import Derived.Test.YtkbnjgogjccmfaaGreatRK
import Derived.Test.YtkbnjgogjccmfaaGreatRZ
set_option linter.all false
set_option maxRecDepth 100000
set_option maxHeartbeats 4000000
namespace Go.Wor
open Go.Ab Go.Proofs Tryz Go.Gat Go.Nam Go.Hos Go.Con Go.Sna
open Go.Hy hiding encI
def hE (e:En):Nat:=e.next.length - (Slp.qx e).1.length
def hG (g:Gr):Nat:=(g.ends.map hE).sum
def hV (v:uq):Nat:=(v.zm.map hG).sum
def mW (w:Wor):Nat:=(w.ze.map hV).sum
def CJ {α:Type} (f:α->Nat) (l:List α) {k:Nat} (h:k < l.length):((l.take (k+1)).map f).sum=((l.take k).map f).sum+f l[k]:=by
 rw [pq h,pw,ud];simp
def D1 {α:Type} (f:α->Nat) (l:List α):∀ k,((l.take k).map f).sum<=(l.map f).sum:=fun k=>by
 have h:(l.map f).sum=((l.take k).map f).sum+((l.drop k).map f).sum:=by
  rw [<- ud,<- pw,rV]
 omega
structure K5 (w:Wor):Prop where
 lens:w.ze.length < 4000000000000000000
 lg:∀ v ∈ w.ze,v.zm.length < 4000000000000000000
 le:∀ v ∈ w.ze,∀ g ∈ v.zm,g.ends.length < 4000000000000000000
 ok:∀ v ∈ w.ze,∀ g ∈ v.zm,∀ e ∈ g.ends,e.ok∧Slp.u5 e=true∧(Slp.qx e).1.length<=e.next.length
 sum:mW w < 4000000000000000000
def N2 (w:Wor) (hw:K5 w):tn 23 [] [Cw w] (I (mW w:Nat)) []:=by
 have m1:(w.ze.map zF).length=w.ze.length:=dP ..;have b1:=hw.lens;refine ab func23 ?_;rw [m1];refine z5.seq w.ze.length (fun k=>(.za::.ref 0 [] 8 0 0::I 0::I (((w.ze.take k).map hV).sum:Nat)::tZ (.za::(lV w.ze)::I w.ze.length::I k::tZ (tZ (tZ (tZ ([.za,.za,.za,.za]))))))) (fun k=>[⟨1,37,8,[zJ w],0⟩]) (fun k=>True) ?_ trivial (fun k hk _=>?_) (fun _=>?_)
 ·exact cC
 ·obtain ⟨v,hx⟩:∃ v,v=w.ze[k]:=⟨_,rfl⟩;have hv:v ∈ w.ze:=by rw [hx];exact dF
  have hg:(w.ze.map zF)[k]?= some (zF v):=by rw [dN,dK hk,hx];rfl
  have m2:(v.zm.map zE).length=v.zm.length:=dP ..;have sk:=CJ hV w.ze hk;rw [<- hx] at sk;have sl:=D1 hV w.ze (k+1);have sw:(w.ze.map hV).sum < 4000000000000000000:=hw.sum;have bg:=hw.lg v hv;conv=>whnf
  refine uF ?_;(refine td hg ?_)
  rw [m2];refine z5.seq v.zm.length (fun j=>(.za::.ref 0 [] 8 0 0::I 0::I (((w.ze.take k).map hV).sum+((v.zm.take j).map hG).sum:Nat)::.za::.ref 1 [] 5 0 0::.za::.za::.za::.za::.za::.za::.za::(lV w.ze)::I w.ze.length::I k::.za::.za::.za::.za::(lG v.zm)::I v.zm.length::I j::tZ (tZ (tZ ([.za,.za,.za,.za,.za]))))) (fun j=>[⟨1,37,8,[zJ w],0⟩,⟨1,107,5,[zF v],0⟩]) (fun k=>True) ?_ trivial (fun j hj _=>?_) (fun _=>?_)
  ·exact cC
  ·obtain ⟨g,hxg⟩:∃ g,g=v.zm[j]:=⟨_,rfl⟩;have hgm:g ∈ v.zm:=by rw [hxg];exact gH hj
   have hgg:(v.zm.map zE)[j]?= some (zE g):=by rw [dN,dK hj,hxg];rfl
   have m3:(g.ends.map zx).length=g.ends.length:=dP ..;have sj:=CJ hG v.zm hj;rw [<- hxg] at sj;have sjl:=D1 hG v.zm (j+1);have sjv:(v.zm.map hG).sum=hV v:=rfl;have be:=hw.le v hv g hgm;conv=>whnf
   refine uF ?_;(refine td hgg ?_)
   rw [m3];refine z5.seq g.ends.length (fun n=>(.za::.ref 0 [] 8 0 0::I 0::I (((w.ze.take k).map hV).sum+((v.zm.take j).map hG).sum+((g.ends.take n).map hE).sum:Nat)::.za::.ref 1 [] 5 0 0::.za::.ref 2 [] 2 0 0::.za::.za::.za::.za::.za::(lV w.ze)::I w.ze.length::I k::.za::.za::.za::.za::(lG v.zm)::I v.zm.length::I j::.za::.za::.za::.za::(lE g.ends)::I g.ends.length::I n::tZ (tZ ([.za,.za,.za,.za,.za,.za])))) (fun n=>[⟨1,37,8,[zJ w],0⟩,⟨1,107,5,[zF v],0⟩,⟨1,134,2,[zE g],0⟩]) (fun k=>True) ?_ trivial (fun n hn _=>?_) (fun _=>?_)
   ·exact cC
   ·obtain ⟨e,hxe⟩:∃ e,e=g.ends[n]:=⟨_,rfl⟩;have hem:e ∈ g.ends:=by rw [hxe];exact gH hn
    have hge:(g.ends.map zx)[n]?= some (zx e):=by rw [dN,dK hn,hxe];rfl
    obtain ⟨eo,ei,el⟩:=hw.ok v hv g hgm e hem;have sn:=CJ hE g.ends hn;rw [<- hxe] at sn;have snl:=D1 hE g.ends (n+1);have sng:(g.ends.map hE).sum=hG g:=rfl;have m4:(e.next.map Go.Hy.encI).length=e.next.length:=dP ..;have m5:((Slp.qx e).1.map Go.Hy.encI).length=(Slp.qx e).1.length:=dP ..;have en:=eo.2.1.2;conv=>whnf
    refine uF ?_;(refine td hge ?_)
    refine ah (Slp.Cj e eo) ?_;refine ah (Slp.wX e eo) ?_;rw [ei];refine tc ?_
    rw [m4,m5]
    have q1:IntKind.i64.wrap ((e.next.length:Int) - ((Slp.qx e).1.length:Int))=((hE e:Nat):Int):=by
     rw [qZ aw aw];unfold hE;omega
    have q2:IntKind.i64.wrap (((((w.ze.take k).map hV).sum+((v.zm.take j).map hG).sum+((g.ends.take n).map hE).sum:Nat):Int)+((hE e:Nat):Int))=(((((w.ze.take k).map hV).sum+((v.zm.take j).map hG).sum+((g.ends.take (n+1)).map hE).sum:Nat)):Int):=by
     rw [qZ aw aw];omega
    rw [q1,q2,zu aw];refine .inl ⟨rfl,?_,trivial⟩;exact cE 3
   ·have e1:(g.ends.take g.ends.length).map hE=g.ends.map hE:=by rw [gK]
    have e2:(((v.zm.take j).map hG).sum+(g.ends.map hE).sum)=((v.zm.take (j+1)).map hG).sum:=by rw [sj];rfl
    refine uD ?_;rw [e1,ri,e2,zu aw];refine .inl ⟨rfl,?_,trivial⟩;exact cE 2
  ·have e1:(v.zm.take v.zm.length).map hG=v.zm.map hG:=by rw [gK]
   have e2:(((w.ze.take k).map hV).sum+(v.zm.map hG).sum)=((w.ze.take (k+1)).map hV).sum:=by rw [sk];rfl
   refine uD ?_;rw [e1,e2,zu aw];refine .inl ⟨rfl,?_,trivial⟩;exact cE 1
 ·have e1:(w.ze.take w.ze.length).map hV=w.ze.map hV:=by rw [gK]
  refine uD ?_;rw [e1];exact uI
def TL (e:En):(Slp.qx e).1.length<=e.next.length:=by
 have h1:=(Slp.yx e.next (Slp.zC e)).1;unfold Slp.qx;split
 ·show (Slp.jY _ _ _).length<=_;unfold Slp.jY;simp only [dP,List.length_range];omega
 ·simp
def kE {α:Type} (f:α->Nat) (b:Nat):∀ (l:List α),(∀ x ∈ l,f x<=b)->(l.map f).sum<=l.length * b
 | [],_=>by simp
 | x::l,h=>by
  have:=kE f b l fun y hy=>h y (g9 _ hy)
  have:=h x (px ..);rw [pE,pO,pS,pA];omega
def TQ {N:Nat} {w:Wor} (h:jD w) (t:fZ N w) (hN:N<=100000000):K5 w:=by
 have fE:∀ v ∈ w.ze,v.zm.length<=4∧∀ g ∈ v.zm,g.ends.length<=4∧1<=g.ends.length∧∀ e ∈ g.ends,Slp.u5 e=true∧e.next.length<=4∧1<=e.next.length:=fun v hv=>by
  obtain ⟨i,hi⟩:=gh.1 hv;exact (h.eu i v hi).1.fE
 refine ⟨by have:=t.fX;omega,fun v hv=>by have:=(fE v hv).1;omega,fun v hv g hg=>by have:=((fE v hv).2 g hg).1;omega,fun v hv g hg e he=>⟨((t.fA v hv).2 g hg).2 e he,(((fE v hv).2 g hg).2.2 e he).1,TL e⟩,?_⟩
 have q1:∀ v ∈ w.ze,∀ g ∈ v.zm,hG g<=16:=fun v hv g hg=>by
  have f:=(fE v hv).2 g hg;have:=kE hE 4 g.ends fun e he=>by have:=(f.2.2 e he).2.1;unfold hE;omega
  have:=f.1;unfold hG;omega
 have q2:∀ v ∈ w.ze,hV v<=64:=fun v hv=>by
  have:=kE hG 16 v.zm fun g hg=>q1 v hv g hg
  have:=(fE v hv).1;unfold hV;omega
 have:=kE hV 64 w.ze q2;have:=t.fX;unfold mW;omega
end Go.Wor
namespace Go.Slp
open Go.Ab Go.Proofs Tryz Go.Hy
def C3 {nx:List Int} {i0 s v:Int} (h0:0<=s) (hs:s ∉ jY nx i0 (jO nx i0)):∀ j,j<=jO nx i0->jL (nx.set s.toNat v) i0 j=jL nx i0 j
 | 0,_=>rfl
 | j+1,h=>by
  have ih:=C3 (v:=v) h0 hs j aw;have hm:jL nx i0 j ∈ jY nx i0 (jO nx i0):=gC.2 ⟨j,pD.2 aw,rfl⟩;have hb:=(CK (yx nx i0).2.2).2 _ hm;have hp:0<=jL nx i0 j:=by unfold fC at hb;simp at hb;omega
  show eZ (nx.set s.toNat v) (jL (nx.set s.toNat v) i0 j)=eZ nx (jL nx i0 j);rw [ih];exact IM (fun e=>hs (e ▸ hm)) h0 hp
def Kl {nx:List Int} {i0 s v:Int} (h0:0<=s) (hs:s ∉ jY nx i0 (jO nx i0)) {k:Nat} (hk:k<=jO nx i0):jY (nx.set s.toNat v) i0 k=jY nx i0 k:=by
 unfold jY;apply rz
 intro j hj;exact C3 h0 hs j (by have:=pD.1 hj;omega)
def JL {nx:List Int} {i0 s v:Int} (h0:0<=s) (hs:s ∉ jY nx i0 (jO nx i0)) {k:Nat} (hk:k<=jO nx i0):yf (nx.set s.toNat v) i0 k=yf nx i0 k:=by
 unfold yf;rw [Kl h0 hs hk,C3 h0 hs k hk];unfold fC;rw [rq]
def Kp {nx:List Int} {i0 s v:Int} (h0:0<=s) (hs:s ∉ jY nx i0 (jO nx i0)):jO (nx.set s.toNat v) i0=jO nx i0:=by
 obtain ⟨c1,c2,c3⟩:=yx nx i0;exact EN (by rw [JL h0 hs (dU _)];exact c2) fun j hj=>by rw [JL h0 hs aw];exact c3 j hj
def KL {nx:List Int} {i0 s v:Int} (h0:0<=s) (hs:s ∉ jY nx i0 (jO nx i0)):eP (nx.set s.toNat v) i0=eP nx i0:=by
 unfold eP;rw [Kp h0 hs,C3 h0 hs _ (dU _)]
def Qv {e:En} {s v:Int} (hi:u5 e=true) (h0:0<=s) (hs:s ∉ (qx e).1):qx { e with next:=e.next.set s.toNat v }=qx e∧u5 { e with next:=e.next.set s.toNat v }=true:=by
 have ok:eP e.next (zC e)=true:=by
  unfold u5 at hi;simp only [dS] at hi;exact hi.1.1.1
 have hs:s ∉ jY e.next (zC e) (jO e.next (zC e)):=by
  unfold qx at hs;rw [dO ok] at hs;exact hs
 refine ⟨?_,?_⟩
 ·show (if eP (e.next.set s.toNat v) (zC e)=true then (jY (e.next.set s.toNat v) (zC e) (jO (e.next.set s.toNat v) (zC e)),(0:Int)) else ([],11))=_;rw [KL h0 hs,Kp h0 hs,Kl h0 hs (dU _)]
  rfl
 ·show (eP (e.next.set s.toNat v) (zC e) && decide (1<=(e.next.set s.toNat v).length) && decide ((e.next.set s.toNat v).length<=4) && decide (0<=e.zf))=true;rw [KL h0 hs,rq];exact hi
end Go.Slp
namespace Go.Wor
open Go.Ab Go.Proofs Tryz Go.Gat Go.Nam Go.Hos Go.Con Go.Sna
open Go.Hy hiding encI
def CS {α:Type} (f:α->Nat):∀ (l:List α) (i:Nat) {x:α} (y:α),l[i]?= some x->((l.set i y).map f).sum+f x=(l.map f).sum+f y
 | [],i,x,y,h=>by simp at h
 | a::l,0,x,y,h=>by
  have e:a=x:=aq h
  subst e;simp only [sy,pE,pO];omega
 | a::l,i+1,x,y,h=>by
  have:=CS f l i y (aq h);simp only [List.set_cons_succ,pE,pO];omega
def Io {w:Wor} (gw:jD w) {m:uk} (ht:0<=m.zj∧m.zj < w.pins.length) (hd:m.done=false) (hv:m.version=0) (hc:m.zg=0) (he:m.end_=0) (ho:m.other=0) (hs:m.slot=0) (hl:m.listen= -1) (hi:m.i=0) (hk:m.k=0):∃ v g e,qH w m v g e:=by
 have c:=gw.current;obtain ⟨v,hv0⟩:∃ v,w.ze[0]?= some v:=⟨_,dK aw⟩;have gv:=(gw.eu _ v hv0).1;have h0:0 < v.zm.length:=aE
 obtain ⟨g,e,hg,hee,l1,l2⟩:=vH gv h0;exact ⟨v,g,e,qi.2 gw,ht,hd,aw,by rw [hv];exact hv0,aw,by rw [hc];exact hg,aw,by rw [he];exact hee,aw,aw,aw,aw,aw⟩
def kK (w:Wor) (i j k:Int):Option En:=(w.ze[i.toNat]?).bind fun v=>(v.zm[j.toNat]?).bind fun g=>g.ends[k.toNat]?
abbrev iF (w:Wor) (m:uk) (v:uq) (g:Gr) (e':En) (tk:Int):Wor:={ w with ze:=w.ze.set m.version.toNat { v with zm:=v.zm.set m.zg.toNat { g with zt:=tk,ends:=g.ends.set m.end_.toNat e' } } }
def Eh {w:Wor} {m:uk} {v:uq} {g:Gr} {e:En} (hat:eQ w m v g e) (e':En) (tk i j k:Int):kK (iF w m v g e' tk) i j k=if i.toNat=m.version.toNat∧j.toNat=m.zg.toNat∧k.toNat=m.end_.toNat then some e' else kK w i j k:=by
 have s1:=(dJ.1 hat.at_).1;have s2:=(dJ.1 hat.u9).1;have s3:=(dJ.1 hat.eE).1;unfold kK iF;dsimp only;by_cases h1:i.toNat=m.version.toNat
 ·rw [h1,dQ s1,hat.at_,gp,gp];dsimp only;by_cases h2:j.toNat=m.zg.toNat
  ·rw [h2,dQ s2,hat.u9,gp,gp];dsimp only;by_cases h3:k.toNat=m.end_.toNat
   ·rw [h3,dQ s3,dO ⟨rfl,rfl,rfl⟩]
   ·rw [pa (fun h=>h3 h.symm),dL (fun h=>h3 h.2.2)]
  ·rw [pa (fun h=>h2 h.symm),dL (fun h=>h2 h.2.1)]
 ·rw [pa (fun h=>h1 h.symm),dL (fun h=>h1 h.1)]
def EH {w:Wor} {m:uk} {v:uq} {g:Gr} {e:En} (hat:eQ w m v g e):kK w m.version m.zg m.end_=some e:=by
 unfold kK;rw [hat.at_,gp,hat.u9,gp,hat.eE]
def nE (L:List u3) (i j k:Int):Nat:=L.countP fun a=>decide (a.version=i∧a.zg=j∧a.end_=k)
def nL (L:List u3) (i:Int):Nat:=L.countP fun a=>decide (a.listen=i)
def F2 (a b:u3):Prop:=a.version=b.version∧a.zg=b.zg∧a.end_=b.end_∧a.slot=b.slot
structure m8 (w:Wor) (a:u3):Prop where
 pos:0<=a.version∧0<=a.zg∧0<=a.end_∧0<=a.slot
 uz:0<=a.listen∧a.listen < w.zd.length
 at_:∃ e,kK w a.version a.zg a.end_=some e∧a.slot < e.next.length∧a.slot ∉ (Slp.qx e).1
structure iC (w:Wor) (L:List u3) (x:Int):Prop where
 Gm:∀ a ∈ L,m8 w a
 diff:L.Pairwise fun a b=>¬F2 a b
 uz:∀ (i:Nat) l,w.zd[i]?= some l->((nL L i+(if x=i then 1 else 0):Nat):Int)<=l.zf
 ends : ∀ i j k e, 0 <= i -> 0 <= j -> 0 <= k -> kK w i j k = some e -> (nE L i j k : Int) <= e.zf
def m8.iz {w:Wor} {m:uk} {v:uq} {g:Gr} {e e':En} {a:u3} {tk:Int} (f:m8 w a) (hat:eQ w m v g e) (hl:e'.next.length=e.next.length) (hf:a.slot ∉ (Slp.qx e).1->a.version=m.version->a.zg=m.zg->a.end_=m.end_->a.slot ∉ (Slp.qx e').1):m8 (iF w m v g e' tk) a:=by
 obtain ⟨h1,h2,e0,h3,h4,h5⟩:=f;refine ⟨h1,h2,?_⟩;rw [Eh hat];by_cases q:a.version.toNat=m.version.toNat∧a.zg.toNat=m.zg.toNat∧a.end_.toNat=m.end_.toNat
 ·rw [dO q];have p1:=hat.v0;have p2:=hat.g0;have p3:=hat.e0;have q1:a.version=m.version:=by omega
  have q2:a.zg=m.zg:=aw
  have q3:a.end_=m.end_:=aw
  have:=EH hat;rw [<- q1,<- q2,<- q3,h3] at this;cases this
  exact ⟨e',rfl,aw,hf h5 q1 q2 q3⟩
 ·rw [dL q];exact ⟨e0,h3,h4,h5⟩
def m8.other {w w':Wor} {a:u3} (f:m8 w a) (hv:w'.ze=w.ze) (hl:w'.zd.length=w.zd.length):m8 w' a:=by
 obtain ⟨h1,h2,h3⟩:=f;exact ⟨h1,aw,by unfold kK at h3 ⊢;rw [hv];exact h3⟩
def iC.iz {w:Wor} {m:uk} {v:uq} {g:Gr} {e e':En} {L:List u3} {x tk:Int} (o:iC w L x) (hat:eQ w m v g e) (hl:e'.next.length=e.next.length) (hf:∀ s,s ∉ (Slp.qx e).1->s ∉ (Slp.qx e').1) (ha:e.zf<=e'.zf):iC (iF w m v g e' tk) L x:=by
 refine ⟨fun a h=>(o.Gm a h).iz hat hl fun h1 _ _ _=>hf _ h1,o.diff,o.uz,fun i j k e0 hi hj hk h=>?_⟩;rw [Eh hat] at h;split at h
 ·rename_i q;cases h
  have p1:=hat.v0;have p2:=hat.g0;have p3:=hat.e0;have q1:i=m.version:=aw
  have q2:j=m.zg:=aw
  have q3:k=m.end_:=aw
  have:=o.ends _ _ _ e hat.v0 hat.g0 hat.e0 (EH hat);rw [q1,q2,q3];omega
 ·exact o.ends i j k e0 hi hj hk h
def iC.other {w w':Wor} {L:List u3} {x:Int} (o:iC w L x) (hv:w'.ze=w.ze) (hl:w'.zd=w.zd):iC w' L x:=by
 refine ⟨fun a h=>(o.Gm a h).other hv (by rw [hl]),o.diff,by rw [hl];exact o.uz,?_⟩;unfold kK;rw [hv];exact o.ends
def iC.set {w:Wor} {L:List u3} {x x':Int} {i:Nat} {l:ec} {n:Int} (o:iC w L x) (hx:w.zd[i]?= some l) (hn:((nL L i+(if x'=i then 1 else 0):Nat):Int)<=n) (hi:∀ j:Nat,j≠i->(x'=j->x=j)):iC { w with zd:=w.zd.set i { l with zf:=n } } L x':=by
 refine ⟨fun a h=>(o.Gm a h).other rfl aj,o.diff,fun j l' h=>?_,o.ends⟩;rcases yt h with ⟨rfl,rfl,_⟩ | ⟨hne,h⟩
 ·exact hn
 ·have:=o.uz j l' h;have h3:=hi j (fun h=>hne h.symm);by_cases q:x'=j
  ·rw [dO q];rw [dO (h3 q)] at this;exact dw
  ·rw [dL q];omega
inductive HI (L:List u3) (h:Nat):Wor->uk->Prop
 | out {w:Wor} {m:uk} (p:m.pc<=4∨(20<=m.pc∧m.answer.kind≠1∧(m.listen < 0∨m.pc=23))) (o:iC w L (-1)) (e:mW w=h):HI L h w m
 | DT {w:Wor} {m:uk} (p:(5<=m.pc∧m.pc<=11)∨(20<=m.pc∧m.pc<=22∧m.answer.kind≠1)) (l:0<=m.listen) (o:iC w L m.listen) (e:mW w=h):HI L h w m
 | GO {w:Wor} {m:uk} (p:m.pc=12) (l:0<=m.listen) (o:iC w L m.listen) (e:mW w=h+1) (f:m8 w (Ao m)) (d:∀ b ∈ L,¬F2 b (Ao m)):HI L h w m
 | held {w:Wor} {m:uk} (p:20<=m.pc∧m.pc≠22) (k:m.answer.kind=1) (o:iC w (L++[m.answer]) (-1)) (e:mW w=h+1):HI L h w m
section
variable {N K:Nat} {w:Wor} {m:uk} {v:uq} {g:Gr} {e:En} {L:List u3} {h:Nat} {r:Wor × uk × uv}
def HI.early (hi:HI L h w m) (p:m.pc<=4):iC w L (-1)∧mW w=h:=by
 cases hi with
 | out q o e=>exact ⟨o,e⟩
 | DT q l o e=>omega
 | GO q l o e f d=>omega
 | held q k o e=>omega
def HI.nX (hi:HI L h w m) (p:5<=m.pc∧m.pc<=11):0<=m.listen∧iC w L m.listen∧mW w=h:=by
 cases hi with
 | out q o e=>omega
 | DT q l o e=>exact ⟨l,o,e⟩
 | GO q l o e f d=>omega
 | held q k o e=>omega
def S1 {e:En} {s k:Int} (he:e.ok) (hv:Slp.u5 e=true) (hh:Slp.zC e=s) (h0:0<=s) (hk:Slp.eZ e.next s=k):(Slp.qx e).1=s::(Slp.qx (qq e (Slp.qT e.head k) e.zf)).1∧s ∉ (Slp.qx (qq e (Slp.qT e.head k) e.zf)).1:=by
 have hp:Slp.DA e=(qq e (Slp.qT e.head k) e.zf,s,0):=by
  unfold Slp.DA;rw [dL (by simp [hv]),dL aw,hh,hk]
 obtain ⟨_,_,_,_,_,_,_,_,q⟩:=Slp.TD he hp;have q1:=pX Prod.fst q;refine ⟨q1,?_⟩;have hd:=Slp.Rf e.next (Slp.zC e);have hf:=pX Prod.fst (Slp.oN (Slp.n7 hv).1);simp only at hf;rw [<- hf,q1,List.nodup_cons] at hd;exact hd.1
end
end Go.Wor
namespace Go.Wor
open Go.Ab Go.Proofs Tryz Go.Gat Go.Nam Go.Hos Go.Con Go.Sna Go.Pla
open Go.Hy hiding encI
def K8 {w:Wor} {i j k:Int} {e:En} (h:kK w i j k=some e):∃ v g,w.ze[i.toNat]?= some v∧v.zm[j.toNat]?= some g∧g.ends[k.toNat]?= some e:=by
 unfold kK at h;obtain ⟨v,h1,h⟩:=pd.1 h;obtain ⟨g,h2,h3⟩:=pd.1 h;exact ⟨v,g,h1,h2,h3⟩
def RB {e:En} {s:Int} (he:e.ok) (hv:Slp.u5 e=true) (h0:0<=s) (h1:s < e.next.length) (hn:s ∉ (Slp.qx e).1):
  Slp.u5 ⟨Slp.qT e.head s,e.next.set s.toNat (Slp.zC e),e.zf⟩=true∧(⟨Slp.qT e.head s,e.next.set s.toNat (Slp.zC e),e.zf⟩:En).ok∧(Slp.qx ⟨Slp.qT e.head s,e.next.set s.toNat (Slp.zC e),e.zf⟩).1=s::(Slp.qx e).1:=by
 have hp:Slp.Dh e s=(⟨Slp.qT e.head s,e.next.set s.toNat (Slp.zC e),e.zf⟩,0):=by
  unfold Slp.Dh;rw [dL (by simp [hv]),dL aw,dL (aq hn)]
 obtain ⟨_,_,_,_,_,q1,q2,_,q3⟩:=Slp.S3 he hp;exact ⟨q1,q2,pX Prod.fst q3⟩
end Go.Wor
namespace Go.Pla
open Go.Ab Go.Proofs Tryz Go.Hy
def EW {α:Type} {p q:α->Bool}:∀ {l:List α},(∀ x ∈ l,p x=q x)->l.findIdx? p=l.findIdx? q
 | [],_=>rfl
 | x::l,h=>by
  rw [pP,pP,h x (px ..),EW fun y hy=>h y (g9 _ hy)]
def Kn (given:List u3) (a f:u3) {n:Nat} (h:n < given.length):fc (given++[a]) f n=fc given f n:=by
 unfold fc;rw [dR h]
def It (given:List u3) (a:u3):∀ k,k<=given.length->jb (given++[a]) k=jb given k
 | 0,_=>rfl
 | k+1,h=>by
  show mX (given++[a]) (jb (given++[a]) k) k=mX given (jb given k) k;have uj:=vO given k aw;rw [It given a k aw];unfold mX;rw [dR aw];cases hx:given[k]? with
  | none=>rfl
  | some x=>
   dsimp only;rw [EW (p:=fc (given++[a]) x) (q:=fc given x) fun n hn=>Kn given a x (by have:=uj n hn;omega)]
def Ey (given:List u3) (a:u3):jv (given++[a])=if a.kind=1 then jv given++[given.length] else match (jv given).findIdx? (fc given a) with
  | some k=>(jv given).eraseIdx k
  | none=>jv given:=by
 have uj:=vO given given.length (dU _);unfold jv;rw [gN,pW];show mX (given++[a]) (jb (given++[a]) given.length) given.length=_;rw [It given a _ (dU _)];unfold mX;rw [dY (dU _),pY];show (if a.kind=1 then _ else match (jb given given.length).findIdx? (fc (given++[a]) a) with | some k=>_ | none=>_)=_;rw [EW (p:=fc (given++[a]) a) (q:=fc given a) fun n hn=>Kn given a a (uj n hn)]
def v7 (given L:List u3):Prop:=(jv given).map (fun i=>given[i]?)=L.map some
def v7.len {given L:List u3} (h:v7 given L):(jv given).length=L.length:=by
 have:=pX List.length h;simpa using this
theorem Tm:v7 [] []:=rfl
def E5 (given:List u3) (a:u3) (l:List Nat) (h:∀ n ∈ l,n < given.length):l.map (fun i=>(given++[a])[i]?)=l.map fun i=>given[i]?:=
 rz fun n hn=>dR (h n hn)
def v7.U2 {given L:List u3} (h:v7 given L) {a:u3} (ha:a.kind=1):v7 (given++[a]) (L++[a]):=by
 have uj:∀ n ∈ jv given,n < given.length:=vO given given.length (dU _);unfold v7 at h ⊢;rw [Ey,dO ha,pw,E5 given a _ uj,h,pw];simp
def v7.other {given L:List u3} (h:v7 given L) {a:u3} (ha:a.kind≠1) (h6:a.kind≠6):v7 (given++[a]) L:=by
 have uj:∀ n ∈ jv given,n < given.length:=vO given given.length (dU _)
 have e:(jv given).findIdx? (fc given a)=none:=by
  rw [gy];intro n hn;unfold fc;split
  ·unfold kL;rw [pG h6]
   rfl
  ·rfl
 unfold v7 at h ⊢;rw [Ey,dL ha,e];dsimp only;rw [E5 given a _ uj,h]
def v7.head {given L:List u3} {b:u3} (h:v7 given (b::L)):∃ i l,jv given=i::l∧given[i]?= some b∧l.map (fun i=>given[i]?)=L.map some:=by
 unfold v7 at h;cases ho:jv given with
 | nil=>rw [ho] at h;cases h
 | cons i l=>
  rw [ho,pE,pE] at h;obtain ⟨h1,h2⟩:=List.cons.inj h;exact ⟨i,l,rfl,h1,h2⟩
end Go.Pla
namespace Go.Beg
open Go.Ab Go.Proofs Tryz Go.Hy Go.Pla
end Go.Beg
namespace Go.Wor
open Go.Ab Go.Proofs Tryz Go.Gat Go.Nam Go.Hos Go.Con Go.Sna Go.Pla
open Go.Hy hiding encI
end Go.Wor
