import Derived.Test.YtkbnjgogjccmfaaGreatTK
import Derived.Test.YtkbnjgogjccmfaaGreatTZ
set_option linter.all false
set_option maxRecDepth 100000
set_option maxHeartbeats 4000000
namespace Go.Wor
open Go.Ab Go.Proofs Tryz Go.Gat Go.Nam Go.Hos Go.Con Go.Sna
open Go.Hy hiding encI
def hE (e:En):Nat:=e.next.length - (Slp.qz e).1.length
def hG (g:Gr):Nat:=(g.ends.map hE).sum
def hV (v:u3):Nat:=(v.zm.map hG).sum
def ny (w:Wor):Nat:=(w.ze.map hV).sum
def Dz {α:Type} (f:α->Nat) (l:List α) {k:Nat} (h:k < l.length):((l.take (k+1)).map f).sum=((l.take k).map f).sum+f l[k]:=by
 rw [px h,pB,um];simp
def EO {α:Type} (f:α->Nat) (l:List α):∀ k,((l.take k).map f).sum<=(l.map f).sum:=fun k=>by
 have h:(l.map f).sum=((l.take k).map f).sum+((l.drop k).map f).sum:=by
  rw [<- um,<- pB,r6]
 omega
structure Ma (w:Wor):Prop where
 lens:w.ze.length < 4000000000000000000
 lg:∀ v ∈ w.ze,v.zm.length < 4000000000000000000
 le:∀ v ∈ w.ze,∀ g ∈ v.zm,g.ends.length < 4000000000000000000
 ok:∀ v ∈ w.ze,∀ g ∈ v.zm,∀ e ∈ g.ends,e.ok∧Slp.eu e=true∧(Slp.qz e).1.length<=e.next.length
 sum:ny w < 4000000000000000000
def OH (w:Wor) (hw:Ma w):tn 23 [] [Cw w] (I (ny w:Nat)) []:=by
 have m1:(w.ze.map zF).length=w.ze.length:=dR ..;have b1:=hw.lens;refine ab func23 ?_;rw [m1];refine zZ.seq w.ze.length (fun k=>(.za::.ref 0 [] 8 0 0::I 0::I (((w.ze.take k).map hV).sum:Nat)::tZ (.za::(lV w.ze)::I w.ze.length::I k::tZ (tZ (tZ (tZ ([.za,.za,.za,.za]))))))) (fun k=>[⟨1,37,8,[zJ w],0⟩]) (fun k=>True) ?_ trivial (fun k hk _=>?_) (fun _=>?_)
 ·exact cC
 ·obtain ⟨v,hx⟩:∃ v,v=w.ze[k]:=⟨_,rfl⟩;have hv:v ∈ w.ze:=by rw [hx];exact dH
  have hg:(w.ze.map zF)[k]?= some (zF v):=by rw [dP,dM hk,hx];rfl
  have m2:(v.zm.map zE).length=v.zm.length:=dR ..;have sk:=Dz hV w.ze hk;rw [<- hx] at sk;have sl:=EO hV w.ze (k+1);have sw:(w.ze.map hV).sum < 4000000000000000000:=hw.sum;have bg:=hw.lg v hv;conv=>whnf
  refine uF ?_;(refine td hg ?_)
  rw [m2];refine zZ.seq v.zm.length (fun j=>(.za::.ref 0 [] 8 0 0::I 0::I (((w.ze.take k).map hV).sum+((v.zm.take j).map hG).sum:Nat)::.za::.ref 1 [] 5 0 0::.za::.za::.za::.za::.za::.za::.za::(lV w.ze)::I w.ze.length::I k::.za::.za::.za::.za::(lG v.zm)::I v.zm.length::I j::tZ (tZ (tZ ([.za,.za,.za,.za,.za]))))) (fun j=>[⟨1,37,8,[zJ w],0⟩,⟨1,107,5,[zF v],0⟩]) (fun k=>True) ?_ trivial (fun j hj _=>?_) (fun _=>?_)
  ·exact cC
  ·obtain ⟨g,hxg⟩:∃ g,g=v.zm[j]:=⟨_,rfl⟩;have hgm:g ∈ v.zm:=by rw [hxg];exact gQ hj
   have hgg:(v.zm.map zE)[j]?= some (zE g):=by rw [dP,dM hj,hxg];rfl
   have m3:(g.ends.map zx).length=g.ends.length:=dR ..;have sj:=Dz hG v.zm hj;rw [<- hxg] at sj;have sjl:=EO hG v.zm (j+1);have sjv:(v.zm.map hG).sum=hV v:=rfl;have be:=hw.le v hv g hgm;conv=>whnf
   refine uF ?_;(refine td hgg ?_)
   rw [m3];refine zZ.seq g.ends.length (fun n=>(.za::.ref 0 [] 8 0 0::I 0::I (((w.ze.take k).map hV).sum+((v.zm.take j).map hG).sum+((g.ends.take n).map hE).sum:Nat)::.za::.ref 1 [] 5 0 0::.za::.ref 2 [] 2 0 0::.za::.za::.za::.za::.za::(lV w.ze)::I w.ze.length::I k::.za::.za::.za::.za::(lG v.zm)::I v.zm.length::I j::.za::.za::.za::.za::(lE g.ends)::I g.ends.length::I n::tZ (tZ ([.za,.za,.za,.za,.za,.za])))) (fun n=>[⟨1,37,8,[zJ w],0⟩,⟨1,107,5,[zF v],0⟩,⟨1,134,2,[zE g],0⟩]) (fun k=>True) ?_ trivial (fun n hn _=>?_) (fun _=>?_)
   ·exact cC
   ·obtain ⟨e,hxe⟩:∃ e,e=g.ends[n]:=⟨_,rfl⟩;have hem:e ∈ g.ends:=by rw [hxe];exact gQ hn
    have hge:(g.ends.map zx)[n]?= some (zx e):=by rw [dP,dM hn,hxe];rfl
    obtain ⟨eo,ei,el⟩:=hw.ok v hv g hgm e hem;have sn:=Dz hE g.ends hn;rw [<- hxe] at sn;have snl:=EO hE g.ends (n+1);have sng:(g.ends.map hE).sum=hG g:=rfl;have m4:(e.next.map Go.Hy.encI).length=e.next.length:=dR ..;have m5:((Slp.qz e).1.map Go.Hy.encI).length=(Slp.qz e).1.length:=dR ..;have en:=eo.2.1.2;conv=>whnf
    refine uF ?_;(refine td hge ?_)
    refine ah (Slp.C7 e eo) ?_;refine ah (Slp.AM e eo) ?_;rw [ei];refine tc ?_
    rw [m4,m5]
    have q1:IntKind.i64.wrap ((e.next.length:Int) - ((Slp.qz e).1.length:Int))=((hE e:Nat):Int):=by
     rw [q9 aw aw];unfold hE;omega
    have q2:IntKind.i64.wrap (((((w.ze.take k).map hV).sum+((v.zm.take j).map hG).sum+((g.ends.take n).map hE).sum:Nat):Int)+((hE e:Nat):Int))=(((((w.ze.take k).map hV).sum+((v.zm.take j).map hG).sum+((g.ends.take (n+1)).map hE).sum:Nat)):Int):=by
     rw [q9 aw aw];omega
    rw [q1,q2,zu aw];refine .inl ⟨rfl,?_,trivial⟩;exact cE 3
   ·have e1:(g.ends.take g.ends.length).map hE=g.ends.map hE:=by rw [gO]
    have e2:(((v.zm.take j).map hG).sum+(g.ends.map hE).sum)=((v.zm.take (j+1)).map hG).sum:=by rw [sj];rfl
    refine uD ?_;rw [e1,rp,e2,zu aw];refine .inl ⟨rfl,?_,trivial⟩;exact cE 2
  ·have e1:(v.zm.take v.zm.length).map hG=v.zm.map hG:=by rw [gO]
   have e2:(((w.ze.take k).map hV).sum+(v.zm.map hG).sum)=((w.ze.take (k+1)).map hV).sum:=by rw [sk];rfl
   refine uD ?_;rw [e1,e2,zu aw];refine .inl ⟨rfl,?_,trivial⟩;exact cE 1
 ·have e1:(w.ze.take w.ze.length).map hV=w.ze.map hV:=by rw [gO]
  refine uD ?_;rw [e1];exact uI
def TV (e:En):(Slp.qz e).1.length<=e.next.length:=by
 have h1:=(Slp.yI e.next (Slp.zC e)).1;unfold Slp.qz;split
 ·show (Slp.xa _ _ _).length<=_;unfold Slp.xa;simp only [dR,List.length_range];omega
 ·simp
def kX {α:Type} (f:α->Nat) (b:Nat):∀ (l:List α),(∀ x ∈ l,f x<=b)->(l.map f).sum<=l.length * b
 | [],_=>by simp
 | x::l,h=>by
  have:=kX f b l fun y hy=>h y (pj _ hy)
  have:=h x (pz ..);rw [pI,pR,pV,pD];omega
def T0 {N:Nat} {w:Wor} (h:jC w) (t:ig N w) (hN:N<=100000000):Ma w:=by
 have fO:∀ v ∈ w.ze,v.zm.length<=4∧∀ g ∈ v.zm,g.ends.length<=4∧1<=g.ends.length∧∀ e ∈ g.ends,Slp.eu e=true∧e.next.length<=4∧1<=e.next.length:=fun v hv=>by
  obtain ⟨i,hi⟩:=gm.1 hv;exact (h.eJ i v hi).1.fO
 refine ⟨by have:=t.iu;omega,fun v hv=>by have:=(fO v hv).1;omega,fun v hv g hg=>by have:=((fO v hv).2 g hg).1;omega,fun v hv g hg e he=>⟨((t.fL v hv).2 g hg).2 e he,(((fO v hv).2 g hg).2.2 e he).1,TV e⟩,?_⟩
 have q1:∀ v ∈ w.ze,∀ g ∈ v.zm,hG g<=16:=fun v hv g hg=>by
  have f:=(fO v hv).2 g hg;have:=kX hE 4 g.ends fun e he=>by have:=(f.2.2 e he).2.1;unfold hE;omega
  have:=f.1;unfold hG;omega
 have q2:∀ v ∈ w.ze,hV v<=64:=fun v hv=>by
  have:=kX hG 16 v.zm fun g hg=>q1 v hv g hg
  have:=(fO v hv).1;unfold hV;omega
 have:=kX hV 64 w.ze q2;have:=t.iu;unfold ny;omega
end Go.Wor
namespace Go.Slp
open Go.Ab Go.Proofs Tryz Go.Hy
def DF {nx:List Int} {i0 s v:Int} (h0:0<=s) (hs:s ∉ xa nx i0 (jU nx i0)):∀ j,j<=jU nx i0->jR (nx.set s.toNat v) i0 j=jR nx i0 j
 | 0,_=>rfl
 | j+1,h=>by
  have ih:=DF (v:=v) h0 hs j aw;have hm:jR nx i0 j ∈ xa nx i0 (jU nx i0):=gG.2 ⟨j,pG.2 aw,rfl⟩;have hb:=(DA (yI nx i0).2.2).2 _ hm;have hp:0<=jR nx i0 j:=by unfold fN at hb;simp at hb;omega
  show fk (nx.set s.toNat v) (jR (nx.set s.toNat v) i0 j)=fk nx (jR nx i0 j);rw [ih];exact Jf (fun e=>hs (e ▸ hm)) h0 hp
def Lq {nx:List Int} {i0 s v:Int} (h0:0<=s) (hs:s ∉ xa nx i0 (jU nx i0)) {k:Nat} (hk:k<=jU nx i0):xa (nx.set s.toNat v) i0 k=xa nx i0 k:=by
 unfold xa;apply rE
 intro j hj;exact DF h0 hs j (by have:=pG.1 hj;omega)
def K0 {nx:List Int} {i0 s v:Int} (h0:0<=s) (hs:s ∉ xa nx i0 (jU nx i0)) {k:Nat} (hk:k<=jU nx i0):yr (nx.set s.toNat v) i0 k=yr nx i0 k:=by
 unfold yr;rw [Lq h0 hs hk,DF h0 hs k hk];unfold fN;rw [rA]
def Lv {nx:List Int} {i0 s v:Int} (h0:0<=s) (hs:s ∉ xa nx i0 (jU nx i0)):jU (nx.set s.toNat v) i0=jU nx i0:=by
 obtain ⟨c1,c2,c3⟩:=yI nx i0;exact FO (by rw [K0 h0 hs (dW _)];exact c2) fun j hj=>by rw [K0 h0 hs aw];exact c3 j hj
def LW {nx:List Int} {i0 s v:Int} (h0:0<=s) (hs:s ∉ xa nx i0 (jU nx i0)):fb (nx.set s.toNat v) i0=fb nx i0:=by
 unfold fb;rw [Lv h0 hs,DF h0 hs _ (dW _)]
def RF {e:En} {s v:Int} (hi:eu e=true) (h0:0<=s) (hs:s ∉ (qz e).1):qz { e with next:=e.next.set s.toNat v }=qz e∧eu { e with next:=e.next.set s.toNat v }=true:=by
 have ok:fb e.next (zC e)=true:=by
  unfold eu at hi;simp only [dU] at hi;exact hi.1.1.1
 have hs:s ∉ xa e.next (zC e) (jU e.next (zC e)):=by
  unfold qz at hs;rw [dQ ok] at hs;exact hs
 refine ⟨?_,?_⟩
 ·show (if fb (e.next.set s.toNat v) (zC e)=true then (xa (e.next.set s.toNat v) (zC e) (jU (e.next.set s.toNat v) (zC e)),(0:Int)) else ([],11))=_;rw [LW h0 hs,Lv h0 hs,Lq h0 hs (dW _)]
  rfl
 ·show (fb (e.next.set s.toNat v) (zC e) && decide (1<=(e.next.set s.toNat v).length) && decide ((e.next.set s.toNat v).length<=4) && decide (0<=e.zg))=true;rw [LW h0 hs,rA];exact hi
end Go.Slp
namespace Go.Wor
open Go.Ab Go.Proofs Tryz Go.Gat Go.Nam Go.Hos Go.Con Go.Sna
open Go.Hy hiding encI
def DJ {α:Type} (f:α->Nat):∀ (l:List α) (i:Nat) {x:α} (y:α),l[i]?= some x->((l.set i y).map f).sum+f x=(l.map f).sum+f y
 | [],i,x,y,h=>by simp at h
 | a::l,0,x,y,h=>by
  have e:a=x:=aq h
  subst e;simp only [sH,pI,pR];omega
 | a::l,i+1,x,y,h=>by
  have:=DJ f l i y (aq h);simp only [List.set_cons_succ,pI,pR];omega
def IK {w:Wor} (gw:jC w) {m:uw} (ht:0<=m.zf∧m.zf < w.pins.length) (hd:m.done=false) (hv:m.version=0) (hc:m.zi=0) (he:m.end_=0) (ho:m.other=0) (hs:m.slot=0) (hl:m.listen= -1) (hi:m.i=0) (hk:m.k=0):∃ v g e,qF w m v g e:=by
 have c:=gw.current;obtain ⟨v,hv0⟩:∃ v,w.ze[0]?= some v:=⟨_,dM aw⟩;have gv:=(gw.eJ _ v hv0).1;have h0:0 < v.zm.length:=aE
 obtain ⟨g,e,hg,hee,l1,l2⟩:=vW gv h0;exact ⟨v,g,e,qh.2 gw,ht,hd,aw,by rw [hv];exact hv0,aw,by rw [hc];exact hg,aw,by rw [he];exact hee,aw,aw,aw,aw,aw⟩
def wc (w:Wor) (i j k:Int):Option En:=(w.ze[i.toNat]?).bind fun v=>(v.zm[j.toNat]?).bind fun g=>g.ends[k.toNat]?
abbrev iR (w:Wor) (m:uw) (v:u3) (g:Gr) (e':En) (tk:Int):Wor:={ w with ze:=w.ze.set m.version.toNat { v with zm:=v.zm.set m.zi.toNat { g with zt:=tk,ends:=g.ends.set m.end_.toNat e' } } }
def E7 {w:Wor} {m:uw} {v:u3} {g:Gr} {e:En} (hat:fc w m v g e) (e':En) (tk i j k:Int):wc (iR w m v g e' tk) i j k=if i.toNat=m.version.toNat∧j.toNat=m.zi.toNat∧k.toNat=m.end_.toNat then some e' else wc w i j k:=by
 have s1:=(dL.1 hat.at_).1;have s2:=(dL.1 hat.ey).1;have s3:=(dL.1 hat.eL).1;unfold wc iR;dsimp only;by_cases h1:i.toNat=m.version.toNat
 ·rw [h1,dS s1,hat.at_,gz,gz];dsimp only;by_cases h2:j.toNat=m.zi.toNat
  ·rw [h2,dS s2,hat.ey,gz,gz];dsimp only;by_cases h3:k.toNat=m.end_.toNat
   ·rw [h3,dS s3,dQ ⟨rfl,rfl,rfl⟩]
   ·rw [gJ (fun h=>h3 h.symm),dN (fun h=>h3 h.2.2)]
  ·rw [gJ (fun h=>h2 h.symm),dN (fun h=>h2 h.2.1)]
 ·rw [gJ (fun h=>h1 h.symm),dN (fun h=>h1 h.1)]
def FP {w:Wor} {m:uw} {v:u3} {g:Gr} {e:En} (hat:fc w m v g e):wc w m.version m.zi m.end_=some e:=by
 unfold wc;rw [hat.at_,gz,hat.ey,gz,hat.eL]
def nE (L:List ef) (i j k:Int):Nat:=L.countP fun a=>decide (a.version=i∧a.zi=j∧a.end_=k)
def nL (L:List ef) (i:Int):Nat:=L.countP fun a=>decide (a.listen=i)
def G0 (a b:ef):Prop:=a.version=b.version∧a.zi=b.zi∧a.end_=b.end_∧a.slot=b.slot
structure nI (w:Wor) (a:ef):Prop where
 pos:0<=a.version∧0<=a.zi∧0<=a.end_∧0<=a.slot
 ec:0<=a.listen∧a.listen < w.zd.length
 at_:∃ e,wc w a.version a.zi a.end_=some e∧a.slot < e.next.length∧a.slot ∉ (Slp.qz e).1
structure iO (w:Wor) (L:List ef) (x:Int):Prop where
 HA:∀ a ∈ L,nI w a
 diff:L.Pairwise fun a b=>¬G0 a b
 ec:∀ (i:Nat) l,w.zd[i]?= some l->((nL L i+(if x=i then 1 else 0):Nat):Int)<=l.zg
 ends : ∀ i j k e, 0 <= i -> 0 <= j -> 0 <= k -> wc w i j k = some e -> (nE L i j k : Int) <= e.zg
def nI.iM {w:Wor} {m:uw} {v:u3} {g:Gr} {e e':En} {a:ef} {tk:Int} (f:nI w a) (hat:fc w m v g e) (hl:e'.next.length=e.next.length) (hf:a.slot ∉ (Slp.qz e).1->a.version=m.version->a.zi=m.zi->a.end_=m.end_->a.slot ∉ (Slp.qz e').1):nI (iR w m v g e' tk) a:=by
 obtain ⟨h1,h2,e0,h3,h4,h5⟩:=f;refine ⟨h1,h2,?_⟩;rw [E7 hat];by_cases q:a.version.toNat=m.version.toNat∧a.zi.toNat=m.zi.toNat∧a.end_.toNat=m.end_.toNat
 ·rw [dQ q];have p1:=hat.v0;have p2:=hat.g0;have p3:=hat.e0;have q1:a.version=m.version:=by omega
  have q2:a.zi=m.zi:=aw
  have q3:a.end_=m.end_:=aw
  have:=FP hat;rw [<- q1,<- q2,<- q3,h3] at this;cases this
  exact ⟨e',rfl,aw,hf h5 q1 q2 q3⟩
 ·rw [dN q];exact ⟨e0,h3,h4,h5⟩
def nI.other {w w':Wor} {a:ef} (f:nI w a) (hv:w'.ze=w.ze) (hl:w'.zd.length=w.zd.length):nI w' a:=by
 obtain ⟨h1,h2,h3⟩:=f;exact ⟨h1,aw,by unfold wc at h3 ⊢;rw [hv];exact h3⟩
def iO.iM {w:Wor} {m:uw} {v:u3} {g:Gr} {e e':En} {L:List ef} {x tk:Int} (o:iO w L x) (hat:fc w m v g e) (hl:e'.next.length=e.next.length) (hf:∀ s,s ∉ (Slp.qz e).1->s ∉ (Slp.qz e').1) (ha:e.zg<=e'.zg):iO (iR w m v g e' tk) L x:=by
 refine ⟨fun a h=>(o.HA a h).iM hat hl fun h1 _ _ _=>hf _ h1,o.diff,o.ec,fun i j k e0 hi hj hk h=>?_⟩;rw [E7 hat] at h;split at h
 ·rename_i q;cases h
  have p1:=hat.v0;have p2:=hat.g0;have p3:=hat.e0;have q1:i=m.version:=aw
  have q2:j=m.zi:=aw
  have q3:k=m.end_:=aw
  have:=o.ends _ _ _ e hat.v0 hat.g0 hat.e0 (FP hat);rw [q1,q2,q3];omega
 ·exact o.ends i j k e0 hi hj hk h
def iO.other {w w':Wor} {L:List ef} {x:Int} (o:iO w L x) (hv:w'.ze=w.ze) (hl:w'.zd=w.zd):iO w' L x:=by
 refine ⟨fun a h=>(o.HA a h).other hv (by rw [hl]),o.diff,by rw [hl];exact o.ec,?_⟩;unfold wc;rw [hv];exact o.ends
def iO.set {w:Wor} {L:List ef} {x x':Int} {i:Nat} {l:eE} {n:Int} (o:iO w L x) (hx:w.zd[i]?= some l) (hn:((nL L i+(if x'=i then 1 else 0):Nat):Int)<=n) (hi:∀ j:Nat,j≠i->(x'=j->x=j)):iO { w with zd:=w.zd.set i { l with zg:=n } } L x':=by
 refine ⟨fun a h=>(o.HA a h).other rfl aj,o.diff,fun j l' h=>?_,o.ends⟩;rcases xW h with ⟨rfl,rfl,_⟩ | ⟨hne,h⟩
 ·exact hn
 ·have:=o.ec j l' h;have h3:=hi j (fun h=>hne h.symm);by_cases q:x'=j
  ·rw [dQ q];rw [dQ (h3 q)] at this;exact dy
  ·rw [dN q];omega
inductive HI (L:List ef) (h:Nat):Wor->uw->Prop
 | out {w:Wor} {m:uw} (p:m.pc<=4∨(20<=m.pc∧m.answer.kind≠1∧(m.listen < 0∨m.pc=23))) (o:iO w L (-1)) (e:ny w=h):HI L h w m
 | EH {w:Wor} {m:uw} (p:(5<=m.pc∧m.pc<=11)∨(20<=m.pc∧m.pc<=22∧m.answer.kind≠1)) (l:0<=m.listen) (o:iO w L m.listen) (e:ny w=h):HI L h w m
 | HP {w:Wor} {m:uw} (p:m.pc=12) (l:0<=m.listen) (o:iO w L m.listen) (e:ny w=h+1) (f:nI w (AS m)) (d:∀ b ∈ L,¬G0 b (AS m)):HI L h w m
 | held {w:Wor} {m:uw} (p:20<=m.pc∧m.pc≠22) (k:m.answer.kind=1) (o:iO w (L++[m.answer]) (-1)) (e:ny w=h+1):HI L h w m
section
variable {N K:Nat} {w:Wor} {m:uw} {v:u3} {g:Gr} {e:En} {L:List ef} {h:Nat} {r:Wor × uw × uz}
def HI.early (hi:HI L h w m) (p:m.pc<=4):iO w L (-1)∧ny w=h:=by
 cases hi with
 | out q o e=>exact ⟨o,e⟩
 | EH q l o e=>omega
 | HP q l o e f d=>omega
 | held q k o e=>omega
def HI.oE (hi:HI L h w m) (p:5<=m.pc∧m.pc<=11):0<=m.listen∧iO w L m.listen∧ny w=h:=by
 cases hi with
 | out q o e=>omega
 | EH q l o e=>exact ⟨l,o,e⟩
 | HP q l o e f d=>omega
 | held q k o e=>omega
def Ta {e:En} {s k:Int} (he:e.ok) (hv:Slp.eu e=true) (hh:Slp.zC e=s) (h0:0<=s) (hk:Slp.fk e.next s=k):(Slp.qz e).1=s::(Slp.qz (qt e (Slp.qV e.head k) e.zg)).1∧s ∉ (Slp.qz (qt e (Slp.qV e.head k) e.zg)).1:=by
 have hp:Slp.El e=(qt e (Slp.qV e.head k) e.zg,s,0):=by
  unfold Slp.El;rw [dN (by simp [hv]),dN aw,hh,hk]
 obtain ⟨_,_,_,_,_,_,_,_,q⟩:=Slp.UN he hp;have q1:=pW Prod.fst q;refine ⟨q1,?_⟩;have hd:=Slp.S7 e.next (Slp.zC e);have hf:=pW Prod.fst (Slp.Ac (Slp.oI hv).1);simp only at hf;rw [<- hf,q1,List.nodup_cons] at hd;exact hd.1
end
end Go.Wor
namespace Go.Wor
open Go.Ab Go.Proofs Tryz Go.Gat Go.Nam Go.Hos Go.Con Go.Sna Go.Pla
open Go.Hy hiding encI
def Md {w:Wor} {i j k:Int} {e:En} (h:wc w i j k=some e):∃ v g,w.ze[i.toNat]?= some v∧v.zm[j.toNat]?= some g∧g.ends[k.toNat]?= some e:=by
 unfold wc at h;obtain ⟨v,h1,h⟩:=gM.1 h;obtain ⟨g,h2,h3⟩:=gM.1 h;exact ⟨v,g,h1,h2,h3⟩
def RB {e:En} {s:Int} (he:e.ok) (hv:Slp.eu e=true) (h0:0<=s) (h1:s < e.next.length) (hn:s ∉ (Slp.qz e).1):
  Slp.eu ⟨Slp.qV e.head s,e.next.set s.toNat (Slp.zC e),e.zg⟩=true∧(⟨Slp.qV e.head s,e.next.set s.toNat (Slp.zC e),e.zg⟩:En).ok∧(Slp.qz ⟨Slp.qV e.head s,e.next.set s.toNat (Slp.zC e),e.zg⟩).1=s::(Slp.qz e).1:=by
 have hp:Slp.D5 e s=(⟨Slp.qV e.head s,e.next.set s.toNat (Slp.zC e),e.zg⟩,0):=by
  unfold Slp.D5;rw [dN (by simp [hv]),dN aw,dN (aq hn)]
 obtain ⟨_,_,_,_,_,q1,q2,_,q3⟩:=Slp.Tc he hp;exact ⟨q1,q2,pW Prod.fst q3⟩
end Go.Wor
namespace Go.Pla
open Go.Ab Go.Proofs Tryz Go.Hy
def FE {α:Type} {p q:α->Bool}:∀ {l:List α},(∀ x ∈ l,p x=q x)->l.findIdx? p=l.findIdx? q
 | [],_=>rfl
 | x::l,h=>by
  rw [pS,pS,h x (pz ..),FE fun y hy=>h y (pj _ hy)]
def Ls (given:List ef) (a f:ef) {n:Nat} (h:n < given.length):fq (given++[a]) f n=fq given f n:=by
 unfold fq;rw [dT h]
def Jx (given:List ef) (a:ef):∀ k,k<=given.length->je (given++[a]) k=je given k
 | 0,_=>rfl
 | k+1,h=>by
  show nz (given++[a]) (je (given++[a]) k) k=nz given (je given k) k;have ux:=kb given k aw;rw [Jx given a k aw];unfold nz;rw [dT aw];cases hx:given[k]? with
  | none=>rfl
  | some x=>
   dsimp only;rw [FE (p:=fq (given++[a]) x) (q:=fq given x) fun n hn=>Ls given a x (by have:=ux n hn;omega)]
def Fk (given:List ef) (a:ef):jB (given++[a])=if a.kind=1 then jB given++[given.length] else match (jB given).findIdx? (fq given a) with
  | some k=>(jB given).eraseIdx k
  | none=>jB given:=by
 have ux:=kb given given.length (dW _);unfold jB;rw [gR,p9];show nz (given++[a]) (je (given++[a]) given.length) given.length=_;rw [Jx given a _ (dW _)];unfold nz;rw [gj (dW _),rb];show (if a.kind=1 then _ else match (je given given.length).findIdx? (fq (given++[a]) a) with | some k=>_ | none=>_)=_;rw [FE (p:=fq (given++[a]) a) (q:=fq given a) fun n hn=>Ls given a a (ux n hn)]
def kD (given L:List ef):Prop:=(jB given).map (fun i=>given[i]?)=L.map some
def kD.len {given L:List ef} (h:kD given L):(jB given).length=L.length:=by
 have:=pW List.length h;simpa using this
theorem Vk:kD [] []:=rfl
def FJ (given:List ef) (a:ef) (l:List Nat) (h:∀ n ∈ l,n < given.length):l.map (fun i=>(given++[a])[i]?)=l.map fun i=>given[i]?:=
 rE fun n hn=>dT (h n hn)
def kD.Vv {given L:List ef} (h:kD given L) {a:ef} (ha:a.kind=1):kD (given++[a]) (L++[a]):=by
 have ux:∀ n ∈ jB given,n < given.length:=kb given given.length (dW _);unfold kD at h ⊢;rw [Fk,dQ ha,pB,FJ given a _ ux,h,pB];simp
def kD.other {given L:List ef} (h:kD given L) {a:ef} (ha:a.kind≠1) (h6:a.kind≠6):kD (given++[a]) L:=by
 have ux:∀ n ∈ jB given,n < given.length:=kb given given.length (dW _)
 have e:(jB given).findIdx? (fq given a)=none:=by
  rw [gC];intro n hn;unfold fq;split
  ·unfold we;rw [pL h6]
   rfl
  ·rfl
 unfold kD at h ⊢;rw [Fk,dN ha,e];dsimp only;rw [FJ given a _ ux,h]
def kD.head {given L:List ef} {b:ef} (h:kD given (b::L)):∃ i l,jB given=i::l∧given[i]?= some b∧l.map (fun i=>given[i]?)=L.map some:=by
 unfold kD at h;cases ho:jB given with
 | nil=>rw [ho] at h;cases h
 | cons i l=>
  rw [ho,pI,pI] at h;obtain ⟨h1,h2⟩:=List.cons.inj h;exact ⟨i,l,rfl,h1,h2⟩
end Go.Pla
namespace Go.Beg
open Go.Ab Go.Proofs Tryz Go.Hy Go.Pla
end Go.Beg
namespace Go.Wor
open Go.Ab Go.Proofs Tryz Go.Gat Go.Nam Go.Hos Go.Con Go.Sna Go.Pla
open Go.Hy hiding encI
end Go.Wor
