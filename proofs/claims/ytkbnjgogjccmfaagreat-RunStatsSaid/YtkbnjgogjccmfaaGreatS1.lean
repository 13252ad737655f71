import Derived.Test.YtkbnjgogjccmfaaGreatSK
import Derived.Test.YtkbnjgogjccmfaaGreatSZ
set_option linter.all false
set_option maxRecDepth 100000
set_option maxHeartbeats 4000000
namespace Go.Wor
open Go.Ab Go.Proofs Tryz Go.Gat Go.Nam Go.Hos Go.Con Go.Sna
open Go.Hy hiding encI
def hE (e:En):Nat:=e.next.length - (Slp.qB e).1.length
def hG (g:Gr):Nat:=(g.ends.map hE).sum
def hV (v:u9):Nat:=(v.zm.map hG).sum
def nM (w:Wor):Nat:=(w.ze.map hV).sum
def DJ {α:Type} (f:α->Nat) (l:List α) {k:Nat} (h:k < l.length):((l.take (k+1)).map f).sum=((l.take k).map f).sum+f l[k]:=by
 rw [gR h,pb,rH];simp
def E5 {α:Type} (f:α->Nat) (l:List α):∀ k,((l.take k).map f).sum<=(l.map f).sum:=fun k=>by
 have h:(l.map f).sum=((l.take k).map f).sum+((l.drop k).map f).sum:=by
  rw [<- rH,<- pb,r9]
 omega
structure MK (w:Wor):Prop where
 lens:w.ze.length < 4000000000000000000
 lg:∀ v ∈ w.ze,v.zm.length < 4000000000000000000
 le:∀ v ∈ w.ze,∀ g ∈ v.zm,g.ends.length < 4000000000000000000
 ok:∀ v ∈ w.ze,∀ g ∈ v.zm,∀ e ∈ g.ends,e.ok∧Slp.eF e=true∧(Slp.qB e).1.length<=e.next.length
 sum:nM w < 4000000000000000000
def OX (w:Wor) (hw:MK w):to 23 [] [Cw w] (I (nM w:Nat)) []:=by
 have m1:(w.ze.map zF).length=w.ze.length:=dV ..;have b1:=hw.lens;refine ab func23 ?_;rw [m1];refine zW.seq w.ze.length (fun k=>(.za::.ref 0 [] 8 0 0::I 0::I (((w.ze.take k).map hV).sum:Nat)::hZ (.za::(lV w.ze)::I w.ze.length::I k::hZ (hZ (hZ (hZ ([.za,.za,.za,.za]))))))) (fun k=>[⟨1,37,8,[zJ w],0⟩]) (fun k=>True) ?_ trivial (fun k hk _=>?_) (fun _=>?_)
 ·exact cC
 ·obtain ⟨v,hx⟩:∃ v,v=w.ze[k]:=⟨_,rfl⟩;have hv:v ∈ w.ze:=by rw [hx];exact dL
  have hg:(w.ze.map zF)[k]?= some (zF v):=by rw [dT,dQ hk,hx];rfl
  have m2:(v.zm.map zE).length=v.zm.length:=dV ..;have sk:=DJ hV w.ze hk;rw [<- hx] at sk;have sl:=E5 hV w.ze (k+1);have sw:(w.ze.map hV).sum < 4000000000000000000:=hw.sum;have bg:=hw.lg v hv;conv=>whnf
  refine uF ?_;(refine tf hg ?_)
  rw [m2];refine zW.seq v.zm.length (fun j=>(.za::.ref 0 [] 8 0 0::I 0::I (((w.ze.take k).map hV).sum+((v.zm.take j).map hG).sum:Nat)::.za::.ref 1 [] 5 0 0::.za::.za::.za::.za::.za::.za::.za::(lV w.ze)::I w.ze.length::I k::.za::.za::.za::.za::(lG v.zm)::I v.zm.length::I j::hZ (hZ (hZ ([.za,.za,.za,.za,.za]))))) (fun j=>[⟨1,37,8,[zJ w],0⟩,⟨1,107,5,[zF v],0⟩]) (fun k=>True) ?_ trivial (fun j hj _=>?_) (fun _=>?_)
  ·exact cC
  ·obtain ⟨g,hxg⟩:∃ g,g=v.zm[j]:=⟨_,rfl⟩;have hgm:g ∈ v.zm:=by rw [hxg];exact gS hj
   have hgg:(v.zm.map zE)[j]?= some (zE g):=by rw [dT,dQ hj,hxg];rfl
   have m3:(g.ends.map zx).length=g.ends.length:=dV ..;have sj:=DJ hG v.zm hj;rw [<- hxg] at sj;have sjl:=E5 hG v.zm (j+1);have sjv:(v.zm.map hG).sum=hV v:=rfl;have be:=hw.le v hv g hgm;conv=>whnf
   refine uF ?_;(refine tf hgg ?_)
   rw [m3];refine zW.seq g.ends.length (fun n=>(.za::.ref 0 [] 8 0 0::I 0::I (((w.ze.take k).map hV).sum+((v.zm.take j).map hG).sum+((g.ends.take n).map hE).sum:Nat)::.za::.ref 1 [] 5 0 0::.za::.ref 2 [] 2 0 0::.za::.za::.za::.za::.za::(lV w.ze)::I w.ze.length::I k::.za::.za::.za::.za::(lG v.zm)::I v.zm.length::I j::.za::.za::.za::.za::(lE g.ends)::I g.ends.length::I n::hZ (hZ ([.za,.za,.za,.za,.za,.za])))) (fun n=>[⟨1,37,8,[zJ w],0⟩,⟨1,107,5,[zF v],0⟩,⟨1,134,2,[zE g],0⟩]) (fun k=>True) ?_ trivial (fun n hn _=>?_) (fun _=>?_)
   ·exact cC
   ·obtain ⟨e,hxe⟩:∃ e,e=g.ends[n]:=⟨_,rfl⟩;have hem:e ∈ g.ends:=by rw [hxe];exact gS hn
    have hge:(g.ends.map zx)[n]?= some (zx e):=by rw [dT,dQ hn,hxe];rfl
    obtain ⟨eo,ei,el⟩:=hw.ok v hv g hgm e hem;have sn:=DJ hE g.ends hn;rw [<- hxe] at sn;have snl:=E5 hE g.ends (n+1);have sng:(g.ends.map hE).sum=hG g:=rfl;have m4:(e.next.map Go.Hy.encI).length=e.next.length:=dV ..;have m5:((Slp.qB e).1.map Go.Hy.encI).length=(Slp.qB e).1.length:=dV ..;have en:=eo.2.1.2;conv=>whnf
    refine uF ?_;(refine tf hge ?_)
    refine ah (Slp.Dg e eo) ?_;refine ah (Slp.AZ e eo) ?_;rw [ei];refine td ?_
    rw [m4,m5]
    have q1:IntKind.i64.wrap ((e.next.length:Int) - ((Slp.qB e).1.length:Int))=((hE e:Nat):Int):=by
     rw [jc aw aw];unfold hE;omega
    have q2:IntKind.i64.wrap (((((w.ze.take k).map hV).sum+((v.zm.take j).map hG).sum+((g.ends.take n).map hE).sum:Nat):Int)+((hE e:Nat):Int))=(((((w.ze.take k).map hV).sum+((v.zm.take j).map hG).sum+((g.ends.take (n+1)).map hE).sum:Nat)):Int):=by
     rw [jc aw aw];omega
    rw [q1,q2,zu aw];refine .inl ⟨rfl,?_,trivial⟩;exact cE 3
   ·have e1:(g.ends.take g.ends.length).map hE=g.ends.map hE:=by rw [gX]
    have e2:(((v.zm.take j).map hG).sum+(g.ends.map hE).sum)=((v.zm.take (j+1)).map hG).sum:=by rw [sj];rfl
    refine uD ?_;rw [e1,rA,e2,zu aw];refine .inl ⟨rfl,?_,trivial⟩;exact cE 2
  ·have e1:(v.zm.take v.zm.length).map hG=v.zm.map hG:=by rw [gX]
   have e2:(((w.ze.take k).map hV).sum+(v.zm.map hG).sum)=((w.ze.take (k+1)).map hV).sum:=by rw [sk];rfl
   refine uD ?_;rw [e1,e2,zu aw];refine .inl ⟨rfl,?_,trivial⟩;exact cE 1
 ·have e1:(w.ze.take w.ze.length).map hV=w.ze.map hV:=by rw [gX]
  refine uD ?_;rw [e1];exact uI
def Vy (e:En):(Slp.qB e).1.length<=e.next.length:=by
 have h1:=(Slp.yO e.next (Slp.zC e)).1;unfold Slp.qB;split
 ·show (Slp.xf _ _ _).length<=_;unfold Slp.xf;simp only [dV,List.length_range];omega
 ·simp
def k9 {α:Type} (f:α->Nat) (b:Nat):∀ (l:List α),(∀ x ∈ l,f x<=b)->(l.map f).sum<=l.length * b
 | [],_=>by simp
 | x::l,h=>by
  have:=k9 f b l fun y hy=>h y (px _ hy)
  have:=h x (pD ..);rw [pF,pG,pR,pI];omega
def VD {N:Nat} {w:Wor} (h:jO w) (t:iD N w) (hN:N<=100000000):MK w:=by
 have fV:∀ v ∈ w.ze,v.zm.length<=4∧∀ g ∈ v.zm,g.ends.length<=4∧1<=g.ends.length∧∀ e ∈ g.ends,Slp.eF e=true∧e.next.length<=4∧1<=e.next.length:=fun v hv=>by
  obtain ⟨i,hi⟩:=gA.1 hv;exact (h.eR i v hi).1.fV
 refine ⟨by have:=t.iB;omega,fun v hv=>by have:=(fV v hv).1;omega,fun v hv g hg=>by have:=((fV v hv).2 g hg).1;omega,fun v hv g hg e he=>⟨((t.fS v hv).2 g hg).2 e he,(((fV v hv).2 g hg).2.2 e he).1,Vy e⟩,?_⟩
 have q1:∀ v ∈ w.ze,∀ g ∈ v.zm,hG g<=16:=fun v hv g hg=>by
  have f:=(fV v hv).2 g hg;have:=k9 hE 4 g.ends fun e he=>by have:=(f.2.2 e he).2.1;unfold hE;omega
  have:=f.1;unfold hG;omega
 have q2:∀ v ∈ w.ze,hV v<=64:=fun v hv=>by
  have:=k9 hG 16 v.zm fun g hg=>q1 v hv g hg
  have:=(fV v hv).1;unfold hV;omega
 have:=k9 hV 64 w.ze q2;have:=t.iB;unfold nM;omega
end Go.Wor
namespace Go.Slp
open Go.Ab Go.Proofs Tryz Go.Hy
def DV {nx:List Int} {i0 s v:Int} (h0:0<=s) (hs:s ∉ xf nx i0 (jZ nx i0)):∀ j,j<=jZ nx i0->jW (nx.set s.toNat v) i0 j=jW nx i0 j
 | 0,_=>rfl
 | j+1,h=>by
  have ih:=DV (v:=v) h0 hs j aw;have hm:jW nx i0 j ∈ xf nx i0 (jZ nx i0):=gL.2 ⟨j,pN.2 aw,rfl⟩;have hb:=(DK (yO nx i0).2.2).2 _ hm;have hp:0<=jW nx i0 j:=by unfold fU at hb;simp at hb;omega
  show fA (nx.set s.toNat v) (jW (nx.set s.toNat v) i0 j)=fA nx (jW nx i0 j);rw [ih];exact JQ (fun e=>hs (e ▸ hm)) h0 hp
def LG {nx:List Int} {i0 s v:Int} (h0:0<=s) (hs:s ∉ xf nx i0 (jZ nx i0)) {k:Nat} (hk:k<=jZ nx i0):xf (nx.set s.toNat v) i0 k=xf nx i0 k:=by
 unfold xf;apply ri
 intro j hj;exact DV h0 hs j (by have:=pN.1 hj;omega)
def Lm {nx:List Int} {i0 s v:Int} (h0:0<=s) (hs:s ∉ xf nx i0 (jZ nx i0)) {k:Nat} (hk:k<=jZ nx i0):yx (nx.set s.toNat v) i0 k=yx nx i0 k:=by
 unfold yx;rw [LG h0 hs hk,DV h0 hs k hk];unfold fU;rw [rF]
def LI {nx:List Int} {i0 s v:Int} (h0:0<=s) (hs:s ∉ xf nx i0 (jZ nx i0)):jZ (nx.set s.toNat v) i0=jZ nx i0:=by
 obtain ⟨c1,c2,c3⟩:=yO nx i0;exact F4 (by rw [Lm h0 hs (gf _)];exact c2) fun j hj=>by rw [Lm h0 hs aw];exact c3 j hj
def Mi {nx:List Int} {i0 s v:Int} (h0:0<=s) (hs:s ∉ xf nx i0 (jZ nx i0)):fj (nx.set s.toNat v) i0=fj nx i0:=by
 unfold fj;rw [LI h0 hs,DV h0 hs _ (gf _)]
def R2 {e:En} {s v:Int} (hi:eF e=true) (h0:0<=s) (hs:s ∉ (qB e).1):qB { e with next:=e.next.set s.toNat v }=qB e∧eF { e with next:=e.next.set s.toNat v }=true:=by
 have ok:fj e.next (zC e)=true:=by
  unfold eF at hi;simp only [dY] at hi;exact hi.1.1.1
 have hs:s ∉ xf e.next (zC e) (jZ e.next (zC e)):=by
  unfold qB at hs;rw [dU ok] at hs;exact hs
 refine ⟨?_,?_⟩
 ·show (if fj (e.next.set s.toNat v) (zC e)=true then (xf (e.next.set s.toNat v) (zC e) (jZ (e.next.set s.toNat v) (zC e)),(0:Int)) else ([],11))=_;rw [Mi h0 hs,LI h0 hs,LG h0 hs (gf _)]
  rfl
 ·show (fj (e.next.set s.toNat v) (zC e) && decide (1<=(e.next.set s.toNat v).length) && decide ((e.next.set s.toNat v).length<=4) && decide (0<=e.zf))=true;rw [Mi h0 hs,rF];exact hi
end Go.Slp
namespace Go.Wor
open Go.Ab Go.Proofs Tryz Go.Gat Go.Nam Go.Hos Go.Con Go.Sna
open Go.Hy hiding encI
def Cy {α:Type} (f:α->Nat):∀ (l:List α) (i:Nat) {x:α} (y:α),l[i]?= some x->((l.set i y).map f).sum+f x=(l.map f).sum+f y
 | [],i,x,y,h=>by simp at h
 | a::l,0,x,y,h=>by
  have e:a=x:=aq h
  subst e;simp only [rO,pF,pG];omega
 | a::l,i+1,x,y,h=>by
  have:=Cy f l i y tX;simp only [sK,pF,pG];omega
def I5 {w:Wor} (gw:jO w) {m:u3} (ht:0<=m.zg∧m.zg < w.pins.length) (hd:m.done=false) (hv:m.version=0) (hc:m.zi=0) (he:m.end_=0) (ho:m.other=0) (hs:m.slot=0) (hl:m.listen= -1) (hi:m.i=0) (hk:m.k=0):∃ v g e,qG w m v g e:=by
 have c:=gw.current;obtain ⟨v,hv0⟩:∃ v,w.ze[0]?= some v:=⟨_,dQ aw⟩;have gv:=(gw.eR _ v hv0).1;have h0:0 < v.zm.length:=aE
 obtain ⟨g,e,hg,hee,l1,l2⟩:=v7 gv h0;exact ⟨v,g,e,ql.2 gw,ht,hd,aw,by rw [hv];exact hv0,aw,by rw [hc];exact hg,aw,by rw [he];exact hee,aw,aw,aw,aw,aw⟩
def wj (w:Wor) (i j k:Int):Option En:=(w.ze[i.toNat]?).bind fun v=>(v.zm[j.toNat]?).bind fun g=>g.ends[k.toNat]?
abbrev lb (w:Wor) (m:u3) (v:u9) (g:Gr) (e':En) (tk:Int):Wor:={ w with ze:=w.ze.set m.version.toNat { v with zm:=v.zm.set m.zi.toNat { g with zt:=tk,ends:=g.ends.set m.end_.toNat e' } } }
def Fe {w:Wor} {m:u3} {v:u9} {g:Gr} {e:En} (hat:fk w m v g e) (e':En) (tk i j k:Int):wj (lb w m v g e' tk) i j k=if i.toNat=m.version.toNat∧j.toNat=m.zi.toNat∧k.toNat=m.end_.toNat then some e' else wj w i j k:=by
 have s1:=(dP.1 hat.at_).1;have s2:=(dP.1 hat.eG).1;have s3:=(dP.1 hat.eS).1;unfold wj lb;dsimp only;by_cases h1:i.toNat=m.version.toNat
 ·rw [h1,dW s1,hat.at_,gE,gE];dsimp only;by_cases h2:j.toNat=m.zi.toNat
  ·rw [h2,dW s2,hat.eG,gE,gE];dsimp only;by_cases h3:k.toNat=m.end_.toNat
   ·rw [h3,dW s3,dU ⟨rfl,rfl,rfl⟩]
   ·rw [gZ (fun h=>h3 h.symm),dR (fun h=>h3 h.2.2)]
  ·rw [gZ (fun h=>h2 h.symm),dR (fun h=>h2 h.2.1)]
 ·rw [gZ (fun h=>h1 h.symm),dR (fun h=>h1 h.1)]
def FT {w:Wor} {m:u3} {v:u9} {g:Gr} {e:En} (hat:fk w m v g e):wj w m.version m.zi m.end_=some e:=by
 unfold wj;rw [hat.at_,gE,hat.eG,gE,hat.eS]
def nE (L:List eC) (i j k:Int):Nat:=L.countP fun a=>decide (a.version=i∧a.zi=j∧a.end_=k)
def nL (L:List eC) (i:Int):Nat:=L.countP fun a=>decide (a.listen=i)
def Hl (a b:eC):Prop:=a.version=b.version∧a.zi=b.zi∧a.end_=b.end_∧a.slot=b.slot
structure nU (w:Wor) (a:eC):Prop where
 pos:0<=a.version∧0<=a.zi∧0<=a.end_∧0<=a.slot
 ey:0<=a.listen∧a.listen < w.zd.length
 at_:∃ e,wj w a.version a.zi a.end_=some e∧a.slot < e.next.length∧a.slot ∉ (Slp.qB e).1
structure iX (w:Wor) (L:List eC) (x:Int):Prop where
 HP:∀ a ∈ L,nU w a
 diff:L.Pairwise fun a b=>¬Hl a b
 ey:∀ (i:Nat) l,w.zd[i]?= some l->((nL L i+(if x=i then 1 else 0):Nat):Int)<=l.zf
 ends : ∀ i j k e, 0 <= i -> 0 <= j -> 0 <= k -> wj w i j k = some e -> (nE L i j k : Int) <= e.zf
def nU.iS {w:Wor} {m:u3} {v:u9} {g:Gr} {e e':En} {a:eC} {tk:Int} (f:nU w a) (hat:fk w m v g e) (hl:e'.next.length=e.next.length) (hf:a.slot ∉ (Slp.qB e).1->a.version=m.version->a.zi=m.zi->a.end_=m.end_->a.slot ∉ (Slp.qB e').1):nU (lb w m v g e' tk) a:=by
 obtain ⟨h1,h2,e0,h3,h4,h5⟩:=f;refine ⟨h1,h2,?_⟩;rw [Fe hat];by_cases q:a.version.toNat=m.version.toNat∧a.zi.toNat=m.zi.toNat∧a.end_.toNat=m.end_.toNat
 ·rw [dU q];have p1:=hat.v0;have p2:=hat.g0;have p3:=hat.e0;have q1:a.version=m.version:=by omega
  have q2:a.zi=m.zi:=aw
  have q3:a.end_=m.end_:=aw
  have:=FT hat;rw [<- q1,<- q2,<- q3,h3] at this;cases this
  exact ⟨e',rfl,aw,hf h5 q1 q2 q3⟩
 ·rw [dR q];exact ⟨e0,h3,h4,h5⟩
def nU.other {w w':Wor} {a:eC} (f:nU w a) (hv:w'.ze=w.ze) (hl:w'.zd.length=w.zd.length):nU w' a:=by
 obtain ⟨h1,h2,h3⟩:=f;exact ⟨h1,aw,by unfold wj at h3 ⊢;rw [hv];exact h3⟩
def iX.iS {w:Wor} {m:u3} {v:u9} {g:Gr} {e e':En} {L:List eC} {x tk:Int} (o:iX w L x) (hat:fk w m v g e) (hl:e'.next.length=e.next.length) (hf:∀ s,s ∉ (Slp.qB e).1->s ∉ (Slp.qB e').1) (ha:e.zf<=e'.zf):iX (lb w m v g e' tk) L x:=by
 refine ⟨fun a h=>(o.HP a h).iS hat hl fun h1 _ _ _=>hf _ h1,o.diff,o.ey,fun i j k e0 hi hj hk h=>?_⟩;rw [Fe hat] at h;split at h
 ·rename_i q;cases h
  have p1:=hat.v0;have p2:=hat.g0;have p3:=hat.e0;have q1:i=m.version:=aw
  have q2:j=m.zi:=aw
  have q3:k=m.end_:=aw
  have:=o.ends _ _ _ e hat.v0 hat.g0 hat.e0 (FT hat);rw [q1,q2,q3];omega
 ·exact o.ends i j k e0 hi hj hk h
def iX.other {w w':Wor} {L:List eC} {x:Int} (o:iX w L x) (hv:w'.ze=w.ze) (hl:w'.zd=w.zd):iX w' L x:=by
 refine ⟨fun a h=>(o.HP a h).other hv (by rw [hl]),o.diff,by rw [hl];exact o.ey,?_⟩;unfold wj;rw [hv];exact o.ends
def iX.set {w:Wor} {L:List eC} {x x':Int} {i:Nat} {l:eL} {n:Int} (o:iX w L x) (hx:w.zd[i]?= some l) (hn:((nL L i+(if x'=i then 1 else 0):Nat):Int)<=n) (hi:∀ j:Nat,j≠i->(x'=j->x=j)):iX { w with zd:=w.zd.set i { l with zf:=n } } L x':=by
 refine ⟨fun a h=>(o.HP a h).other rfl aj,o.diff,fun j l' h=>?_,o.ends⟩;rcases xZ h with ⟨rfl,rfl,_⟩ | ⟨hne,h⟩
 ·exact hn
 ·have:=o.ey j l' h;have h3:=hi j (fun h=>hne h.symm);by_cases q:x'=j
  ·rw [dU q];rw [dU (h3 q)] at this;exact dB
  ·rw [dR q];omega
inductive HI (L:List eC) (h:Nat):Wor->u3->Prop
 | out {w:Wor} {m:u3} (p:m.pc<=4∨(20<=m.pc∧m.answer.kind≠1∧(m.listen < 0∨m.pc=23))) (o:iX w L (-1)) (e:nM w=h):HI L h w m
 | EU {w:Wor} {m:u3} (p:(5<=m.pc∧m.pc<=11)∨(20<=m.pc∧m.pc<=22∧m.answer.kind≠1)) (l:0<=m.listen) (o:iX w L m.listen) (e:nM w=h):HI L h w m
 | Ia {w:Wor} {m:u3} (p:m.pc=12) (l:0<=m.listen) (o:iX w L m.listen) (e:nM w=h+1) (f:nU w (Bc m)) (d:∀ b ∈ L,¬Hl b (Bc m)):HI L h w m
 | held {w:Wor} {m:u3} (p:20<=m.pc∧m.pc≠22) (k:m.answer.kind=1) (o:iX w (L++[m.answer]) (-1)) (e:nM w=h+1):HI L h w m
section
variable {N K:Nat} {w:Wor} {m:u3} {v:u9} {g:Gr} {e:En} {L:List eC} {h:Nat} {r:Wor × u3 × u6}
def HI.early (hi:HI L h w m) (p:m.pc<=4):iX w L (-1)∧nM w=h:=by
 cases hi with
 | out q o e=>exact ⟨o,e⟩
 | EU q l o e=>omega
 | Ia q l o e f d=>omega
 | held q k o e=>omega
def HI.oO (hi:HI L h w m) (p:5<=m.pc∧m.pc<=11):0<=m.listen∧iX w L m.listen∧nM w=h:=by
 cases hi with
 | out q o e=>omega
 | EU q l o e=>exact ⟨l,o,e⟩
 | Ia q l o e f d=>omega
 | held q k o e=>omega
def UE {e:En} {s k:Int} (he:e.ok) (hv:Slp.eF e=true) (hh:Slp.zC e=s) (h0:0<=s) (hk:Slp.fA e.next s=k):(Slp.qB e).1=s::(Slp.qB (qw e (Slp.qW e.head k) e.zf)).1∧s ∉ (Slp.qB (qw e (Slp.qW e.head k) e.zf)).1:=by
 have hp:Slp.Ex e=(qw e (Slp.qW e.head k) e.zf,s,0):=by
  unfold Slp.Ex;rw [dR (by simp [hv]),dR aw,hh,hk]
 obtain ⟨_,_,_,_,_,_,_,_,q⟩:=Slp.US he hp;have q1:=pS Prod.fst q;refine ⟨q1,?_⟩;have hd:=Slp.SU e.next (Slp.zC e);have hf:=pS Prod.fst (Slp.Am (Slp.oS hv).1);simp only at hf;rw [<- hf,q1,List.nodup_cons] at hd;exact hd.1
end
end Go.Wor
namespace Go.Wor
open Go.Ab Go.Proofs Tryz Go.Gat Go.Nam Go.Hos Go.Con Go.Sna Go.Pla
open Go.Hy hiding encI
def MN {w:Wor} {i j k:Int} {e:En} (h:wj w i j k=some e):∃ v g,w.ze[i.toNat]?= some v∧v.zm[j.toNat]?= some g∧g.ends[k.toNat]?= some e:=by
 unfold wj at h;obtain ⟨v,h1,h⟩:=gP.1 h;obtain ⟨g,h2,h3⟩:=gP.1 h;exact ⟨v,g,h1,h2,h3⟩
def Ta {e:En} {s:Int} (he:e.ok) (hv:Slp.eF e=true) (h0:0<=s) (h1:s < e.next.length) (hn:s ∉ (Slp.qB e).1):
  Slp.eF ⟨Slp.qW e.head s,e.next.set s.toNat (Slp.zC e),e.zf⟩=true∧(⟨Slp.qW e.head s,e.next.set s.toNat (Slp.zC e),e.zf⟩:En).ok∧(Slp.qB ⟨Slp.qW e.head s,e.next.set s.toNat (Slp.zC e),e.zf⟩).1=s::(Slp.qB e).1:=by
 have hp:Slp.Eg e s=(⟨Slp.qW e.head s,e.next.set s.toNat (Slp.zC e),e.zf⟩,0):=by
  unfold Slp.Eg;rw [dR (by simp [hv]),dR aw,dR (aq hn)]
 obtain ⟨_,_,_,_,_,q1,q2,_,q3⟩:=Slp.UG he hp;exact ⟨q1,q2,pS Prod.fst q3⟩
end Go.Wor
namespace Go.Pla
open Go.Ab Go.Proofs Tryz Go.Hy
def FX {α:Type} {p q:α->Bool}:∀ {l:List α},(∀ x ∈ l,p x=q x)->l.findIdx? p=l.findIdx? q
 | [],_=>rfl
 | x::l,h=>by
  rw [pZ,pZ,h x (pD ..),FX fun y hy=>h y (px _ hy)]
def L8 (given:List eC) (a f:eC) {n:Nat} (h:n < given.length):fE (given++[a]) f n=fE given f n:=by
 unfold fE;rw [dX h]
def JR (given:List eC) (a:eC):∀ k,k<=given.length->jk (given++[a]) k=jk given k
 | 0,_=>rfl
 | k+1,h=>by
  show nN (given++[a]) (jk (given++[a]) k) k=nN given (jk given k) k;have u4:=km given k aw;rw [JR given a k aw];unfold nN;rw [dX aw];cases hx:given[k]? with
  | none=>rfl
  | some x=>
   dsimp only;rw [FX (p:=fE (given++[a]) x) (q:=fE given x) fun n hn=>L8 given a x (by have:=u4 n hn;omega)]
def FF (given:List eC) (a:eC):jG (given++[a])=if a.kind=1 then jG given++[given.length] else match (jG given).findIdx? (fE given a) with
  | some k=>(jG given).eraseIdx k
  | none=>jG given:=by
 have u4:=km given given.length (gf _);unfold jG;rw [gW,rk];show nN (given++[a]) (jk (given++[a]) given.length) given.length=_;rw [JR given a _ (gf _)];unfold nN;rw [gu (gf _),rp];show (if a.kind=1 then _ else match (jk given given.length).findIdx? (fE (given++[a]) a) with | some k=>_ | none=>_)=_;rw [FX (p:=fE (given++[a]) a) (q:=fE given a) fun n hn=>L8 given a a (u4 n hn)]
def kI (given L:List eC):Prop:=(jG given).map (fun i=>given[i]?)=L.map some
def kI.len {given L:List eC} (h:kI given L):(jG given).length=L.length:=by
 have:=pS List.length h;simpa using this
theorem Vb:kI [] []:=rfl
def FQ (given:List eC) (a:eC) (l:List Nat) (h:∀ n ∈ l,n < given.length):l.map (fun i=>(given++[a])[i]?)=l.map fun i=>given[i]?:=
 ri fun n hn=>dX (h n hn)
def kI.WV {given L:List eC} (h:kI given L) {a:eC} (ha:a.kind=1):kI (given++[a]) (L++[a]):=by
 have u4:∀ n ∈ jG given,n < given.length:=km given given.length (gf _);unfold kI at h ⊢;rw [FF,dU ha,pb,FQ given a _ u4,h,pb];simp
def kI.other {given L:List eC} (h:kI given L) {a:eC} (ha:a.kind≠1) (h6:a.kind≠6):kI (given++[a]) L:=by
 have u4:∀ n ∈ jG given,n < given.length:=km given given.length (gf _)
 have e:(jG given).findIdx? (fE given a)=none:=by
  rw [gG];intro n hn;unfold fE;split
  ·unfold wm;rw [pP h6]
   rfl
  ·rfl
 unfold kI at h ⊢;rw [FF,dR ha,e];dsimp only;rw [FQ given a _ u4,h]
def kI.head {given L:List eC} {b:eC} (h:kI given (b::L)):∃ i l,jG given=i::l∧given[i]?= some b∧l.map (fun i=>given[i]?)=L.map some:=by
 unfold kI at h;cases ho:jG given with
 | nil=>rw [ho] at h;cases h
 | cons i l=>
  rw [ho,pF,pF] at h;obtain ⟨h1,h2⟩:=List.cons.inj h;exact ⟨i,l,rfl,h1,h2⟩
end Go.Pla
namespace Go.Beg
open Go.Ab Go.Proofs Tryz Go.Hy Go.Pla
end Go.Beg
namespace Go.Wor
open Go.Ab Go.Proofs Tryz Go.Gat Go.Nam Go.Hos Go.Con Go.Sna Go.Pla
open Go.Hy hiding encI
end Go.Wor
