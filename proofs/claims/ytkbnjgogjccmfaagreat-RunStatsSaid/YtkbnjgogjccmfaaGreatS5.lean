import Derived.Test.YtkbnjgogjccmfaaGreatSZ
import Derived.Test.YtkbnjgogjccmfaaGreatSU
import Derived.Test.YtkbnjgogjccmfaaGreatSI
set_option linter.all false
set_option maxRecDepth 100000
set_option maxHeartbeats 4000000
namespace Go.Wor
open Go.Ab Go.Proofs Tryz Go.Gat Go.Nam Go.Hos Go.Con Go.Sna Go.Pla
open Go.Hy hiding encI
abbrev CS (s:eP):C:=.agg (qi s)
def nH (c:fb):Bool:=(jg c).1 == 0
def o9 (o:eK):Bool:=decide (o.kind < 1) || decide (6 < o.kind)
def oG (l:List eK):Bool:=decide (16 < l.length) || l.any o9
def CR (n:Int):Bool:=decide (n < 0)
def fY (s:eP):Bool:=nH s.first && decide (1<=s.threads.length) && decide (s.threads.length<=8) && decide (s.zS.length<=4000) && !s.threads.any oG && !s.zS.any CR
structure EL (s:eP):Prop where
 first:wb s.first
 threads:s.threads.length < 4000000000000000000
 ops:∀ l ∈ s.threads,l.length < 4000000000000000000
 zS:s.zS.length < 4000000000000000000
def Jq (c:fb) (hc:wb c):to 24 [] [Cf c] (Bo (nH c)) []:=by
 refine ab func24 ?_;refine ah (IC c hc) ?_;refine ⟨fun h=>?_,fun h=>?_⟩
 ·refine dd ?_
  (exact ⟨.inl rfl,_,.refl _,uN (by exact h.symm)⟩)
 ·refine dd ?_
  (exact ⟨.inl rfl,_,.refl _,uN (by exact h.symm)⟩)
abbrev HJ (o:eK):C:=.agg (vt o)
def Q3 {H:zl} {f:FuncId} {caps:List C} {l:List eK} (p:eK->Bool) (hcb:qt prog f=true) (hp:∀ r ∈ l,to f H ([HJ r]++caps) (Bo (p r)) H) (hl:l.length < 4611686018427387904):
  to 51 H [lP l,.fn f [] caps] (I (match l.findIdx? p with | some i=>(i:Int) | none=> -1)) H:=by
 refine zb.zT (fn:=f51) func51 rfl (uH ?_)
 refine zW.inv (fun n t1 H1=>∃ k,k+n=l.length∧H1=H∧(∀ j,j < k->∀ r,l[j]?= some r->p r=false)∧
   t1=((lP l)::.fn f [] caps::.za::.za::I 0::.za::.za::I (l.map vt).length::I k::hZ ([.za,.za]))) l.length ?_ ?_
 ·exact cU
 rintro n _ _ ⟨k,hk,rfl,hno,rfl⟩;conv=>whnf
 refine ⟨fun h=>?_,fun h=>?_⟩
 ·conv=>whnf
  have u4:k < l.length:=aq h
  refine ⟨aw,vt l[k],aX,uH ?_⟩;rw [hcb];refine ⟨_,_,hp _ (gS u4),uH ?_⟩;refine ⟨fun h2=>?_,fun h2=>?_⟩
  ·conv=>whnf
   refine .inr ⟨aj,uH ?_⟩;refine ⟨.inl rfl,_,.refl _,rfl,?_⟩
   have:l.findIdx? p=some k:=by
    rw [gD];refine ⟨u4,h2,fun j hj=>?_⟩;simp [hno j hj _ (dQ aw)]
   rw [this]
   rfl
  ·conv=>whnf
   refine .inl ⟨rfl,n - 1,_,_,aw,zp.mask [0,1,4,7,8] _ _,k+1,aw,rfl,?_,?_⟩
   ·intro j hj r hr;by_cases hjk:j=k
    ·subst hjk;rw [dQ u4] at hr;cases hr
     exact h2
    ·exact hno j aw r hr
   ·rw [zu aw];rfl
 ·conv=>whnf
  refine .inr ⟨aj,uH ?_⟩;refine ⟨.inl rfl,_,.refl _,rfl,?_⟩
  have:l.findIdx? p=none:=by
   rw [gG];intro x hx;obtain ⟨j,hj⟩:=gA.1 hx;have hjl:=(dP.1 hj).1;have:¬k < l.length:=aq h
   exact hno j aw x hj
  rw [this]
  rfl
def PZ {H:zl} {f:FuncId} {caps:List C} {l:List eK} (p:eK->Bool) (hcb:qt prog f=true) (hp:∀ r ∈ l,to f H ([HJ r]++caps) (Bo (p r)) H) (hl:l.length < 4611686018427387904):
  to 25 H [lP l,.fn f [] caps] (Bo (l.any p)) H:=by
 refine zb.zT (fn:=f25) func25 rfl (uH ?_);refine ⟨_,_,Q3 p hcb hp hl,dd ?_⟩;rw [show decide ((match l.findIdx? p with | some i=>((i:Nat):Int) | none=>(-1:Int))≥(0:Int))=l.any p from Cl l p];refine ⟨fun h=>?_,fun h=>?_⟩ <;> rw [h]
 ·exact dh
 ·exact dh
def Qt (o:eK):to 26 [] [HJ o] (Bo (o9 o)) []:=by
 refine ab func26 ?_;refine ⟨fun h1=>?_,fun h1=>?_⟩
 ·refine dd ?_;refine td ?_
  (exact ⟨.inl rfl,_,.refl _,uN (by unfold o9;rw [h1];rfl)⟩)
 ·refine dd ?_;refine ⟨fun h2=>?_,fun h2=>?_⟩
  ·refine dd ?_
   (exact ⟨.inl rfl,_,.refl _,uN (by unfold o9;rw [h1];simp at h2;simp [h2])⟩)
  ·refine dd ?_
   (exact ⟨.inl rfl,_,.refl _,uN (by unfold o9;rw [h1];simp at h2;simp;omega)⟩)
def Qu (n:Int):to 28 [] [I n] (Bo (CR n)) []:=by
 refine ab func28 ?_;refine ⟨fun h1=>?_,fun h1=>?_⟩
 ·refine dd ?_
  (exact ⟨.inl rfl,_,.refl _,uN (by exact h1.symm)⟩)
 ·refine dd ?_
  (exact ⟨.inl rfl,_,.refl _,uN (by exact h1.symm)⟩)
def Om (s:eP) (hs:EL s):to 10 [] [CS s] (Bo (fY s)) []:=by
 have m1:(s.threads.map yC).length=s.threads.length:=dV ..;have m2:(s.zS.map Go.Hy.encI).length=s.zS.length:=dV ..;have b1:=hs.threads;have b2:=hs.zS;have hcon:=Go.Wor.JK (H:=[]) (f:=28) (l:=s.zS) (caps:=[]) CR au (fun r _=>Qu r) aw;refine ab func10 ?_;refine ah (Jq s.first hs.first) ?_;refine ⟨fun h1=>?_,fun h1=>?_⟩
 rotate_left
 ·(rw [show fY s=false from by (unfold fY;rw [h1];rfl)]);exact cO
 refine dd ?_;rw [m1];refine ⟨fun h2=>?_,fun h2=>?_⟩
 ·(rw [show fY s=false from by (unfold fY;rw [pP (show ¬1<=s.threads.length by simp at h2;omega)];simp)]);exact cO
 have h2:1<=s.threads.length:=aY
 refine dd ?_;rw [m1];refine ⟨fun h3=>?_,fun h3=>?_⟩
 ·(rw [show fY s=false from by (unfold fY;rw [pP (show ¬s.threads.length<=8 by simp at h3;omega)];simp)]);exact cO
 have h3:s.threads.length<=8:=by simp at h3;omega
 refine dd ?_;rw [m2];refine ⟨fun h4=>?_,fun h4=>?_⟩
 ·(rw [show fY s=false from by (unfold fY;rw [pP (show ¬s.zS.length<=4000 by simp at h4;omega)];simp)]);exact cO
 have h4:s.zS.length<=4000:=by simp at h4;omega
 have e1:fY s=(!s.threads.any oG && !s.zS.any CR):=by
  unfold fY;rw [h1,rC h2,rC h3,rC h4]
  rfl
 refine dd ?_;refine td ?_
 rw [m1];refine zW.seq s.threads.length (fun k=>(.za::.ref 0 [] 5 0 0::Bo false::hZ (hZ (hZ (.za::(BB s.threads)::I s.threads.length::I k::hZ ([.za,.za,.za,.za,.za,.za,.za])))))) (fun k=>[⟨1,30,5,[qi s],0⟩]) (fun k=>∀ j,(h:j < s.threads.length)->j < k->oG s.threads[j]=false) ?_ aj (fun k hk hr=>?_) (fun hr=>?_)
 ·exact cC
 ·obtain ⟨x,hx⟩:∃ x,x=s.threads[k]:=⟨_,rfl⟩;have hxm:x ∈ s.threads:=by rw [hx];exact dL
  have hg:(s.threads.map yC)[k]?= some (yC x):=by rw [dT,dQ hk,hx];rfl
  have m3:(x.map vt).length=x.length:=dV ..;have bx:=hs.ops x hxm;have hcx:=PZ (H:=[]) (f:=26) (l:=x) (caps:=[]) o9 au (fun r _=>Qt r) aw
  have bad:oG x=true->fY s=false:=fun h=>by
   rw [e1,pQ.2 ⟨x,hxm,h⟩];rfl
  conv=>whnf
  refine uF ?_;(refine tf hg ?_)
  rw [m3];refine ⟨fun c1=>?_,fun c1=>?_⟩
  ·rw [bad (by unfold oG;rw [rC (show 16 < x.length by simp at c1;omega)];rfl)];refine dd ?_;refine td ?_
   (refine .inr ⟨aj,uH ?_⟩)
   exact uI
  have eT:oG x=x.any o9:=by unfold oG;rw [pP (by simp at c1;omega)];rfl
  refine dd ?_;refine ah hcx ?_;refine ⟨fun c2=>?_,fun c2=>?_⟩
  ·rw [bad (by rw [eT,c2])];refine dd ?_;refine td ?_
   (refine .inr ⟨aj,uH ?_⟩)
   exact uI
  ·refine dd ?_;refine td ?_
   refine .inl ⟨rfl,?_,fun i hi hij=>?_⟩
   ·exact dg
   ·by_cases e:i=k
    ·subst e;rw [<- hx,eT,c2]
    ·exact hr i hi aw
 ·have h5:s.threads.any oG=false:=by
   rw [gU];intro x hx;obtain ⟨i,hi,rfl⟩:=pt.1 hx;simp [hr i hi hi]
  rw [e1,h5];refine uD ?_;refine ah hcon ?_;refine ⟨fun q=>?_,fun q=>?_⟩
  all_goals
   rw [q];refine dd ?_;refine td ?_
   exact uI
def vq (out:List ec) (n:ec):List ec:=if (out.any fun x=>x == n)=true then out else out++[n]
def wc (out:List ec) (c:fb):List ec:=c.zd.foldl vq out
def AF (o:eK):Bool:=decide (o.kind=3) && nH o.config
def iy (out:List ec) (o:eK):List ec:=if AF o=true then wc out o.config else out
def kF (out:List ec) (l:List eK):List ec:=l.foldl iy out
def yd (s:eP):List ec:=s.threads.foldl kF (wc [] s.first)
def kY {c:fb} (h:nH c=true):c.zd.length<=4:=by
 have h:(jg c).1=0:=by simpa [nH] using h
 unfold jg at h;split at h
 ·rename_i q;exact absurd h q
 ·rename_i q;have q:(vy c).1=0:=Decidable.of_not_not q;unfold vy at q;split at q
  ·exact absurd (show (6:Int)=0 from q) ar
  ·rename_i z;simp at z;omega
def F2 (out:List ec) (n:ec):(vq out n).length<=out.length+1:=by
 unfold vq;split
 ·omega
 ·simp
def B4 {α β:Type} (f:List β->α->List β) (k:Nat):∀ (l:List α) (out:List β),(∀ x ∈ l,∀ o:List β,(f o x).length<=o.length+k)->(l.foldl f out).length<=out.length+k * l.length
 | [],out,_=>by simp
 | x::l,out,h=>by
  have h1:=h x (pD ..) out;have h2:=B4 f k l (f out x) fun y hy o=>h y (px _ hy) o
  rw [tY,pR,Nat.mul_add];omega
def DF (out:List ec) {c:fb} (h:c.zd.length<=4):(wc out c).length<=out.length+4:=by
 have:=B4 vq 1 c.zd out fun n _ o=>F2 o n
 unfold wc;omega
def K9 (out:List ec) (o:eK):(iy out o).length<=out.length+4:=by
 unfold iy;split
 ·rename_i h;unfold AF at h;simp only [dY] at h;exact DF out (kY h.2)
 ·omega
def FK (out:List ec) {l:List eK} (h:l.length<=16):(kF out l).length<=out.length+64:=by
 have:=B4 iy 4 l out fun o _ x=>K9 x o
 unfold kF;omega
def Df {α β:Type} (f:β->α->β) (b:β) (l:List α) {k:Nat} (h:k < l.length):(l.take (k+1)).foldl f b=f ((l.take k).foldl f b) l[k]:=by
 rw [gR h,rS]
 rfl
def Oe (s:eP) (X Y:Ob):to 67 [X,Y] [CS s] (.fn 92 [] [.ref 2 [] 5 0 0]) [X,Y,⟨1,30,5,[qi s],0⟩]:=by
 refine zb.zT (fn:=f67) func67 rfl (uH ?_);exact uJ
structure EK (s:eP):Prop where
 first:nH s.first=true
 threads:s.threads.length<=8
 ops:∀ l ∈ s.threads,l.length<=16
 cfg:∀ l ∈ s.threads,∀ o ∈ l,wb o.config
def NV (s:eP) (hs:EK s) (l:Nat) (rec:Ob) (hrec:qP 5 [rec]=true)
  (hy0:∀ (out:List ec) (c:fb),out.length<=600->c.zd.length<=4->jy prog l ([⟨1,30,5,[qi s],0⟩,⟨1,22,1,[[.gl 3 1 ((out).map qm)]],0⟩,⟨1,30,5,[qi s],0⟩,⟨4,9,1,(out).map qm,0⟩,rec]) [Cf c] (Bo true) ([⟨1,30,5,[qi s],0⟩,⟨1,22,1,[[.gl 3 1 ((wc out c).map qm)]],0⟩,⟨1,30,5,[qi s],0⟩,⟨4,9,1,(wc out c).map qm,0⟩,rec]))
  (hy1:∀ (out:List ec) (c:fb) (o:eK),out.length<=600->c.zd.length<=4->jy prog l ([⟨1,30,5,[qi s],0⟩,⟨1,22,1,[[.gl 3 1 ((out).map qm)]],0⟩,⟨1,30,5,[qi s],0⟩,⟨4,9,1,(out).map qm,0⟩,rec]++[⟨1,67,10,[vt (o)],0⟩]) [Cf c] (Bo true) ([⟨1,30,5,[qi s],0⟩,⟨1,22,1,[[.gl 3 1 ((wc out c).map qm)]],0⟩,⟨1,30,5,[qi s],0⟩,⟨4,9,1,(wc out c).map qm,0⟩,rec]++[⟨1,67,10,[vt (o)],0⟩])):
  to 92 ([⟨1,30,5,[qi s],0⟩,⟨1,22,1,[[.gl 3 1 (([]).map qm)]],0⟩,⟨1,30,5,[qi s],0⟩,⟨4,9,1,([]).map qm,0⟩,rec]) [.v (.func (.yield l) #[] #[]),.ref 2 [] 5 0 0] (.u7 []) ([⟨1,30,5,[qi s],0⟩,⟨1,22,1,[[.gl 3 1 ((yd s).map qm)]],0⟩,⟨1,30,5,[qi s],0⟩,⟨4,9,1,(yd s).map qm,0⟩,rec]):=by
 have m1:(s.threads.map yC).length=s.threads.length:=dV ..;have b1:=hs.threads;have y0:=hy0 [] s.first ar (kY hs.first);refine zb.zT (fn:=f92) func92 rfl (uH ?_);refine ⟨_,_,y0,dd ?_⟩;refine td ?_
 rw [m1];refine zW.seq s.threads.length (fun k=>(.v (.func (.yield l) #[] #[])::.ref 2 [] 5 0 0::hZ (.za::.za::.za::(BB s.threads)::I s.threads.length::I k::hZ (hZ (hZ ([.za,.za])))))) (fun k=>[⟨1,30,5,[qi s],0⟩,⟨1,22,1,[[.gl 3 1 (((s.threads.take k).foldl kF (wc [] s.first)).map qm)]],0⟩,⟨1,30,5,[qi s],0⟩,⟨4,9,1,((s.threads.take k).foldl kF (wc [] s.first)).map qm,0⟩,rec]) (fun k=>((s.threads.take k).foldl kF (wc [] s.first)).length<=4+64 * k) ?_ (by have:=DF [] (kY hs.first);simpa using this) (fun k hk hr=>?_) (fun hr=>?_)
 ·exact cC
 ·obtain ⟨x,hx⟩:∃ x,x=s.threads[k]:=⟨_,rfl⟩;have hxm:x ∈ s.threads:=by rw [hx];exact dL
  have hg:(s.threads.map yC)[k]?= some (yC x):=by rw [dT,dQ hk,hx];rfl
  have m3:(x.map vt).length=x.length:=dV ..;have bx:=hs.ops x hxm;have et:(s.threads.take (k+1)).foldl kF (wc [] s.first)=kF ((s.threads.take k).foldl kF (wc [] s.first)) x:=by rw [Df _ _ _ hk,hx]
  rw [et];generalize (s.threads.take k).foldl kF (wc [] s.first)=out at hr ⊢;conv=>whnf
  refine uF ?_;(refine tf hg ?_)
  rw [m3];refine zW.seq x.length (fun j=>(.v (.func (.yield l) #[] #[])::.ref 2 [] 5 0 0::hZ (.za::.za::.za::(BB s.threads)::I s.threads.length::I k::.za::.za::.za::(lP x)::I x.length::I j::hZ (hZ ([.za,.za,.za,.za]))))) (fun j=>[⟨1,30,5,[qi s],0⟩,⟨1,22,1,[[.gl 3 1 (((x.take j).foldl iy out).map qm)]],0⟩,⟨1,30,5,[qi s],0⟩,⟨4,9,1,((x.take j).foldl iy out).map qm,0⟩,rec]) (fun j=>((x.take j).foldl iy out).length<=4+64 * k+4 * j) ?_ (aq hr) (fun j hj hrj=>?_) (fun hrj=>?_)
  ·exact cC
  ·obtain ⟨o,hxo⟩:∃ o,o=x[j]:=⟨_,rfl⟩;have hom:o ∈ x:=by rw [hxo];exact gS hj
   have hgo:(x.map vt)[j]?= some (vt o):=by rw [dT,dQ hj,hxo];rfl
   have eo:(x.take (j+1)).foldl iy out=iy ((x.take j).foldl iy out) o:=by rw [Df _ _ _ hj,hxo]
   have ol:=K9 ((x.take j).foldl iy out) o;rw [eo];generalize (x.take j).foldl iy out=out2 at hrj ol ⊢;have skip:AF o=false->iy out2 o=out2:=fun h=>by unfold iy;rw [dR aH]
   have take:AF o=true->iy out2 o=wc out2 o.config:=fun h=>by unfold iy;rw [dU h]
   conv=>whnf
   refine uF ?_;(refine tf hgo ?_)
   refine ⟨fun c1=>?_,fun c1=>?_⟩
   rotate_left
   ·rw [skip (by unfold AF;rw [pP (aq c1)];rfl)] at ol ⊢;refine dd ?_;refine td ?_
    refine .inl ⟨rfl,?_,aw⟩;rw [zu aw];exact zp.xx 5 hU rfl rfl rfl hrec rfl
   have c1:o.kind=3:=aq c1
   refine dd ?_;refine ah (Jq o.config (hs.cfg x hxm o hom)) ?_;refine ⟨fun c2=>?_,fun c2=>?_⟩
   rotate_left
   ·rw [skip (by unfold AF;rw [c2,sd])] at ol ⊢;refine dd ?_;refine td ?_
    refine .inl ⟨rfl,?_,aw⟩;rw [zu aw];exact zp.xx 5 hU rfl rfl rfl hrec rfl
   have y1:=hy1 out2 o.config o aw (kY c2);rw [take (by unfold AF;rw [c2,rC c1];rfl)] at ol ⊢;refine dd ?_;refine ⟨_,_,y1,dd ?_⟩;refine td ?_
   refine .inl ⟨rfl,?_,aw⟩;rw [zu aw];exact zp.xx 5 hU rfl rfl rfl hrec rfl
  ·have e:(x.take x.length).foldl iy out=kF out x:=by rw [gX];rfl
   have al:=FK out bx;refine uD ?_;rw [e,zu aw];refine .inl ⟨rfl,?_,aw⟩;exact zp.xx 5 hU rfl rfl rfl hrec rfl
 ·have e:(s.threads.take s.threads.length).foldl kF (wc [] s.first)=yd s:=by rw [gX];rfl
  refine uD ?_;rw [e];exact db
abbrev HS (s:eP):List C:=CS s:: .ref 0 [] 5 0 0:: .u1 1 0 []:: .ref 1 [] 1 0 0:: .un:: .un:: .un:: .agg (qi s):: .fn 92 [] [.ref 2 [] 5 0 0]::List.replicate 18 .un
def PH (s:eP) (hs:EK s):to 42 [] [CS s] (lT (yd s)) []:=by
 refine ab func42 ?_;refine ⟨_,_,Oe s _ _,uH ?_⟩;refine ⟨_,zp.nK 1 0 9 1 rfl rfl (.inl rfl) rfl rfl,?_⟩;refine ⟨.normal,_,[⟨1,30,5,[qi s],0⟩,⟨1,22,1,[[.gl 3 1 ((yd s).map qm)]],0⟩,⟨1,30,5,[qi s],0⟩,⟨4,9,1,(yd s).map qm,0⟩],fun l r h1 h2 h3 h4 h5=>⟨_,_,r,NV s hs l (ft l r (HS s)) rfl (fun out c ho hc=>?_) (fun out c o ho hc=>?_),rfl,aZ,rfl,gF _,ba,zp.low 4 _ _ rfl rfl rfl⟩,?_⟩
 ·have mc:(c.zd.map qm).length=c.zd.length:=dV ..;refine jy.zT (id:=4) rfl h1 h2 h3 h4 h5 rfl rfl rfl (uH ?_);refine ⟨rfl,rfl,uH ?_⟩;rw [mc];refine zW.seq c.zd.length (fun k=>(.za::.ref 0 [] 5 0 0::.za::.ref 1 [] 1 0 0::.za::.za::.za::.za::.za::.za::.za::(lT c.zd)::I c.zd.length::I k::hZ ([.za,.za,.za,.za,.za]))) (fun k=>let R:=ft l (busy r) (HS s);[⟨1,30,5,[qi s],0⟩,⟨1,22,1,[[.gl 3 1 (((c.zd.take k).foldl vq out).map qm)]],0⟩,⟨1,30,5,[qi s],0⟩,⟨4,9,1,((c.zd.take k).foldl vq out).map qm,0⟩,R]++[⟨1,26,3,[mw c],0⟩]) (fun k=>((c.zd.take k).foldl vq out).length<=out.length+k) ?_ aj (fun k hk hr=>?_) (fun hr=>?_)
  ·exact cC
  ·obtain ⟨n,hx⟩:∃ n,n=c.zd[k]:=⟨_,rfl⟩;have hg:(c.zd.map qm)[k]?= some (qm n):=by rw [dT,dQ hk,hx];rfl
   have et:(c.zd.take (k+1)).foldl vq out=vq ((c.zd.take k).foldl vq out) n:=by rw [Df _ _ _ hk,hx]
   have al:=F2 ((c.zd.take k).foldl vq out) n;dsimp only;rw [et];generalize (c.zd.take k).foldl vq out=o2 at hr al ⊢;have ml:(o2.map qm).length=o2.length:=dV ..;conv=>whnf
   refine uF ?_;(refine tf hg ?_)
   refine ah (De o2 n aw) ?_;refine ⟨fun q=>?_,fun q=>?_⟩
   ·rw [show vq o2 n=o2 from dU q];refine dd ?_;refine .inl ⟨rfl,?_,aw⟩;rw [zu aw];exact cE 6
   ·have ea:vq o2 n=o2++[n]:=dR (by simp [q]);rw [ea] at al ⊢;refine dd ?_;refine ⟨rfl,.inr rfl,by rw [ml];simp [maxLen];omega,by rw [ml];show _ * 16<=_;simp;omega,dd ?_⟩;have eb:o2.map qm++[[Tx n]]=(o2++[n]).map qm:=by simp [qm]
    rw [eb];refine .inl ⟨rfl,?_,aw⟩;rw [zu aw];exact cE 6
  ·have e:(c.zd.take c.zd.length).foldl vq out=wc out c:=by rw [gX];rfl
   refine uD ?_;rw [e];exact ⟨(.za::.ref 0 [] 5 0 0::hZ (hZ (hZ ([.za])))),_,cE 5,rfl,.inl ⟨rfl,rfl,rfl⟩⟩
 ·have mc:(c.zd.map qm).length=c.zd.length:=dV ..;refine jy.zT (id:=4) rfl h1 h2 h3 h4 h5 rfl rfl rfl (uH ?_);refine ⟨rfl,rfl,uH ?_⟩;rw [mc];refine zW.seq c.zd.length (fun k=>(.za::.ref 0 [] 5 0 0::.za::.ref 1 [] 1 0 0::.za::.za::.za::.za::.za::.za::.za::(lT c.zd)::I c.zd.length::I k::hZ ([.za,.za,.za,.za,.za]))) (fun k=>let R:=ft l (busy r) (HS s);[⟨1,30,5,[qi s],0⟩,⟨1,22,1,[[.gl 3 1 (((c.zd.take k).foldl vq out).map qm)]],0⟩,⟨1,30,5,[qi s],0⟩,⟨4,9,1,((c.zd.take k).foldl vq out).map qm,0⟩,R]++[⟨1,67,10,[vt o],0⟩,⟨1,26,3,[mw c],0⟩]) (fun k=>((c.zd.take k).foldl vq out).length<=out.length+k) ?_ aj (fun k hk hr=>?_) (fun hr=>?_)
  ·exact cC
  ·obtain ⟨n,hx⟩:∃ n,n=c.zd[k]:=⟨_,rfl⟩;have hg:(c.zd.map qm)[k]?= some (qm n):=by rw [dT,dQ hk,hx];rfl
   have et:(c.zd.take (k+1)).foldl vq out=vq ((c.zd.take k).foldl vq out) n:=by rw [Df _ _ _ hk,hx]
   have al:=F2 ((c.zd.take k).foldl vq out) n;dsimp only;rw [et];generalize (c.zd.take k).foldl vq out=o2 at hr al ⊢;have ml:(o2.map qm).length=o2.length:=dV ..;conv=>whnf
   refine uF ?_;(refine tf hg ?_)
   refine ah (De o2 n aw) ?_;refine ⟨fun q=>?_,fun q=>?_⟩
   ·rw [show vq o2 n=o2 from dU q];refine dd ?_;refine .inl ⟨rfl,?_,aw⟩;rw [zu aw];exact cE 7
   ·have ea:vq o2 n=o2++[n]:=dR (by simp [q]);rw [ea] at al ⊢;refine dd ?_;refine ⟨rfl,.inr rfl,by rw [ml];simp [maxLen];omega,by rw [ml];show _ * 16<=_;simp;omega,dd ?_⟩;have eb:o2.map qm++[[Tx n]]=(o2++[n]).map qm:=by simp [qm]
    rw [eb];refine .inl ⟨rfl,?_,aw⟩;rw [zu aw];exact cE 7
  ·have e:(c.zd.take c.zd.length).foldl vq out=wc out c:=by rw [gX];rfl
   refine uD ?_;rw [e];exact ⟨(.za::.ref 0 [] 5 0 0::hZ (hZ (hZ ([.za])))),_,cE 6,rfl,.inl ⟨rfl,rfl,rfl⟩⟩
 ·conv=>whnf
  exact uI
def qp (s:eP):Wor × Int:=if fY s=true then ir (jz s.first).1 (yd s) s.threads.length else (Az,1)
def xI {s:eP} (h:fY s=true):nH s.first=true∧1<=s.threads.length∧s.threads.length<=8∧s.zS.length<=4000∧(∀ l ∈ s.threads,l.length<=16∧∀ o ∈ l,1<=o.kind∧o.kind<=6)∧∀ n ∈ s.zS,0<=n:=by
 unfold fY at h;simp only [dY,gp,pd,gU] at h;obtain ⟨⟨⟨⟨⟨h1,h2⟩,h3⟩,h4⟩,h5⟩,h6⟩:=h;refine ⟨h1,h2,h3,h4,fun l hl=>?_,fun n hn=>?_⟩
 ·have q:=h5 l hl;unfold oG at q;simp only [Bool.not_eq_true,pz,pn,gU] at q;refine ⟨aw,fun o ho=>?_⟩;have:=q.2 o ho;unfold o9 at this;exact cQ
 ·have:=h6 n hn;unfold CR at this;exact cQ
def Ij (s:eP) (hs:EL s) (hc:nH s.first=true->xD s.first) (ho:∀ l ∈ s.threads,∀ o ∈ l,wb o.config) (hn:fY s=true->∀ x ∈ yd s,x.length < 4000000000000000000):to 16 [] [CS s] (.u7 [Cw (qp s).1,I (qp s).2]) []:=by
 have m1:(s.threads.map yC).length=s.threads.length:=dV ..;refine ab func16 ?_;refine ah (Om s hs) ?_;refine ⟨fun h1=>?_,fun h1=>?_⟩
 rotate_left
 ·rw [show qp s=(Az,1) from dR aD];refine dd ?_;refine td ?_
  exact cL
 obtain ⟨p1,p2,p3,p4,p5,p6⟩:=xI h1;have sc:=hc p1;have er:(jg s.first).1=0:=by simpa [nH] using p1
 refine dd ?_;refine td ?_
 refine ah (E6 s.first sc) ?_;have eb:(jz s.first).2.1=0:=(FN s.first).trans er;have en:qp s=ir (jz s.first).1 (yd s) s.threads.length:=dU h1;have wn:EK s:=⟨p1,p3,fun l hl=>(p5 l hl).1,ho⟩
 have nl:(yd s).length < 1000000000:=by
  have a:=DF [] (kY p1)
  have b:=B4 kF 64 s.threads (wc [] s.first) fun l hl o=>by
   have hl2:=(p5 l hl).1;exact FK o hl2
  have c:yd s=s.threads.foldl kF (wc [] s.first):=rfl;rw [c];simp at a;omega
 have nw:=RC (jz s.first).1 (yd s) s.threads.length (wY sc) ⟨nl,hn h1⟩;refine ⟨fun h=>absurd h (by rw [eb];decide),fun _=>dd ?_⟩;refine uE ?_;refine ah (PH s wn) ?_;rw [m1];refine ah nw ?_;rw [en];exact uI
end Go.Wor
