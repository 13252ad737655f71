import Derived.Test.YtkbnjgogjccmfaaGreatTZ
import Derived.Test.YtkbnjgogjccmfaaGreatTU
import Derived.Test.YtkbnjgogjccmfaaGreatTI
set_option linter.all false
set_option maxRecDepth 100000
set_option maxHeartbeats 4000000
namespace Go.Wor
open Go.Ab Go.Proofs Tryz Go.Gat Go.Nam Go.Hos Go.Con Go.Sna Go.Pla
open Go.Hy hiding encI
abbrev CH (s:eF):C:=.agg (qv s)
def yT (c:eP):Bool:=(qN c).1 == 0
def oY (o:eD):Bool:=decide (o.kind < 1) || decide (6 < o.kind)
def oy (l:List eD):Bool:=decide (16 < l.length) || l.any oY
def CQ (n:Int):Bool:=decide (n < 0)
def fF (s:eF):Bool:=yT s.first && decide (1<=s.threads.length) && decide (s.threads.length<=8) && decide (s.zT.length<=4000) && !s.threads.any oy && !s.zT.any CQ
structure Ez (s:eF):Prop where
 first:xB s.first
 threads:s.threads.length < 4000000000000000000
 ops:∀ l ∈ s.threads,l.length < 4000000000000000000
 zT:s.zT.length < 4000000000000000000
def right_sound (c:eP) (hc:xB c):tn 24 [] [Cf c] (Bo (yT c)) []:=by
 refine ab func24 ?_;refine ah (EK c hc) ?_;refine ⟨fun h=>?_,fun h=>?_⟩
 ·refine dd ?_
  (exact ⟨.inl rfl,_,.refl _,uN (by exact h.symm)⟩)
 ·refine dd ?_
  (exact ⟨.inl rfl,_,.refl _,uN (by exact h.symm)⟩)
abbrev Ht (o:eD):C:=.agg (vb o)
def Pz {H:zl} {f:FuncId} {caps:List C} {l:List eD} (p:eD->Bool) (hcb:qp prog f=true) (hp:∀ r ∈ l,tn f H ([Ht r]++caps) (Bo (p r)) H) (hl:l.length < 4611686018427387904):
  tn 51 H [lP l,.fn f [] caps] (I (match l.findIdx? p with | some i=>(i:Int) | none=> -1)) H:=by
 refine zb.zU (fn:=f51) func51 rfl (uH ?_)
 refine zZ.inv (fun n t1 H1=>∃ k,k+n=l.length∧H1=H∧(∀ j,j < k->∀ r,l[j]?= some r->p r=false)∧
   t1=((lP l)::.fn f [] caps::.za::.za::I 0::.za::.za::I (l.map vb).length::I k::tZ ([.za,.za]))) l.length ?_ ?_
 ·exact cT
 rintro n _ _ ⟨k,hk,rfl,hno,rfl⟩;conv=>whnf
 refine ⟨fun h=>?_,fun h=>?_⟩
 ·conv=>whnf
  have ux:k < l.length:=aq h
  refine ⟨aw,vb l[k],aY,uH ?_⟩;rw [hcb];refine ⟨_,_,hp _ (gQ ux),uH ?_⟩;refine ⟨fun h2=>?_,fun h2=>?_⟩
  ·conv=>whnf
   refine .inr ⟨aj,uH ?_⟩;refine ⟨.inl rfl,_,.refl _,rfl,?_⟩
   have:l.findIdx? p=some k:=by
    rw [gy];refine ⟨ux,h2,fun j hj=>?_⟩;simp [hno j hj _ (dM aw)]
   rw [this]
   rfl
  ·conv=>whnf
   refine .inl ⟨rfl,n - 1,_,_,aw,zo.mask [0,1,4,7,8] _ _,k+1,aw,rfl,?_,?_⟩
   ·intro j hj r hr;by_cases hjk:j=k
    ·subst hjk;rw [dM ux] at hr;cases hr
     exact h2
    ·exact hno j aw r hr
   ·rw [zu aw];rfl
 ·conv=>whnf
  refine .inr ⟨aj,uH ?_⟩;refine ⟨.inl rfl,_,.refl _,rfl,?_⟩
  have:l.findIdx? p=none:=by
   rw [gC];intro x hx;obtain ⟨j,hj⟩:=gm.1 hx;have hjl:=(dL.1 hj).1;have:¬k < l.length:=aq h
   exact hno j aw x hj
  rw [this]
  rfl
def Qc {H:zl} {f:FuncId} {caps:List C} {l:List eD} (p:eD->Bool) (hcb:qp prog f=true) (hp:∀ r ∈ l,tn f H ([Ht r]++caps) (Bo (p r)) H) (hl:l.length < 4611686018427387904):
  tn 25 H [lP l,.fn f [] caps] (Bo (l.any p)) H:=by
 refine zb.zU (fn:=f25) func25 rfl (uH ?_);refine ⟨_,_,Pz p hcb hp hl,dd ?_⟩;rw [show decide ((match l.findIdx? p with | some i=>((i:Nat):Int) | none=>(-1:Int))≥(0:Int))=l.any p from B7 l p];refine ⟨fun h=>?_,fun h=>?_⟩ <;> rw [h]
 ·exact de
 ·exact de
def QC (o:eD):tn 26 [] [Ht o] (Bo (oY o)) []:=by
 refine ab func26 ?_;refine ⟨fun h1=>?_,fun h1=>?_⟩
 ·refine dd ?_;refine tc ?_
  (exact ⟨.inl rfl,_,.refl _,uN (by unfold oY;rw [h1];rfl)⟩)
 ·refine dd ?_;refine ⟨fun h2=>?_,fun h2=>?_⟩
  ·refine dd ?_
   (exact ⟨.inl rfl,_,.refl _,uN (by unfold oY;rw [h1];simp at h2;simp [h2])⟩)
  ·refine dd ?_
   (exact ⟨.inl rfl,_,.refl _,uN (by unfold oY;rw [h1];simp at h2;simp;omega)⟩)
def QD (n:Int):tn 28 [] [I n] (Bo (CQ n)) []:=by
 refine ab func28 ?_;refine ⟨fun h1=>?_,fun h1=>?_⟩
 ·refine dd ?_
  (exact ⟨.inl rfl,_,.refl _,uN (by exact h1.symm)⟩)
 ·refine dd ?_
  (exact ⟨.inl rfl,_,.refl _,uN (by exact h1.symm)⟩)
def H7 (s:eF) (hs:Ez s):tn 10 [] [CH s] (Bo (fF s)) []:=by
 have m1:(s.threads.map xi).length=s.threads.length:=dR ..;have m2:(s.zT.map Go.Hy.encI).length=s.zT.length:=dR ..;have b1:=hs.threads;have b2:=hs.zT;have hcon:=Go.Wor.Jt (H:=[]) (f:=28) (l:=s.zT) (caps:=[]) CQ au (fun r _=>QD r) aw;refine ab func10 ?_;refine ah (right_sound s.first hs.first) ?_;refine ⟨fun h1=>?_,fun h1=>?_⟩
 rotate_left
 ·(rw [show fF s=false from by (unfold fF;rw [h1];rfl)]);exact cN
 refine dd ?_;rw [m1];refine ⟨fun h2=>?_,fun h2=>?_⟩
 ·(rw [show fF s=false from by (unfold fF;rw [pL (show ¬1<=s.threads.length by simp at h2;omega)];simp)]);exact cN
 have h2:1<=s.threads.length:=aZ
 refine dd ?_;rw [m1];refine ⟨fun h3=>?_,fun h3=>?_⟩
 ·(rw [show fF s=false from by (unfold fF;rw [pL (show ¬s.threads.length<=8 by simp at h3;omega)];simp)]);exact cN
 have h3:s.threads.length<=8:=by simp at h3;omega
 refine dd ?_;rw [m2];refine ⟨fun h4=>?_,fun h4=>?_⟩
 ·(rw [show fF s=false from by (unfold fF;rw [pL (show ¬s.zT.length<=4000 by simp at h4;omega)];simp)]);exact cN
 have h4:s.zT.length<=4000:=by simp at h4;omega
 have e1:fF s=(!s.threads.any oy && !s.zT.any CQ):=by
  unfold fF;rw [h1,ru h2,ru h3,ru h4]
  rfl
 refine dd ?_;refine tc ?_
 rw [m1];refine zZ.seq s.threads.length (fun k=>(.za::.ref 0 [] 5 0 0::Bo false::tZ (tZ (tZ (.za::(Bp s.threads)::I s.threads.length::I k::tZ ([.za,.za,.za,.za,.za,.za,.za])))))) (fun k=>[⟨1,30,5,[qv s],0⟩]) (fun k=>∀ j,(h:j < s.threads.length)->j < k->oy s.threads[j]=false) ?_ aj (fun k hk hr=>?_) (fun hr=>?_)
 ·exact cC
 ·obtain ⟨x,hx⟩:∃ x,x=s.threads[k]:=⟨_,rfl⟩;have hxm:x ∈ s.threads:=by rw [hx];exact dH
  have hg:(s.threads.map xi)[k]?= some (xi x):=by rw [dP,dM hk,hx];rfl
  have m3:(x.map vb).length=x.length:=dR ..;have bx:=hs.ops x hxm;have hcx:=Qc (H:=[]) (f:=26) (l:=x) (caps:=[]) oY au (fun r _=>QC r) aw
  have bad:oy x=true->fF s=false:=fun h=>by
   rw [e1,pH.2 ⟨x,hxm,h⟩];rfl
  conv=>whnf
  refine uF ?_;(refine td hg ?_)
  rw [m3];refine ⟨fun c1=>?_,fun c1=>?_⟩
  ·rw [bad (by unfold oy;rw [ru (show 16 < x.length by simp at c1;omega)];rfl)];refine dd ?_;refine tc ?_
   (refine .inr ⟨aj,uH ?_⟩)
   exact uI
  have eT:oy x=x.any oY:=by unfold oy;rw [pL (by simp at c1;omega)];rfl
  refine dd ?_;refine ah hcx ?_;refine ⟨fun c2=>?_,fun c2=>?_⟩
  ·rw [bad (by rw [eT,c2])];refine dd ?_;refine tc ?_
   (refine .inr ⟨aj,uH ?_⟩)
   exact uI
  ·refine dd ?_;refine tc ?_
   refine .inl ⟨rfl,?_,fun i hi hij=>?_⟩
   ·exact dt
   ·by_cases e:i=k
    ·subst e;rw [<- hx,eT,c2]
    ·exact hr i hi aw
 ·have h5:s.threads.any oy=false:=by
   rw [gP];intro x hx;obtain ⟨i,hi,rfl⟩:=pa.1 hx;simp [hr i hi hi]
  rw [e1,h5];refine uD ?_;refine ah hcon ?_;refine ⟨fun q=>?_,fun q=>?_⟩
  all_goals
   rw [q];refine dd ?_;refine tc ?_
   exact uI
def y7 (out:List u4) (n:u4):List u4:=if (out.any fun x=>x == n)=true then out else out++[n]
def kE (out:List u4) (c:eP):List u4:=c.zd.foldl y7 out
def o4 (o:eD):Bool:=decide (o.kind=3) && yT o.config
def fZ (out:List u4) (o:eD):List u4:=if o4 o=true then kE out o.config else out
def kz (out:List u4) (l:List eD):List u4:=l.foldl fZ out
def xd (s:eF):List u4:=s.threads.foldl kz (kE [] s.first)
def kU {c:eP} (h:yT c=true):c.zd.length<=4:=by
 have h:(qN c).1=0:=by simpa [yT] using h
 unfold qN at h;split at h
 ·rename_i q;exact absurd h q
 ·rename_i q;have q:(yZ c).1=0:=Decidable.of_not_not q;unfold yZ at q;split at q
  ·exact absurd (show (6:Int)=0 from q) ar
  ·rename_i z;simp at z;omega
def FL (out:List u4) (n:u4):(y7 out n).length<=out.length+1:=by
 unfold y7;split
 ·omega
 ·simp
def BU {α β:Type} (f:List β->α->List β) (k:Nat):∀ (l:List α) (out:List β),(∀ x ∈ l,∀ o:List β,(f o x).length<=o.length+k)->(l.foldl f out).length<=out.length+k * l.length
 | [],out,_=>by simp
 | x::l,out,h=>by
  have h1:=h x (pz ..) out;have h2:=BU f k l (f out x) fun y hy o=>h y (pj _ hy) o
  rw [tt,pV,Nat.mul_add];omega
def Du (out:List u4) {c:eP} (h:c.zd.length<=4):(kE out c).length<=out.length+4:=by
 have:=BU y7 1 c.zd out fun n _ o=>FL o n
 unfold kE;omega
def KM (out:List u4) (o:eD):(fZ out o).length<=out.length+4:=by
 unfold fZ;split
 ·rename_i h;unfold o4 at h;simp only [dU] at h;exact Du out (kU h.2)
 ·omega
def Ft (out:List u4) {l:List eD} (h:l.length<=16):(kz out l).length<=out.length+64:=by
 have:=BU fZ 4 l out fun o _ x=>KM x o
 unfold kz;omega
def C6 {α β:Type} (f:β->α->β) (b:β) (l:List α) {k:Nat} (h:k < l.length):(l.take (k+1)).foldl f b=f ((l.take k).foldl f b) l[k]:=by
 rw [px h,rL]
 rfl
def NM (s:eF) (X Y:Ob):tn 67 [X,Y] [CH s] (.fn 92 [] [.ref 2 [] 5 0 0]) [X,Y,⟨1,30,5,[qv s],0⟩]:=by
 refine zb.zU (fn:=f67) func67 rfl (uH ?_);exact uJ
structure Ey (s:eF):Prop where
 first:yT s.first=true
 threads:s.threads.length<=8
 ops:∀ l ∈ s.threads,l.length<=16
 cfg:∀ l ∈ s.threads,∀ o ∈ l,xB o.config
def Nz (s:eF) (hs:Ey s) (l:Nat) (rec:Ob) (hrec:qM 5 [rec]=true)
  (hy0:∀ (out:List u4) (c:eP),out.length<=600->c.zd.length<=4->ju prog l ([⟨1,30,5,[qv s],0⟩,⟨1,22,1,[[.gl 3 1 ((out).map ql)]],0⟩,⟨1,30,5,[qv s],0⟩,⟨4,9,1,(out).map ql,0⟩,rec]) [Cf c] (Bo true) ([⟨1,30,5,[qv s],0⟩,⟨1,22,1,[[.gl 3 1 ((kE out c).map ql)]],0⟩,⟨1,30,5,[qv s],0⟩,⟨4,9,1,(kE out c).map ql,0⟩,rec]))
  (hy1:∀ (out:List u4) (c:eP) (o:eD),out.length<=600->c.zd.length<=4->ju prog l ([⟨1,30,5,[qv s],0⟩,⟨1,22,1,[[.gl 3 1 ((out).map ql)]],0⟩,⟨1,30,5,[qv s],0⟩,⟨4,9,1,(out).map ql,0⟩,rec]++[⟨1,67,10,[vb (o)],0⟩]) [Cf c] (Bo true) ([⟨1,30,5,[qv s],0⟩,⟨1,22,1,[[.gl 3 1 ((kE out c).map ql)]],0⟩,⟨1,30,5,[qv s],0⟩,⟨4,9,1,(kE out c).map ql,0⟩,rec]++[⟨1,67,10,[vb (o)],0⟩])):
  tn 92 ([⟨1,30,5,[qv s],0⟩,⟨1,22,1,[[.gl 3 1 (([]).map ql)]],0⟩,⟨1,30,5,[qv s],0⟩,⟨4,9,1,([]).map ql,0⟩,rec]) [.v (.func (.yield l) #[] #[]),.ref 2 [] 5 0 0] (.u1 []) ([⟨1,30,5,[qv s],0⟩,⟨1,22,1,[[.gl 3 1 ((xd s).map ql)]],0⟩,⟨1,30,5,[qv s],0⟩,⟨4,9,1,(xd s).map ql,0⟩,rec]):=by
 have m1:(s.threads.map xi).length=s.threads.length:=dR ..;have b1:=hs.threads;have y0:=hy0 [] s.first ar (kU hs.first);refine zb.zU (fn:=f92) func92 rfl (uH ?_);refine ⟨_,_,y0,dd ?_⟩;refine tc ?_
 rw [m1];refine zZ.seq s.threads.length (fun k=>(.v (.func (.yield l) #[] #[])::.ref 2 [] 5 0 0::tZ (.za::.za::.za::(Bp s.threads)::I s.threads.length::I k::tZ (tZ (tZ ([.za,.za])))))) (fun k=>[⟨1,30,5,[qv s],0⟩,⟨1,22,1,[[.gl 3 1 (((s.threads.take k).foldl kz (kE [] s.first)).map ql)]],0⟩,⟨1,30,5,[qv s],0⟩,⟨4,9,1,((s.threads.take k).foldl kz (kE [] s.first)).map ql,0⟩,rec]) (fun k=>((s.threads.take k).foldl kz (kE [] s.first)).length<=4+64 * k) ?_ (by have:=Du [] (kU hs.first);simpa using this) (fun k hk hr=>?_) (fun hr=>?_)
 ·exact cC
 ·obtain ⟨x,hx⟩:∃ x,x=s.threads[k]:=⟨_,rfl⟩;have hxm:x ∈ s.threads:=by rw [hx];exact dH
  have hg:(s.threads.map xi)[k]?= some (xi x):=by rw [dP,dM hk,hx];rfl
  have m3:(x.map vb).length=x.length:=dR ..;have bx:=hs.ops x hxm;have et:(s.threads.take (k+1)).foldl kz (kE [] s.first)=kz ((s.threads.take k).foldl kz (kE [] s.first)) x:=by rw [C6 _ _ _ hk,hx]
  rw [et];generalize (s.threads.take k).foldl kz (kE [] s.first)=out at hr ⊢;conv=>whnf
  refine uF ?_;(refine td hg ?_)
  rw [m3];refine zZ.seq x.length (fun j=>(.v (.func (.yield l) #[] #[])::.ref 2 [] 5 0 0::tZ (.za::.za::.za::(Bp s.threads)::I s.threads.length::I k::.za::.za::.za::(lP x)::I x.length::I j::tZ (tZ ([.za,.za,.za,.za]))))) (fun j=>[⟨1,30,5,[qv s],0⟩,⟨1,22,1,[[.gl 3 1 (((x.take j).foldl fZ out).map ql)]],0⟩,⟨1,30,5,[qv s],0⟩,⟨4,9,1,((x.take j).foldl fZ out).map ql,0⟩,rec]) (fun j=>((x.take j).foldl fZ out).length<=4+64 * k+4 * j) ?_ (aq hr) (fun j hj hrj=>?_) (fun hrj=>?_)
  ·exact cC
  ·obtain ⟨o,hxo⟩:∃ o,o=x[j]:=⟨_,rfl⟩;have hom:o ∈ x:=by rw [hxo];exact gQ hj
   have hgo:(x.map vb)[j]?= some (vb o):=by rw [dP,dM hj,hxo];rfl
   have eo:(x.take (j+1)).foldl fZ out=fZ ((x.take j).foldl fZ out) o:=by rw [C6 _ _ _ hj,hxo]
   have ol:=KM ((x.take j).foldl fZ out) o;rw [eo];generalize (x.take j).foldl fZ out=out2 at hrj ol ⊢;have skip:o4 o=false->fZ out2 o=out2:=fun h=>by unfold fZ;rw [dN aH]
   have take:o4 o=true->fZ out2 o=kE out2 o.config:=fun h=>by unfold fZ;rw [dQ h]
   conv=>whnf
   refine uF ?_;(refine td hgo ?_)
   refine ⟨fun c1=>?_,fun c1=>?_⟩
   rotate_left
   ·rw [skip (by unfold o4;rw [pL (aq c1)];rfl)] at ol ⊢;refine dd ?_;refine tc ?_
    refine .inl ⟨rfl,?_,aw⟩;rw [zu aw];exact zo.xv 5 hU rfl rfl rfl hrec rfl
   have c1:o.kind=3:=aq c1
   refine dd ?_;refine ah (right_sound o.config (hs.cfg x hxm o hom)) ?_;refine ⟨fun c2=>?_,fun c2=>?_⟩
   rotate_left
   ·rw [skip (by unfold o4;rw [c2,r9])] at ol ⊢;refine dd ?_;refine tc ?_
    refine .inl ⟨rfl,?_,aw⟩;rw [zu aw];exact zo.xv 5 hU rfl rfl rfl hrec rfl
   have y1:=hy1 out2 o.config o aw (kU c2);rw [take (by unfold o4;rw [c2,ru c1];rfl)] at ol ⊢;refine dd ?_;refine ⟨_,_,y1,dd ?_⟩;refine tc ?_
   refine .inl ⟨rfl,?_,aw⟩;rw [zu aw];exact zo.xv 5 hU rfl rfl rfl hrec rfl
  ·have e:(x.take x.length).foldl fZ out=kz out x:=by rw [gO];rfl
   have al:=Ft out bx;refine uD ?_;rw [e,zu aw];refine .inl ⟨rfl,?_,aw⟩;exact zo.xv 5 hU rfl rfl rfl hrec rfl
 ·have e:(s.threads.take s.threads.length).foldl kz (kE [] s.first)=xd s:=by rw [gO];rfl
  refine uD ?_;rw [e];exact c9
abbrev HE (s:eF):List C:=CH s:: .ref 0 [] 5 0 0:: .uv 1 0 []:: .ref 1 [] 1 0 0:: .un:: .un:: .un:: .agg (qv s):: .fn 92 [] [.ref 2 [] 5 0 0]::List.replicate 18 .un
def Pg (s:eF) (hs:Ey s):tn 42 [] [CH s] (lT (xd s)) []:=by
 refine ab func42 ?_;refine ⟨_,_,NM s _ _,uH ?_⟩;refine ⟨_,zo.nv 1 0 9 1 rfl rfl (.inl rfl) rfl rfl,?_⟩;refine ⟨.normal,_,[⟨1,30,5,[qv s],0⟩,⟨1,22,1,[[.gl 3 1 ((xd s).map ql)]],0⟩,⟨1,30,5,[qv s],0⟩,⟨4,9,1,(xd s).map ql,0⟩],fun l r h1 h2 h3 h4 h5=>⟨_,_,r,Nz s hs l (fh l r (HE s)) rfl (fun out c ho hc=>?_) (fun out c o ho hc=>?_),rfl,ba,rfl,gA _,bb,zo.low 4 _ _ rfl rfl rfl⟩,?_⟩
 ·have mc:(c.zd.map ql).length=c.zd.length:=dR ..;refine ju.zU (id:=4) rfl h1 h2 h3 h4 h5 rfl rfl rfl (uH ?_);refine ⟨rfl,rfl,uH ?_⟩;rw [mc];refine zZ.seq c.zd.length (fun k=>(.za::.ref 0 [] 5 0 0::.za::.ref 1 [] 1 0 0::.za::.za::.za::.za::.za::.za::.za::(lT c.zd)::I c.zd.length::I k::tZ ([.za,.za,.za,.za,.za]))) (fun k=>let R:=fh l (busy r) (HE s);[⟨1,30,5,[qv s],0⟩,⟨1,22,1,[[.gl 3 1 (((c.zd.take k).foldl y7 out).map ql)]],0⟩,⟨1,30,5,[qv s],0⟩,⟨4,9,1,((c.zd.take k).foldl y7 out).map ql,0⟩,R]++[⟨1,26,3,[mf c],0⟩]) (fun k=>((c.zd.take k).foldl y7 out).length<=out.length+k) ?_ aj (fun k hk hr=>?_) (fun hr=>?_)
  ·exact cC
  ·obtain ⟨n,hx⟩:∃ n,n=c.zd[k]:=⟨_,rfl⟩;have hg:(c.zd.map ql)[k]?= some (ql n):=by rw [dP,dM hk,hx];rfl
   have et:(c.zd.take (k+1)).foldl y7 out=y7 ((c.zd.take k).foldl y7 out) n:=by rw [C6 _ _ _ hk,hx]
   have al:=FL ((c.zd.take k).foldl y7 out) n;dsimp only;rw [et];generalize (c.zd.take k).foldl y7 out=o2 at hr al ⊢;have ml:(o2.map ql).length=o2.length:=dR ..;conv=>whnf
   refine uF ?_;(refine td hg ?_)
   refine ah (C5 o2 n aw) ?_;refine ⟨fun q=>?_,fun q=>?_⟩
   ·rw [show y7 o2 n=o2 from dQ q];refine dd ?_;refine .inl ⟨rfl,?_,aw⟩;rw [zu aw];exact cE 6
   ·have ea:y7 o2 n=o2++[n]:=dN (by simp [q]);rw [ea] at al ⊢;refine dd ?_;refine ⟨rfl,.inr rfl,by rw [ml];simp [maxLen];omega,by rw [ml];show _ * 16<=_;simp;omega,dd ?_⟩;have eb:o2.map ql++[[Tx n]]=(o2++[n]).map ql:=by simp [ql]
    rw [eb];refine .inl ⟨rfl,?_,aw⟩;rw [zu aw];exact cE 6
  ·have e:(c.zd.take c.zd.length).foldl y7 out=kE out c:=by rw [gO];rfl
   refine uD ?_;rw [e];exact ⟨(.za::.ref 0 [] 5 0 0::tZ (tZ (tZ ([.za])))),_,cE 5,rfl,.inl ⟨rfl,rfl,rfl⟩⟩
 ·have mc:(c.zd.map ql).length=c.zd.length:=dR ..;refine ju.zU (id:=4) rfl h1 h2 h3 h4 h5 rfl rfl rfl (uH ?_);refine ⟨rfl,rfl,uH ?_⟩;rw [mc];refine zZ.seq c.zd.length (fun k=>(.za::.ref 0 [] 5 0 0::.za::.ref 1 [] 1 0 0::.za::.za::.za::.za::.za::.za::.za::(lT c.zd)::I c.zd.length::I k::tZ ([.za,.za,.za,.za,.za]))) (fun k=>let R:=fh l (busy r) (HE s);[⟨1,30,5,[qv s],0⟩,⟨1,22,1,[[.gl 3 1 (((c.zd.take k).foldl y7 out).map ql)]],0⟩,⟨1,30,5,[qv s],0⟩,⟨4,9,1,((c.zd.take k).foldl y7 out).map ql,0⟩,R]++[⟨1,67,10,[vb o],0⟩,⟨1,26,3,[mf c],0⟩]) (fun k=>((c.zd.take k).foldl y7 out).length<=out.length+k) ?_ aj (fun k hk hr=>?_) (fun hr=>?_)
  ·exact cC
  ·obtain ⟨n,hx⟩:∃ n,n=c.zd[k]:=⟨_,rfl⟩;have hg:(c.zd.map ql)[k]?= some (ql n):=by rw [dP,dM hk,hx];rfl
   have et:(c.zd.take (k+1)).foldl y7 out=y7 ((c.zd.take k).foldl y7 out) n:=by rw [C6 _ _ _ hk,hx]
   have al:=FL ((c.zd.take k).foldl y7 out) n;dsimp only;rw [et];generalize (c.zd.take k).foldl y7 out=o2 at hr al ⊢;have ml:(o2.map ql).length=o2.length:=dR ..;conv=>whnf
   refine uF ?_;(refine td hg ?_)
   refine ah (C5 o2 n aw) ?_;refine ⟨fun q=>?_,fun q=>?_⟩
   ·rw [show y7 o2 n=o2 from dQ q];refine dd ?_;refine .inl ⟨rfl,?_,aw⟩;rw [zu aw];exact cE 7
   ·have ea:y7 o2 n=o2++[n]:=dN (by simp [q]);rw [ea] at al ⊢;refine dd ?_;refine ⟨rfl,.inr rfl,by rw [ml];simp [maxLen];omega,by rw [ml];show _ * 16<=_;simp;omega,dd ?_⟩;have eb:o2.map ql++[[Tx n]]=(o2++[n]).map ql:=by simp [ql]
    rw [eb];refine .inl ⟨rfl,?_,aw⟩;rw [zu aw];exact cE 7
  ·have e:(c.zd.take c.zd.length).foldl y7 out=kE out c:=by rw [gO];rfl
   refine uD ?_;rw [e];exact ⟨(.za::.ref 0 [] 5 0 0::tZ (tZ (tZ ([.za])))),_,cE 6,rfl,.inl ⟨rfl,rfl,rfl⟩⟩
 ·conv=>whnf
  exact uI
def qj (s:eF):Wor × Int:=if fF s=true then ir (jv s.first).1 (xd s) s.threads.length else (Al,1)
def xn {s:eF} (h:fF s=true):yT s.first=true∧1<=s.threads.length∧s.threads.length<=8∧s.zT.length<=4000∧(∀ l ∈ s.threads,l.length<=16∧∀ o ∈ l,1<=o.kind∧o.kind<=6)∧∀ n ∈ s.zT,0<=n:=by
 unfold fF at h;simp only [dU,gh,gX,gP] at h;obtain ⟨⟨⟨⟨⟨h1,h2⟩,h3⟩,h4⟩,h5⟩,h6⟩:=h;refine ⟨h1,h2,h3,h4,fun l hl=>?_,fun n hn=>?_⟩
 ·have q:=h5 l hl;unfold oy at q;simp only [Bool.not_eq_true,pn,gZ,gP] at q;refine ⟨aw,fun o ho=>?_⟩;have:=q.2 o ho;unfold oY at this;exact cP
 ·have:=h6 n hn;unfold CQ at this;exact cP
def H6 (s:eF) (hs:Ez s) (hc:yT s.first=true->y8 s.first) (ho:∀ l ∈ s.threads,∀ o ∈ l,xB o.config) (hn:fF s=true->∀ x ∈ xd s,x.length < 4000000000000000000):tn 16 [] [CH s] (.u1 [Cw (qj s).1,I (qj s).2]) []:=by
 have m1:(s.threads.map xi).length=s.threads.length:=dR ..;refine ab func16 ?_;refine ah (H7 s hs) ?_;refine ⟨fun h1=>?_,fun h1=>?_⟩
 rotate_left
 ·rw [show qj s=(Al,1) from dN aD];refine dd ?_;refine tc ?_
  exact cK
 obtain ⟨p1,p2,p3,p4,p5,p6⟩:=xn h1;have sc:=hc p1;have er:(qN s.first).1=0:=by simpa [yT] using p1
 refine dd ?_;refine tc ?_
 refine ah (EU s.first sc.k) ?_;have eb:(jv s.first).2.1=0:=(Fw s.first).trans er;have en:qj s=ir (jv s.first).1 (xd s) s.threads.length:=dQ h1;have wn:Ey s:=⟨p1,p3,fun l hl=>(p5 l hl).1,ho⟩
 have nl:(xd s).length < 1000000000:=by
  have a:=Du [] (kU p1)
  have b:=BU kz 64 s.threads (kE [] s.first) fun l hl o=>by
   have hl2:=(p5 l hl).1;exact Ft o hl2
  have c:xd s=s.threads.foldl kz (kE [] s.first):=rfl;rw [c];simp at a;omega
 have nw:=RQ (jv s.first).1 (xd s) s.threads.length (wT sc) ⟨nl,hn h1⟩;refine ⟨fun h=>absurd h (by rw [eb];decide),fun _=>dd ?_⟩;refine uE ?_;refine ah (Pg s wn) ?_;rw [m1];refine ah nw ?_;rw [en];exact uI
end Go.Wor
