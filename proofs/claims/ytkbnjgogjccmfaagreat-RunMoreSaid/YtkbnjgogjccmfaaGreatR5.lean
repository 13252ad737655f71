import Derived.Test.YtkbnjgogjccmfaaGreatRZ
import Derived.Test.YtkbnjgogjccmfaaGreatRU
import Derived.Test.YtkbnjgogjccmfaaGreatRI
set_option linter.all false
set_option maxRecDepth 100000
set_option maxHeartbeats 4000000
namespace Go.Wor
open Go.Ab Go.Proofs Tryz Go.Gat Go.Nam Go.Hos Go.Con Go.Sna Go.Pla
open Go.Hy hiding encI
abbrev BW (s:ez):C:=.agg (qy s)
def wH (c:eG):Bool:=(q8 c).1 == 0
def oB (o:ef):Bool:=decide (o.kind < 1) || decide (6 < o.kind)
def nP (l:List ef):Bool:=decide (16 < l.length) || l.any oB
def BV (n:Int):Bool:=decide (n < 0)
def fG (s:ez):Bool:=wH s.first && decide (1<=s.threads.length) && decide (s.threads.length<=8) && decide (s.zV.length<=4000) && !s.threads.any nP && !s.zV.any BV
structure DM (s:ez):Prop where
 first:kG s.first
 threads:s.threads.length < 4000000000000000000
 ops:∀ l ∈ s.threads,l.length < 4000000000000000000
 zV:s.zV.length < 4000000000000000000
def HX (c:eG) (hc:kG c):tn 24 [] [Cf c] (Bo (wH c)) []:=by
 refine ab func24 ?_;refine ah (Hc c hc) ?_;refine ⟨fun h=>?_,fun h=>?_⟩
 ·refine dd ?_
  (exact ⟨.inl rfl,_,.refl _,uN (by exact h.symm)⟩)
 ·refine dd ?_
  (exact ⟨.inl rfl,_,.refl _,uN (by exact h.symm)⟩)
abbrev Gw (o:ef):C:=.agg (y8 o)
def Pz {H:zl} {f:FuncId} {caps:List C} {l:List ef} (p:ef->Bool) (hcb:qm prog f=true) (hp:∀ r ∈ l,tn f H ([Gw r]++caps) (Bo (p r)) H) (hl:l.length < 4611686018427387904):
  tn 51 H [lP l,.fn f [] caps] (I (match l.findIdx? p with | some i=>(i:Int) | none=> -1)) H:=by
 refine zb.zS (fn:=f51) func51 rfl (uH ?_)
 refine z5.inv (fun n t1 H1=>∃ k,k+n=l.length∧H1=H∧(∀ j,j < k->∀ r,l[j]?= some r->p r=false)∧
   t1=((lP l)::.fn f [] caps::.za::.za::I 0::.za::.za::I (l.map y8).length::I k::tZ ([.za,.za]))) l.length ?_ ?_
 ·exact cS
 rintro n _ _ ⟨k,hk,rfl,hno,rfl⟩;conv=>whnf
 refine ⟨fun h=>?_,fun h=>?_⟩
 ·conv=>whnf
  have uj:k < l.length:=aq h
  refine ⟨aw,y8 l[k],aW,uH ?_⟩;rw [hcb];refine ⟨_,_,hp _ (gH uj),uH ?_⟩;refine ⟨fun h2=>?_,fun h2=>?_⟩
  ·conv=>whnf
   refine .inr ⟨aj,uH ?_⟩;refine ⟨.inl rfl,_,.refl _,rfl,?_⟩
   have:l.findIdx? p=some k:=by
    rw [gk];refine ⟨uj,h2,fun j hj=>?_⟩;simp [hno j hj _ (dK aw)]
   rw [this]
   rfl
  ·conv=>whnf
   refine .inl ⟨rfl,n - 1,_,_,aw,zo.mask [0,1,4,7,8] _ _,k+1,aw,rfl,?_,?_⟩
   ·intro j hj r hr;by_cases hjk:j=k
    ·subst hjk;rw [dK uj] at hr;cases hr
     exact h2
    ·exact hno j aw r hr
   ·rw [zu aw];rfl
 ·conv=>whnf
  refine .inr ⟨aj,uH ?_⟩;refine ⟨.inl rfl,_,.refl _,rfl,?_⟩
  have:l.findIdx? p=none:=by
   rw [gy];intro x hx;obtain ⟨j,hj⟩:=gh.1 hx;have hjl:=(dJ.1 hj).1;have:¬k < l.length:=aq h
   exact hno j aw x hj
  rw [this]
  rfl
def Ov {H:zl} {f:FuncId} {caps:List C} {l:List ef} (p:ef->Bool) (hcb:qm prog f=true) (hp:∀ r ∈ l,tn f H ([Gw r]++caps) (Bo (p r)) H) (hl:l.length < 4611686018427387904):
  tn 25 H [lP l,.fn f [] caps] (Bo (l.any p)) H:=by
 refine zb.zS (fn:=f25) func25 rfl (uH ?_);refine ⟨_,_,Pz p hcb hp hl,dd ?_⟩;rw [show decide ((match l.findIdx? p with | some i=>((i:Nat):Int) | none=>(-1:Int))≥(0:Int))=l.any p from Bu l p];refine ⟨fun h=>?_,fun h=>?_⟩ <;> rw [h]
 ·exact dc
 ·exact dc
def OV (o:ef):tn 26 [] [Gw o] (Bo (oB o)) []:=by
 refine ab func26 ?_;refine ⟨fun h1=>?_,fun h1=>?_⟩
 ·refine dd ?_;refine tc ?_
  (exact ⟨.inl rfl,_,.refl _,uN (by unfold oB;rw [h1];rfl)⟩)
 ·refine dd ?_;refine ⟨fun h2=>?_,fun h2=>?_⟩
  ·refine dd ?_
   (exact ⟨.inl rfl,_,.refl _,uN (by unfold oB;rw [h1];simp at h2;simp [h2])⟩)
  ·refine dd ?_
   (exact ⟨.inl rfl,_,.refl _,uN (by unfold oB;rw [h1];simp at h2;simp;omega)⟩)
def OW (n:Int):tn 28 [] [I n] (Bo (BV n)) []:=by
 refine ab func28 ?_;refine ⟨fun h1=>?_,fun h1=>?_⟩
 ·refine dd ?_
  (exact ⟨.inl rfl,_,.refl _,uN (by exact h1.symm)⟩)
 ·refine dd ?_
  (exact ⟨.inl rfl,_,.refl _,uN (by exact h1.symm)⟩)
def Mt (s:ez) (hs:DM s):tn 10 [] [BW s] (Bo (fG s)) []:=by
 have m1:(s.threads.map yj).length=s.threads.length:=dP ..;have m2:(s.zV.map Go.Hy.encI).length=s.zV.length:=dP ..;have b1:=hs.threads;have b2:=hs.zV;have hcon:=Go.Wor.Ik (H:=[]) (f:=28) (l:=s.zV) (caps:=[]) BV au (fun r _=>OW r) aw;refine ab func10 ?_;refine ah (HX s.first hs.first) ?_;refine ⟨fun h1=>?_,fun h1=>?_⟩
 rotate_left
 ·(rw [show fG s=false from by (unfold fG;rw [h1];rfl)]);exact cL
 refine dd ?_;rw [m1];refine ⟨fun h2=>?_,fun h2=>?_⟩
 ·(rw [show fG s=false from by (unfold fG;rw [pG (show ¬1<=s.threads.length by simp at h2;omega)];simp)]);exact cL
 have h2:1<=s.threads.length:=aX
 refine dd ?_;rw [m1];refine ⟨fun h3=>?_,fun h3=>?_⟩
 ·(rw [show fG s=false from by (unfold fG;rw [pG (show ¬s.threads.length<=8 by simp at h3;omega)];simp)]);exact cL
 have h3:s.threads.length<=8:=by simp at h3;omega
 refine dd ?_;rw [m2];refine ⟨fun h4=>?_,fun h4=>?_⟩
 ·(rw [show fG s=false from by (unfold fG;rw [pG (show ¬s.zV.length<=4000 by simp at h4;omega)];simp)]);exact cL
 have h4:s.zV.length<=4000:=by simp at h4;omega
 have e1:fG s=(!s.threads.any nP && !s.zV.any BV):=by
  unfold fG;rw [h1,rk h2,rk h3,rk h4]
  rfl
 refine dd ?_;refine tc ?_
 rw [m1];refine z5.seq s.threads.length (fun k=>(.za::.ref 0 [] 5 0 0::Bo false::tZ (tZ (tZ (.za::(AK s.threads)::I s.threads.length::I k::tZ ([.za,.za,.za,.za,.za,.za,.za])))))) (fun k=>[⟨1,30,5,[qy s],0⟩]) (fun k=>∀ j,(h:j < s.threads.length)->j < k->nP s.threads[j]=false) ?_ aj (fun k hk hr=>?_) (fun hr=>?_)
 ·exact cC
 ·obtain ⟨x,hx⟩:∃ x,x=s.threads[k]:=⟨_,rfl⟩;have hxm:x ∈ s.threads:=by rw [hx];exact dF
  have hg:(s.threads.map yj)[k]?= some (yj x):=by rw [dN,dK hk,hx];rfl
  have m3:(x.map y8).length=x.length:=dP ..;have bx:=hs.ops x hxm;have hcx:=Ov (H:=[]) (f:=26) (l:=x) (caps:=[]) oB au (fun r _=>OV r) aw
  have bad:nP x=true->fG s=false:=fun h=>by
   rw [e1,pI.2 ⟨x,hxm,h⟩];rfl
  conv=>whnf
  refine uF ?_;(refine td hg ?_)
  rw [m3];refine ⟨fun c1=>?_,fun c1=>?_⟩
  ·rw [bad (by unfold nP;rw [rk (show 16 < x.length by simp at c1;omega)];rfl)];refine dd ?_;refine tc ?_
   (refine .inr ⟨aj,uH ?_⟩)
   exact uI
  have eT:nP x=x.any oB:=by unfold nP;rw [pG (by simp at c1;omega)];rfl
  refine dd ?_;refine ah hcx ?_;refine ⟨fun c2=>?_,fun c2=>?_⟩
  ·rw [bad (by rw [eT,c2])];refine dd ?_;refine tc ?_
   (refine .inr ⟨aj,uH ?_⟩)
   exact uI
  ·refine dd ?_;refine tc ?_
   refine .inl ⟨rfl,?_,fun i hi hij=>?_⟩
   ·exact dp
   ·by_cases e:i=k
    ·subst e;rw [<- hx,eT,c2]
    ·exact hr i hi aw
 ·have h5:s.threads.any nP=false:=by
   rw [gI];intro x hx;obtain ⟨i,hi,rfl⟩:=gX.1 hx;simp [hr i hi hi]
  rw [e1,h5];refine uD ?_;refine ah hcon ?_;refine ⟨fun q=>?_,fun q=>?_⟩
  all_goals
   rw [q];refine dd ?_;refine tc ?_
   exact uI
def y6 (out:List uu) (n:uu):List uu:=if (out.any fun x=>x == n)=true then out else out++[n]
def kH (out:List uu) (c:eG):List uu:=c.zd.foldl y6 out
def o7 (o:ef):Bool:=decide (o.kind=3) && wH o.config
def fT (out:List uu) (o:ef):List uu:=if o7 o=true then kH out o.config else out
def vY (out:List uu) (l:List ef):List uu:=l.foldl fT out
def xM (s:ez):List uu:=s.threads.foldl vY (kH [] s.first)
def kA {c:eG} (h:wH c=true):c.zd.length<=4:=by
 have h:(q8 c).1=0:=by simpa [wH] using h
 unfold q8 at h;split at h
 ·rename_i q;exact absurd h q
 ·rename_i q;have q:(ve c).1=0:=Decidable.of_not_not q;unfold ve at q;split at q
  ·exact absurd (show (6:Int)=0 from q) ar
  ·rename_i z;simp at z;omega
def EL (out:List uu) (n:uu):(y6 out n).length<=out.length+1:=by
 unfold y6;split
 ·omega
 ·simp
def Bd {α β:Type} (f:List β->α->List β) (k:Nat):∀ (l:List α) (out:List β),(∀ x ∈ l,∀ o:List β,(f o x).length<=o.length+k)->(l.foldl f out).length<=out.length+k * l.length
 | [],out,_=>by simp
 | x::l,out,h=>by
  have h1:=h x (px ..) out;have h2:=Bd f k l (f out x) fun y hy o=>h y (g9 _ hy) o
  rw [sT,pS,Nat.mul_add];omega
def CE (out:List uu) {c:eG} (h:c.zd.length<=4):(kH out c).length<=out.length+4:=by
 have:=Bd y6 1 c.zd out fun n _ o=>EL o n
 unfold kH;omega
def JC (out:List uu) (o:ef):(fT out o).length<=out.length+4:=by
 unfold fT;split
 ·rename_i h;unfold o7 at h;simp only [dS] at h;exact CE out (kA h.2)
 ·omega
def Ep (out:List uu) {l:List ef} (h:l.length<=16):(vY out l).length<=out.length+64:=by
 have:=Bd fT 4 l out fun o _ x=>JC x o
 unfold vY;omega
def Ci {α β:Type} (f:β->α->β) (b:β) (l:List α) {k:Nat} (h:k < l.length):(l.take (k+1)).foldl f b=f ((l.take k).foldl f b) l[k]:=by
 rw [pq h,rF]
 rfl
def MA (s:ez) (X Y:Ob):tn 67 [X,Y] [BW s] (.fn 92 [] [.ref 2 [] 5 0 0]) [X,Y,⟨1,30,5,[qy s],0⟩]:=by
 refine zb.zS (fn:=f67) func67 rfl (uH ?_);exact uJ
structure DL (s:ez):Prop where
 first:wH s.first=true
 threads:s.threads.length<=8
 ops:∀ l ∈ s.threads,l.length<=16
 cfg:∀ l ∈ s.threads,∀ o ∈ l,kG o.config
def Mh (s:ez) (hs:DL s) (l:Nat) (rec:Ob) (hrec:qL 5 [rec]=true)
  (hy0:∀ (out:List uu) (c:eG),out.length<=600->c.zd.length<=4->jn prog l ([⟨1,30,5,[qy s],0⟩,⟨1,22,1,[[.gl 3 1 ((out).map qj)]],0⟩,⟨1,30,5,[qy s],0⟩,⟨4,9,1,(out).map qj,0⟩,rec]) [Cf c] (Bo true) ([⟨1,30,5,[qy s],0⟩,⟨1,22,1,[[.gl 3 1 ((kH out c).map qj)]],0⟩,⟨1,30,5,[qy s],0⟩,⟨4,9,1,(kH out c).map qj,0⟩,rec]))
  (hy1:∀ (out:List uu) (c:eG) (o:ef),out.length<=600->c.zd.length<=4->jn prog l ([⟨1,30,5,[qy s],0⟩,⟨1,22,1,[[.gl 3 1 ((out).map qj)]],0⟩,⟨1,30,5,[qy s],0⟩,⟨4,9,1,(out).map qj,0⟩,rec]++[⟨1,67,10,[y8 (o)],0⟩]) [Cf c] (Bo true) ([⟨1,30,5,[qy s],0⟩,⟨1,22,1,[[.gl 3 1 ((kH out c).map qj)]],0⟩,⟨1,30,5,[qy s],0⟩,⟨4,9,1,(kH out c).map qj,0⟩,rec]++[⟨1,67,10,[y8 (o)],0⟩])):
  tn 92 ([⟨1,30,5,[qy s],0⟩,⟨1,22,1,[[.gl 3 1 (([]).map qj)]],0⟩,⟨1,30,5,[qy s],0⟩,⟨4,9,1,([]).map qj,0⟩,rec]) [.v (.func (.yield l) #[] #[]),.ref 2 [] 5 0 0] (.uo []) ([⟨1,30,5,[qy s],0⟩,⟨1,22,1,[[.gl 3 1 ((xM s).map qj)]],0⟩,⟨1,30,5,[qy s],0⟩,⟨4,9,1,(xM s).map qj,0⟩,rec]):=by
 have m1:(s.threads.map yj).length=s.threads.length:=dP ..;have b1:=hs.threads;have y0:=hy0 [] s.first ar (kA hs.first);refine zb.zS (fn:=f92) func92 rfl (uH ?_);refine ⟨_,_,y0,dd ?_⟩;refine tc ?_
 rw [m1];refine z5.seq s.threads.length (fun k=>(.v (.func (.yield l) #[] #[])::.ref 2 [] 5 0 0::tZ (.za::.za::.za::(AK s.threads)::I s.threads.length::I k::tZ (tZ (tZ ([.za,.za])))))) (fun k=>[⟨1,30,5,[qy s],0⟩,⟨1,22,1,[[.gl 3 1 (((s.threads.take k).foldl vY (kH [] s.first)).map qj)]],0⟩,⟨1,30,5,[qy s],0⟩,⟨4,9,1,((s.threads.take k).foldl vY (kH [] s.first)).map qj,0⟩,rec]) (fun k=>((s.threads.take k).foldl vY (kH [] s.first)).length<=4+64 * k) ?_ (by have:=CE [] (kA hs.first);simpa using this) (fun k hk hr=>?_) (fun hr=>?_)
 ·exact cC
 ·obtain ⟨x,hx⟩:∃ x,x=s.threads[k]:=⟨_,rfl⟩;have hxm:x ∈ s.threads:=by rw [hx];exact dF
  have hg:(s.threads.map yj)[k]?= some (yj x):=by rw [dN,dK hk,hx];rfl
  have m3:(x.map y8).length=x.length:=dP ..;have bx:=hs.ops x hxm;have et:(s.threads.take (k+1)).foldl vY (kH [] s.first)=vY ((s.threads.take k).foldl vY (kH [] s.first)) x:=by rw [Ci _ _ _ hk,hx]
  rw [et];generalize (s.threads.take k).foldl vY (kH [] s.first)=out at hr ⊢;conv=>whnf
  refine uF ?_;(refine td hg ?_)
  rw [m3];refine z5.seq x.length (fun j=>(.v (.func (.yield l) #[] #[])::.ref 2 [] 5 0 0::tZ (.za::.za::.za::(AK s.threads)::I s.threads.length::I k::.za::.za::.za::(lP x)::I x.length::I j::tZ (tZ ([.za,.za,.za,.za]))))) (fun j=>[⟨1,30,5,[qy s],0⟩,⟨1,22,1,[[.gl 3 1 (((x.take j).foldl fT out).map qj)]],0⟩,⟨1,30,5,[qy s],0⟩,⟨4,9,1,((x.take j).foldl fT out).map qj,0⟩,rec]) (fun j=>((x.take j).foldl fT out).length<=4+64 * k+4 * j) ?_ (aq hr) (fun j hj hrj=>?_) (fun hrj=>?_)
  ·exact cC
  ·obtain ⟨o,hxo⟩:∃ o,o=x[j]:=⟨_,rfl⟩;have hom:o ∈ x:=by rw [hxo];exact gH hj
   have hgo:(x.map y8)[j]?= some (y8 o):=by rw [dN,dK hj,hxo];rfl
   have eo:(x.take (j+1)).foldl fT out=fT ((x.take j).foldl fT out) o:=by rw [Ci _ _ _ hj,hxo]
   have ol:=JC ((x.take j).foldl fT out) o;rw [eo];generalize (x.take j).foldl fT out=out2 at hrj ol ⊢;have skip:o7 o=false->fT out2 o=out2:=fun h=>by unfold fT;rw [dL aH]
   have take:o7 o=true->fT out2 o=kH out2 o.config:=fun h=>by unfold fT;rw [dO h]
   conv=>whnf
   refine uF ?_;(refine td hgo ?_)
   refine ⟨fun c1=>?_,fun c1=>?_⟩
   rotate_left
   ·rw [skip (by unfold o7;rw [pG (aq c1)];rfl)] at ol ⊢;refine dd ?_;refine tc ?_
    refine .inl ⟨rfl,?_,aw⟩;rw [zu aw];exact zo.xi 5 hU rfl rfl rfl hrec rfl
   have c1:o.kind=3:=aq c1
   refine dd ?_;refine ah (HX o.config (hs.cfg x hxm o hom)) ?_;refine ⟨fun c2=>?_,fun c2=>?_⟩
   rotate_left
   ·rw [skip (by unfold o7;rw [c2,rY])] at ol ⊢;refine dd ?_;refine tc ?_
    refine .inl ⟨rfl,?_,aw⟩;rw [zu aw];exact zo.xi 5 hU rfl rfl rfl hrec rfl
   have y1:=hy1 out2 o.config o aw (kA c2);rw [take (by unfold o7;rw [c2,rk c1];rfl)] at ol ⊢;refine dd ?_;refine ⟨_,_,y1,dd ?_⟩;refine tc ?_
   refine .inl ⟨rfl,?_,aw⟩;rw [zu aw];exact zo.xi 5 hU rfl rfl rfl hrec rfl
  ·have e:(x.take x.length).foldl fT out=vY out x:=by rw [gK];rfl
   have al:=Ep out bx;refine uD ?_;rw [e,zu aw];refine .inl ⟨rfl,?_,aw⟩;exact zo.xi 5 hU rfl rfl rfl hrec rfl
 ·have e:(s.threads.take s.threads.length).foldl vY (kH [] s.first)=xM s:=by rw [gK];rfl
  refine uD ?_;rw [e];exact c8
abbrev GD (s:ez):List C:=BW s:: .ref 0 [] 5 0 0:: .ui 1 0 []:: .ref 1 [] 1 0 0:: .un:: .un:: .un:: .agg (qy s):: .fn 92 [] [.ref 2 [] 5 0 0]::List.replicate 18 .un
def NN (s:ez) (hs:DL s):tn 42 [] [BW s] (lT (xM s)) []:=by
 refine ab func42 ?_;refine ⟨_,_,MA s _ _,uH ?_⟩;refine ⟨_,zo.mV 1 0 9 1 rfl rfl (.inl rfl) rfl rfl,?_⟩;refine ⟨.normal,_,[⟨1,30,5,[qy s],0⟩,⟨1,22,1,[[.gl 3 1 ((xM s).map qj)]],0⟩,⟨1,30,5,[qy s],0⟩,⟨4,9,1,(xM s).map qj,0⟩],fun l r h1 h2 h3 h4 h5=>⟨_,_,r,Mh s hs l (eV l r (GD s)) rfl (fun out c ho hc=>?_) (fun out c o ho hc=>?_),rfl,aY,rfl,gu _,aZ,zo.low 4 _ _ rfl rfl rfl⟩,?_⟩
 ·have mc:(c.zd.map qj).length=c.zd.length:=dP ..;refine jn.zS (id:=4) rfl h1 h2 h3 h4 h5 rfl rfl rfl (uH ?_);refine ⟨rfl,rfl,uH ?_⟩;rw [mc];refine z5.seq c.zd.length (fun k=>(.za::.ref 0 [] 5 0 0::.za::.ref 1 [] 1 0 0::.za::.za::.za::.za::.za::.za::.za::(lT c.zd)::I c.zd.length::I k::tZ ([.za,.za,.za,.za,.za]))) (fun k=>let R:=eV l (busy r) (GD s);[⟨1,30,5,[qy s],0⟩,⟨1,22,1,[[.gl 3 1 (((c.zd.take k).foldl y6 out).map qj)]],0⟩,⟨1,30,5,[qy s],0⟩,⟨4,9,1,((c.zd.take k).foldl y6 out).map qj,0⟩,R]++[⟨1,26,3,[lH c],0⟩]) (fun k=>((c.zd.take k).foldl y6 out).length<=out.length+k) ?_ aj (fun k hk hr=>?_) (fun hr=>?_)
  ·exact cC
  ·obtain ⟨n,hx⟩:∃ n,n=c.zd[k]:=⟨_,rfl⟩;have hg:(c.zd.map qj)[k]?= some (qj n):=by rw [dN,dK hk,hx];rfl
   have et:(c.zd.take (k+1)).foldl y6 out=y6 ((c.zd.take k).foldl y6 out) n:=by rw [Ci _ _ _ hk,hx]
   have al:=EL ((c.zd.take k).foldl y6 out) n;dsimp only;rw [et];generalize (c.zd.take k).foldl y6 out=o2 at hr al ⊢;have ml:(o2.map qj).length=o2.length:=dP ..;conv=>whnf
   refine uF ?_;(refine td hg ?_)
   refine ah (Ch o2 n aw) ?_;refine ⟨fun q=>?_,fun q=>?_⟩
   ·rw [show y6 o2 n=o2 from dO q];refine dd ?_;refine .inl ⟨rfl,?_,aw⟩;rw [zu aw];exact cE 6
   ·have ea:y6 o2 n=o2++[n]:=dL (by simp [q]);rw [ea] at al ⊢;refine dd ?_;refine ⟨rfl,.inr rfl,by rw [ml];simp [maxLen];omega,by rw [ml];show _ * 16<=_;simp;omega,dd ?_⟩;have eb:o2.map qj++[[Tx n]]=(o2++[n]).map qj:=by simp [qj]
    rw [eb];refine .inl ⟨rfl,?_,aw⟩;rw [zu aw];exact cE 6
  ·have e:(c.zd.take c.zd.length).foldl y6 out=kH out c:=by rw [gK];rfl
   refine uD ?_;rw [e];exact ⟨(.za::.ref 0 [] 5 0 0::tZ (tZ (tZ ([.za])))),_,cE 5,rfl,.inl ⟨rfl,rfl,rfl⟩⟩
 ·have mc:(c.zd.map qj).length=c.zd.length:=dP ..;refine jn.zS (id:=4) rfl h1 h2 h3 h4 h5 rfl rfl rfl (uH ?_);refine ⟨rfl,rfl,uH ?_⟩;rw [mc];refine z5.seq c.zd.length (fun k=>(.za::.ref 0 [] 5 0 0::.za::.ref 1 [] 1 0 0::.za::.za::.za::.za::.za::.za::.za::(lT c.zd)::I c.zd.length::I k::tZ ([.za,.za,.za,.za,.za]))) (fun k=>let R:=eV l (busy r) (GD s);[⟨1,30,5,[qy s],0⟩,⟨1,22,1,[[.gl 3 1 (((c.zd.take k).foldl y6 out).map qj)]],0⟩,⟨1,30,5,[qy s],0⟩,⟨4,9,1,((c.zd.take k).foldl y6 out).map qj,0⟩,R]++[⟨1,67,10,[y8 o],0⟩,⟨1,26,3,[lH c],0⟩]) (fun k=>((c.zd.take k).foldl y6 out).length<=out.length+k) ?_ aj (fun k hk hr=>?_) (fun hr=>?_)
  ·exact cC
  ·obtain ⟨n,hx⟩:∃ n,n=c.zd[k]:=⟨_,rfl⟩;have hg:(c.zd.map qj)[k]?= some (qj n):=by rw [dN,dK hk,hx];rfl
   have et:(c.zd.take (k+1)).foldl y6 out=y6 ((c.zd.take k).foldl y6 out) n:=by rw [Ci _ _ _ hk,hx]
   have al:=EL ((c.zd.take k).foldl y6 out) n;dsimp only;rw [et];generalize (c.zd.take k).foldl y6 out=o2 at hr al ⊢;have ml:(o2.map qj).length=o2.length:=dP ..;conv=>whnf
   refine uF ?_;(refine td hg ?_)
   refine ah (Ch o2 n aw) ?_;refine ⟨fun q=>?_,fun q=>?_⟩
   ·rw [show y6 o2 n=o2 from dO q];refine dd ?_;refine .inl ⟨rfl,?_,aw⟩;rw [zu aw];exact cE 7
   ·have ea:y6 o2 n=o2++[n]:=dL (by simp [q]);rw [ea] at al ⊢;refine dd ?_;refine ⟨rfl,.inr rfl,by rw [ml];simp [maxLen];omega,by rw [ml];show _ * 16<=_;simp;omega,dd ?_⟩;have eb:o2.map qj++[[Tx n]]=(o2++[n]).map qj:=by simp [qj]
    rw [eb];refine .inl ⟨rfl,?_,aw⟩;rw [zu aw];exact cE 7
  ·have e:(c.zd.take c.zd.length).foldl y6 out=kH out c:=by rw [gK];rfl
   refine uD ?_;rw [e];exact ⟨(.za::.ref 0 [] 5 0 0::tZ (tZ (tZ ([.za])))),_,cE 6,rfl,.inl ⟨rfl,rfl,rfl⟩⟩
 ·conv=>whnf
  exact uI
def qu (s:ez):Wor × Int:=if fG s=true then iH (jo s.first).1 (xM s) s.threads.length else (o3,1)
def yu {s:ez} (h:fG s=true):wH s.first=true∧1<=s.threads.length∧s.threads.length<=8∧s.zV.length<=4000∧(∀ l ∈ s.threads,l.length<=16∧∀ o ∈ l,1<=o.kind∧o.kind<=6)∧∀ n ∈ s.zV,0<=n:=by
 unfold fG at h;simp only [dS,dZ,gR,gI] at h;obtain ⟨⟨⟨⟨⟨h1,h2⟩,h3⟩,h4⟩,h5⟩,h6⟩:=h;refine ⟨h1,h2,h3,h4,fun l hl=>?_,fun n hn=>?_⟩
 ·have q:=h5 l hl;unfold nP at q;simp only [Bool.not_eq_true,gY,gT,gI] at q;refine ⟨aw,fun o ho=>?_⟩;have:=q.2 o ho;unfold oB at this;exact cN
 ·have:=h6 n hn;unfold BV at this;exact cN
def G9 (s:ez) (hs:DM s) (hc:wH s.first=true->xp s.first) (ho:∀ l ∈ s.threads,∀ o ∈ l,kG o.config) (hn:fG s=true->∀ x ∈ xM s,x.length < 4000000000000000000):tn 16 [] [BW s] (.uo [Cw (qu s).1,I (qu s).2]) []:=by
 have m1:(s.threads.map yj).length=s.threads.length:=dP ..;refine ab func16 ?_;refine ah (Mt s hs) ?_;refine ⟨fun h1=>?_,fun h1=>?_⟩
 rotate_left
 ·rw [show qu s=(o3,1) from dL aD];refine dd ?_;refine tc ?_
  exact cI
 obtain ⟨p1,p2,p3,p4,p5,p6⟩:=yu h1;have sc:=hc p1;have er:(q8 s.first).1=0:=by simpa [wH] using p1
 refine dd ?_;refine tc ?_
 refine ah (DX s.first sc) ?_;have eb:(jo s.first).2.1=0:=(Et s.first).trans er;have en:qu s=iH (jo s.first).1 (xM s) s.threads.length:=dO h1;have wn:DL s:=⟨p1,p3,fun l hl=>(p5 l hl).1,ho⟩
 have nl:(xM s).length < 1000000000:=by
  have a:=CE [] (kA p1)
  have b:=Bd vY 64 s.threads (kH [] s.first) fun l hl o=>by
   have hl2:=(p5 l hl).1;exact Ep o hl2
  have c:xM s=s.threads.foldl vY (kH [] s.first):=rfl;rw [c];simp at a;omega
 have nw:=P9 (jo s.first).1 (xM s) s.threads.length (wx sc) ⟨nl,hn h1⟩;refine ⟨fun h=>absurd h (by rw [eb];decide),fun _=>dd ?_⟩;refine uE ?_;refine ah (NN s wn) ?_;rw [m1];refine ah nw ?_;rw [en];exact uI
end Go.Wor
