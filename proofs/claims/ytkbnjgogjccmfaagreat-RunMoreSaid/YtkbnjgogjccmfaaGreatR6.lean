import Derived.Test.YtkbnjgogjccmfaaGreatRJ
import Derived.Test.YtkbnjgogjccmfaaGreatProg
import Derived.Test.YtkbnjgogjccmfaaGreatR2
import Derived.Test.YtkbnjgogjccmfaaGreatRW
set_option linter.all false
set_option maxRecDepth 100000
set_option maxHeartbeats 4000000
namespace Go.Ply
open Go.Ab Go.Proofs Tryz Go.Hy
def xQ {P:Program} {o:Oper} {σ:Operand->Value} {t t':TypeId} {x y:Operand} {k:IntKind} {n m:Int} (ho:o.op=.binOp .rem t x y t') (hx:σ x=.int k n) (hy:σ y=.int k m) (hm:m≠0):
  ix P (execOp σ o)=some (.value (.int k (n.tmod m))):=by
 have hi:Op.intDiv .rem k n m=pure (.int k (n.tmod m)):=by unfold Op.intDiv;rw [dL hm]
 have hg:eqGuard .rem t x y (σ x) (σ y)=pure ():=rfl
 have hb:binOp .rem t (σ x) (σ y)=pure (.int k (n.tmod m)):=by
  rw [hx,hy];simp only [binOp,hi];exact dL aj
 unfold execOp;rw [ho];dsimp only;rw [hg,hb]
 rfl
def xU (p:Int) (l:List Int):Int × Int:=if p < 0 then (0,1) else if l.length=0 then (0,5) else ((l[(p % l.length).toNat]?).getD 0,0)
def OR (l:List Int):tn 45 [] [lI l] (.fn 69 [] [.ref 1 [] 1 0 0,.ref 0 [] 1 0 0]) [⟨1,28,1,[[lI l]],0⟩,⟨1,3,1,[[I (-1)]],0⟩]:=by
 refine zb.zS (fn:=f45) func45 rfl (uH ?_);exact uJ
def HY (l:List Int) (i:Int) (x:Int) (h0: -1<=i) (h1:i < 1000000000000) (hl:0 < l.length) (hl2:l.length < 1000000000000) (hx:l[((i+1) % l.length).toNat]?= some x):
  tn 69 [⟨1,28,1,[[lI l]],0⟩,⟨1,3,1,[[I (i)]],0⟩] [.ref 1 [] 1 0 0,.ref 0 [] 1 0 0] (I x) [⟨1,28,1,[[lI l]],0⟩,⟨1,3,1,[[I ((i+1) % l.length)]],0⟩]:=by
 have ml:(l.map encI).length=l.length:=dP ..;have hw:IntKind.i64.wrap (i+1)=i+1:=qZ aw aw;have hn:(((l.map encI).length:Nat):Int)≠0:=aw
 have et:(i+1).tmod (((l.map encI).length:Nat):Int)=(i+1) % l.length:=by rw [ml];exact rE aw
 have b0:0<=(i+1) % (l.length:Int):=rP _ aw;have hg:(l.map encI)[((i+1) % (l.length:Int)).toNat]?= some [I x]:=by rw [dN,hx];rfl
 refine zb.zS (fn:=f69) func69 rfl (uH ?_);rw [hw];split;(rotate_left;(rename_i hno;exact (hno _ (xQ rfl rfl rfl hn)).elim));(rename_i v e;cases e.symm.trans (xQ rfl rfl rfl hn));refine dd ?_
 rw [et];refine ⟨b0,_,hg,dd ?_⟩;exact uJ
def Pg (p:Int) (l:List Int) (hp:i64 p) (hl:l.length < 1000000000000):tn 18 [] [I p,lI l] (.uo [I (xU p l).1,I (xU p l).2]) []:=by
 have ml:(l.map encI).length=l.length:=dP ..;refine ab func18 ?_;refine ⟨fun h1=>?_,fun h1=>?_⟩
 ·have h1:p < 0:=by simpa using h1
  have e:xU p l=(0,1):=dO h1;rw [e];exact de
 have h1:¬p < 0:=aq h1
 refine dd ?_;rw [ml];refine ⟨fun h2=>?_,fun h2=>?_⟩
 ·have h2:l.length=0:=by have h2:=pn h2;omega
  have e:xU p l=(0,5):=(dL h1).trans (dO h2);rw [e];exact de
 have h2:l.length≠0:=by have h2:=pC h2;omega
 have e:xU p l=((l[(p % l.length).toNat]?).getD 0,0):=(dL h1).trans (dL h2);rw [e];have b0:0<=p % (l.length:Int):=rP _ aw;have b1:p % (l.length:Int) < l.length:=rQ _ aw;have at_:∀ k:Nat,k < l.length->l[k]?= some ((l[k]?).getD 0):=fun k hk=>by rw [dK hk];rfl
 have r0:=HY l (-1) ((l[0]?).getD 0) ar ar aw hl (by rw [show (-1+1:Int) % l.length=0 from by rw [show (-1+1:Int)=0 from rfl];exact Int.zero_emod _];exact at_ 0 aw);rw [show (-1+1:Int) % l.length=0 from by rw [show (-1+1:Int)=0 from rfl];exact Int.zero_emod _] at r0;refine dd ?_;refine af [] (OR l) ?_;refine ⟨_,_,r0,dd ?_⟩;have hn:(((l.map encI).length:Nat):Int)≠0:=aw
 have et:p.tmod (((l.map encI).length:Nat):Int)=p % l.length:=by rw [ml];exact rE aw
 split;(rotate_left;(rename_i hno;exact (hno _ (xQ rfl rfl rfl hn)).elim));(rename_i v e;cases e.symm.trans (xQ rfl rfl rfl hn));refine dd ?_
 rw [et];obtain ⟨N,hN⟩:∃ N:Nat,p % (l.length:Int)=N:=⟨(p % (l.length:Int)).toNat,aw⟩;rw [hN];rw [hN] at b1;refine z5.seq N (fun k=>(I p::(lI l)::.za::.za::I 0::I 0::.fn 69 [] [.ref 1 [] 1 0 0,.ref 0 [] 1 0 0]::I ((l[k]?).getD 0)::tZ ([.za,.za,.za,.za,.za,.za,I (N:Int),I k,.za,.za,.za,.za,.za]))) (fun k=>[⟨1,28,1,[[lI l]],0⟩,⟨1,3,1,[[I ((k:Int))]],0⟩]) (fun k=>True) ?_ trivial (fun k hk hr=>?_) (fun hr=>?_)
 ·exact cC
 ·have r1:=HY l k ((l[k+1]?).getD 0) aw aw aw hl (by rw [Int.emod_eq_of_lt aw aw];exact at_ (k+1) aw);rw [Int.emod_eq_of_lt aw aw] at r1;conv=>whnf
  refine uF ?_;refine ⟨_,_,r1,dd ?_⟩;exact dD
 ·refine uD ?_;exact uI
end Go.Ply
namespace Go.Ply
open Go.Ab Go.Proofs Tryz Go.Hy Go.Wor
abbrev fD:=Wor × List ed × List uv
structure Vg (X:List ed) (w:Wor) (out:List uv) (p:Int) (s':fD):Prop where
 go:(qw X X.length=[]∧s'=(w,X,out))∨∃ (t:Nat) (x:ed) (e:uv),(qw X X.length)[(p % (qw X X.length).length).toNat]?= some t∧X[t]?= some x∧s'.2.1.length=X.length∧s'.2.2=out++[e]∧
  tn 19 (lW 1 X) [.ref 0 [] 48 t 0,.agg (zJ w),I t] (.uo [.agg (zJ s'.1),.agg (zR e)]) (lW 1 s'.2.1)
def UU:List C:=[I 0,I 0,I 0,I 0,I 0,I 0,I 0,I 0,I 0,U 0,I 0,I 0,I 0,I 0,Bo false]++xm ⟨0,0,0,0,0,0,0,⟨0,0,0,0,0,0⟩⟩++o4 ⟨0,0,0,0,0,0⟩
def nk (c:C):List C:=c::I 0::Bo false::([I 0,Tx [],Tx [],Tx [],I 0,I 0,I 0,.ui 1 0 [],.ui 1 0 [],.ui 1 0 []]++UU++[.ui 1 0 []])
def nN (T:List (List ef)) (k:Nat):List (List C):=(T.take k).map (fun l=>nk (lP l))++List.replicate (T.length - k) (nk (.ui 1 0 []))
def S6 {T:List (List ef)} {k:Nat} (hk:k < T.length):(nN T k)[k]?= some (nk (.ui 1 0 [])):=by
 unfold nN;have e:((T.take k).map fun l=>nk (lP l)).length=k:=aA
 rw [dY aw,e,pY,rM,dO aw]
def RG {T:List (List ef)} {k:Nat} (hk:k < T.length):(nN T k).set k (nk (lP T[k]))=nN T (k+1):=by
 unfold nN;have e:((T.take k).map fun l=>nk (lP l)).length=k:=aA
 have e2:T.length - k=(T.length - (k+1))+1:=aw
 rw [sP _ _ aw,e,pY,e2,rK,sy,pq hk,pw,pN]
 rfl
def AR (l:List ef):List C:=lP l::I 0::Bo false::(zD Lf++[.ui 1 0 []])
def RF (l:List ef):fy (nk (lP l)) (AR l):=by
 have r:∀ cs:List C,fy cs cs:=fun cs=>by
  induction cs with
  | nil=>exact .nil
  | cons c cs ih=>exact .cons (.refl _) ih
 exact .cons (.refl _) (.cons (.refl _) (.cons (.refl _) (.cons (.refl _) (.cons (.refl _) (.cons (.refl _) (.cons (.refl _) (.cons (.refl _) (.cons (.refl _) (.cons (.refl _) (.cons (WC.nil 0 1) (.cons (WC.nil 0 4) (.cons (WC.nil 0 4) (r _)))))))))))))
def Ui (T:List (List ef)) (i:Nat):yS (T.map fW) i=[]:=by
 unfold yS;rw [dN];cases T[i]? with
 | none=>rfl
 | some l=>rfl
def UM {T:List (List ef)} (hT:T.length<=8):xK 4 47 13 8 (T.map AR)=(T.map fW).mapIdx (qj 4):=by
 unfold xK;refine gU fun i=>?_
 rw [gV,gV,dN,dN];cases hl:T[i]? with
 | none=>rfl
 | some l=>
  have:=(dJ.1 hl).1;simp only [dV];rw [dO aw]
  rfl
def Oj {B:Nat} {t:List C} {T:List (List ef)} (hT:T.length<=8) (O0 O1 O2:Ob):zo B ⟨t,[O0,O1,O2,⟨2,72,48,nN T T.length,0⟩]⟩ ⟨t,O0::O1::O2::lW 4 (T.map fW)⟩:=by
 have e:nN T T.length=T.map fun l=>nk (lP l):=by unfold nN;simp
 have own1:∀ r ∈ T.map fun l=>nk (lP l),∀ c ∈ r,zy c=true:=fun r hr=>by
  obtain ⟨l,_,rfl⟩:=gC.1 hr;have e:(nk (lP l)).all zy=true:=rfl;exact dT.1 e
 have own2:∀ r ∈ T.map AR,∀ c ∈ r,zy c=true:=fun r hr=>by
  obtain ⟨l,_,rfl⟩:=gC.1 hr;have e:(AR l).all zy=true:=rfl;exact dT.1 e
 rw [e];refine (zo.Av (s:=⟨t,[O0,O1,O2,⟨2,72,48,_,0⟩]⟩) 3 rfl own1).trans ?_;refine (zo.UF (s:=⟨t,[O0,O1,O2,⟨1,0,48,_,0⟩]⟩) 3 (rows':=T.map AR) rfl aj (fun i r r' h h'=>?_) own1 own2).trans ?_
 ·obtain ⟨l,h1,rfl⟩:=gJ.1 ((dN ..).symm.trans h);obtain ⟨l',h2,rfl⟩:=gJ.1 ((dN ..).symm.trans h');rw [h1] at h2;cases h2
  exact RF l
 ·have w:=zo.Ku (B:=B) (s:=⟨t,[O0,O1,O2,⟨1,0,48,T.map AR,0⟩]⟩) 3 47 46 13 (sz0:=0) rfl (fun r hr=>by
   obtain ⟨l,_,rfl⟩:=gC.1 hr
   rfl) own2 8
  have g:∀ i,um (T.map fW) i=⟨4,46,13,[],0⟩:=fun i=>by unfold um;rw [Ui];rfl
  show zo B _ ⟨t,[O0,O1,O2,iL 4 (T.map fW),um (T.map fW) 0,um (T.map fW) 1,um (T.map fW) 2,um (T.map fW) 3,um (T.map fW) 4,um (T.map fW) 5,um (T.map fW) 6,um (T.map fW) 7]⟩;unfold iL;rw [g,g,g,g,g,g,g,g,<- UM hT];exact w
def Er (X:List ed):∀ k,(qw X k).length<=k
 | 0=>dU _
 | k+1=>by
  have:=Er X k;unfold qw;split
  ·split
   ·omega
   ·simp;omega
  ·omega
def fL (X:List ed) (k:Nat):List (List C):=(qw X k).map fun (n:Nat)=>[I (n:Int)]
def SQ (X:List ed) (k:Nat):(fL X k).length=(qw X k).length:=dP ..
def SR {X:List ed} {k:Nat} {x:ed} (hx:X[k]?= some x) (ho:oy x=false):fL X (k+1)=fL X k++[[I k]]:=by
 have:¬x.ops.length<=x.done:=by unfold oy at ho;simpa using ho
 have e:qw X (k+1)=qw X k++[k]:=by
  show (match X[k]? with | some x=>if x.ops.length<=x.done then qw X k else qw X k++[k] | none=>qw X k)=_;rw [hx];exact dL this
 unfold fL;rw [e,pw]
 rfl
def Uw {X:List ed} {k:Nat} {x:ed} (hx:X[k]?= some x) (ho:oy x=true):fL X (k+1)=fL X k:=by
 have:x.ops.length<=x.done:=by unfold oy at ho;simpa using ho
 have e:qw X (k+1)=qw X k:=by
  show (match X[k]? with | some x=>if x.ops.length<=x.done then qw X k else qw X k++[k] | none=>qw X k)=_;rw [hx];exact dO this
 unfold fL;rw [e]
def J4 {X:List ed} {b n:Nat} (h:b+8<=n) (hX:X.length<=8):∀ r ∈ X.mapIdx (qj b),∀ c ∈ r,qW n 9 c=true:=fun r hr=>by
 obtain ⟨i,hi,rfl⟩:=sS.1 hr;exact J5 b i n _ aw
def TG {X:List ed} (hX:X.length<=8):zK [3,4,5,6,7,8,9,10,11] (iL 4 X)=iL 1 X:=by
 have e:(X.mapIdx (qj 4)).map (fun r=>r.map (xO [3,4,5,6,7,8,9,10,11] 9))=X.mapIdx (qj 1):=by
  refine gU fun i=>?_
  rw [dN,gV,gV];cases hx:X[i]? with
  | none=>rfl
  | some x=>
   have:=(dJ.1 hx).1;rcases (by omega:i=0∨i=1∨i=2∨i=3∨i=4∨i=5∨i=6∨i=7) with rfl | rfl | rfl | rfl | rfl | rfl | rfl | rfl <;> rfl
 show (⟨1,0,48,(X.mapIdx (qj 4)).map (fun r=>r.map (xO [3,4,5,6,7,8,9,10,11] 9)),0⟩:Ob)=_;rw [e]
def TU {X:List ed} (hX:X.length<=8) (n:Nat):zG (qX [3,4,5,6,7,8,9,10,11] n) (iL 1 X)=iL 4 X:=by
 have e:(X.mapIdx (qj 1)).map (fun r=>r.map (yF (qX [3,4,5,6,7,8,9,10,11] n) 9))=X.mapIdx (qj 4):=by
  refine gU fun i=>?_
  rw [dN,gV,gV];cases hx:X[i]? with
  | none=>rfl
  | some x=>
   have:=(dJ.1 hx).1;rcases (by omega:i=0∨i=1∨i=2∨i=3∨i=4∨i=5∨i=6∨i=7) with rfl | rfl | rfl | rfl | rfl | rfl | rfl | rfl <;> rfl
 show (⟨1,0,48,(X.mapIdx (qj 1)).map (fun r=>r.map (yF (qX [3,4,5,6,7,8,9,10,11] n) 9)),0⟩:Ob)=_;rw [e]
def KH (b:Nat) (X:List ed):∀ r ∈ X.mapIdx (qj b),∀ c ∈ r,zy c=true:=fun r hr=>by
 obtain ⟨i,hi,rfl⟩:=sS.1 hr;exact RN b i _
def Rz (s:ez) (b:Wor × Int) (St:Nat->fD) (hb:tn 16 [] [.agg (qy s)] (.uo [.agg (zJ b.1),I b.2]) []) (hn:b.2=0->s.threads.length<=8∧s.zV.length<=4000∧∀ p ∈ s.zV,0<=p∧i64 p)
  (h0:St 0=(b.1,s.threads.map fW,[])) (hs:b.2=0->∀ k p,s.zV[k]?= some p->Vg (St k).2.1 (St k).1 (St k).2.2 p (St (k+1))):
  tn 7 [] [.agg (qy s)] (.uo [fR (if b.2=0 then (St s.zV.length).2.2 else []),.agg (zJ (if b.2=0 then (St s.zV.length).1 else ⟨0,0,0,[],[],[],[],[]⟩)),I b.2]) []:=by
 have m1:(s.threads.map yj).length=s.threads.length:=dP ..;have m2:(s.zV.map encI).length=s.zV.length:=dP ..;refine ab func7 ?_;refine ah hb ?_;refine ⟨fun h1=>?_,fun h1=>?_⟩
 rotate_left
 ·have e0:b.2=0:=by simpa using h1
  obtain ⟨n1,n2,n3⟩:=hn e0;have hs:=hs e0;rw [dO e0,dO e0,e0];refine dd ?_;refine tc ?_
  rw [m1];refine ⟨rfl,aw,by show (488:Int) * _<=_;omega,aw,dd ?_⟩;rw [toNat_cast,m1];refine z5.seq s.threads.length (fun k=>(.za::.ref 0 [] 5 0 0:: .za::.ref 1 [] 8 0 0:: .za::.ref 2 [] 8 0 0:: .za::.sl 3 [] 48 0 s.threads.length false:: tZ (tZ (tZ (AK s.threads::I s.threads.length::I k:: .za::tZ (tZ (tZ (tZ (tZ (tZ ([]))))))))))) (fun k=>[⟨1,30,5,[qy s],0⟩,⟨1,37,8,[[I 0,I 0,I 0,.ui 1 0 [],.ui 1 0 [],.ui 1 0 [],.ui 1 0 [],.ui 1 0 []]],0⟩,⟨1,37,8,[zJ (b.1)],0⟩,⟨2,72,48,nN s.threads k,0⟩]) (fun _=>True) ?_ trivial (fun k hk _=>?_) (fun _=>?_)
  ·exact cC
  ·have hg:(s.threads.map yj)[k]?= some (yj s.threads[k]):=by rw [dN,dK hk];rfl
   conv=>whnf
   refine uF ?_;(refine td hg ?_)
   refine ⟨aw,by rw [toNat_cast];exact hk,dd ?_⟩;rw [show 0+((k:Int)).toNat=k from aj];refine ⟨_,S6 hk,rfl,dd ?_⟩;refine .inl ⟨rfl,?_,trivial⟩;rw [zu aw,<- RG hk];exact cC
  ·refine uD ?_;rw [m2];refine z5.seq s.zV.length (fun k=>(.za::.ref 0 [] 5 0 0:: .za::.ref 1 [] 8 0 0:: .za::.ref 2 [] 8 0 0:: .za::.sl 3 [] 48 0 s.threads.length false:: .za::.za::.gl 12 23 ((St k).2.2.map zR):: .za::.za::.za::.za::tZ (tZ (tZ (tZ (lI s.zV::I s.zV.length::I k:: .za::.za::tZ (tZ (tZ (tZ ([])))))))))) (fun k=>⟨1,30,5,[qy s],0⟩::⟨1,37,8,[[I 0,I 0,I 0,.ui 1 0 [],.ui 1 0 [],.ui 1 0 [],.ui 1 0 [],.ui 1 0 []]],0⟩::⟨1,37,8,[zJ ((St k).1)],0⟩::(lW 4 (St k).2.1++[⟨4,48,23,((St k).2.2).map zR,0⟩])) (fun k=>(St k).2.1.length=s.threads.length∧(St k).2.2.length<=k) ?_ (by rw [h0];exact ⟨dP ..,dU _⟩) (fun k hk hr=>?_) (fun hr=>?_)
   ·refine (Oj n1 _ _ _).trans ?_;rw [h0];exact (zo.grow 10 48 23 rfl (.inl rfl)).trans (cC)
   ·have hp:s.zV[k]?= some s.zV[k]:=dK hk;have hg:(s.zV.map encI)[k]?= some (encI s.zV[k]):=by rw [dN,hp];rfl
    have h1:=hs k s.zV[k] hp;generalize hS:St k=S at *;obtain ⟨w,X,out⟩:=S;obtain ⟨hr,ho⟩:=hr;have hr:X.length=s.threads.length:=hr;have ho:out.length<=k:=ho;have hal:=Er X X.length;conv=>whnf
    refine uF ?_;(refine td hg ?_)
    rw [<- hr];refine ⟨_,_,MU X 4 false _ _ _ _ _ _ _ _ _ _ _ _ _,uH ?_⟩;refine ⟨_,zo.mV 13 0 3 1 rfl rfl (.inl rfl) rfl rfl,?_⟩
    refine ⟨.normal,_,⟨1,30,5,[qy s],0⟩::⟨1,37,8,[[I 0,I 0,I 0,.ui 1 0 [],.ui 1 0 [],.ui 1 0 [],.ui 1 0 [],.ui 1 0 []]],0⟩::⟨1,37,8,[zJ (w)],0⟩::iL 4 X::um X 0::um X 1::um X 2::um X 3::um X 4::um X 5::um X 6::um X 7::⟨4,48,23,(out).map zR,0⟩::[⟨1,28,1,[[.gl 15 1 (fL X X.length)]],0⟩,⟨1,63,1,[[.sl 3 [] 48 0 X.length false]],0⟩,⟨4,3,1,fL X X.length,0⟩],
     fun l r h1 h2 h3 h4 h5=>⟨_,_,r,MJ l X 4 false aw _ _ _ _ _ _ _ _ _ _ _ _ (fun k=>⟨1,28,1,[[.gl 15 1 (fL X k)]],0⟩) (fun k=>[⟨4,3,1,fL X k,0⟩,eV l r _]) (fun k x hx ho=>?_) (fun k x hx ho=>?_),
     rfl,aY,rfl,gu _,aZ,zo.drop 16 rfl rfl rfl (zI rfl (zI rfl (zI rfl (zI (qd (J4 (b:=4) ar aw)) rfl))))⟩,?_⟩
    ·refine jn.zS (id:=16) rfl h1 h2 h3 h4 h5 rfl rfl rfl ?_;conv=>whnf
     refine ⟨rfl,rfl,uH ?_⟩;have hkl:=(dJ.1 hx).1;have mal:=SQ X k;have al2:=Er X k;refine ⟨rfl,.inr rfl,ay,ba,uH ?_⟩;have e:fL X (k+1)=fL X k++[[I k]]:=SR hx ho;rw [e];exact cQ
    ·have e:fL X (k+1)=fL X k:=Uw hx ho;exact ⟨by simp only [e],by simp only [e]⟩
    conv=>whnf
    have hp0:=n3 s.zV[k] (gH hk);have ll:((qw X X.length).map fun (n:Nat)=>(n:Int)).length=(qw X X.length).length:=dP ..;have pk:=Pg s.zV[k] ((qw X X.length).map fun (n:Nat)=>(n:Int)) hp0.2 aw;have el:(((qw X X.length).map fun (n:Nat)=>(n:Int)).map encI)=fL X X.length:=by unfold fL;rw [pT];rfl
    unfold lI at pk;rw [el] at pk;have h1:=h1.go;rcases h1 with ⟨ha,hS2⟩ | ⟨t,x,e,ha,hx,hX2,ho2,hst⟩
    ·have ep:xU s.zV[k] ((qw X X.length).map fun (n:Nat)=>(n:Int))=(0,5):=by
      unfold xU;rw [dL aw,dO (by rw [ll];exact pR.2 ha)]
     rw [ep] at pk;refine ⟨_,_,pk.frame rfl _,dd ?_⟩;refine tc ?_
     (refine .inr ⟨aj,uH ?_⟩)
     have stay:∀ j,k+j<=s.zV.length->St (k+j)=(w,X,out):=fun j=>by
      induction j with
      | zero=>intro _;exact hS
      | succ j ih=>
       intro hj;have q:=ih aw;have g:=(hs (k+j) _ (dK aw)).go;rw [q] at g;rcases g with ⟨_,g⟩ | ⟨t,x,e,g,_⟩
       ·exact g
       ·rw [ha] at g;cases g
     have last:=stay (s.zV.length - k) aw;rw [show k+(s.zV.length - k)=s.zV.length from aw] at last;rw [last];refine .inl ⟨⟨false,[1],[2],[]⟩,au,uH ?_⟩;refine hZ ?_
     exact uI
    ·have ep:xU s.zV[k] ((qw X X.length).map fun (n:Nat)=>(n:Int))=((t:Int),0):=by
      have hne:(qw X X.length).length≠0:=fun z=>by rw [pR.1 z] at ha;cases ha
      unfold xU;rw [dL aw,dL (by rw [ll];exact hne),ll,dN,ha]
      rfl
     rw [ep] at pk;have pk:tn 18 [] [I s.zV[k],.ui 0 1 (fL X X.length)] (.uo [I (t:Int),I 0]) []:=pk;have htl:=(dJ.1 hx).1;refine ⟨_,_,pk.frame rfl _,dd ?_⟩;refine tc ?_
     refine .inl ⟨⟨true,[],[],[]⟩,au,uH ?_⟩;refine ⟨aw,by rw [toNat_cast];exact htl,dd ?_⟩;rw [show 0+((t:Int)).toNat=t from aj];have hX8:(St (k+1)).2.1.length<=8:=aw
     generalize hS':St (k+1)=S' at *;obtain ⟨w',X',out'⟩:=S';have hX2:X'.length=X.length:=hX2;have ho2:out'=out++[e]:=ho2;have hst:tn 19 (lW 1 X) [.ref 0 [] 48 t 0,.agg (zJ w),I t] (.uo [.agg (zJ w'),.agg (zR e)]) (lW 1 X'):=hst;refine Go.Wor.zX [3,4,5,6,7,8,9,10,11] (⟨1,30,5,[qy s],0⟩::⟨1,37,8,[[I 0,I 0,I 0,.ui 1 0 [],.ui 1 0 [],.ui 1 0 [],.ui 1 0 [],.ui 1 0 []]],0⟩::⟨1,37,8,[zJ (w)],0⟩::(lW 4 X'++[⟨4,48,23,(out).map zR,0⟩,⟨1,28,1,[[.gl 15 1 (fL X X.length)]],0⟩,⟨1,63,1,[[.sl 3 [] 48 0 X.length false]],0⟩,⟨4,3,1,fL X X.length,0⟩,⟨1,48,23,[[I 0,I 0,I 0,I 0,I 0,Bo false,I 0,Bo false,Bo false,Bo false,I 0,I 0,I 0,I 0,I 0,I 0,I 0,U 0,U 0,U 0,U 0,U 0,U 0]],0⟩])) (rx:=.uo [.agg (zJ w'),.agg (zR e)]) hst (zc (zi (KH 1 X')) rfl) (by show zK _ (iL 4 X)::_=_;rw [TG aw];rfl) rfl rfl rfl (zc rfl (zc rfl (zc rfl (zc (zi (KH 4 X)) rfl)))) (by show _::_::_::zG _ (iL 1 X')::_=_;rw [TU aw];rfl) rfl (dd ?_);have mO:(out.map zR).length=out.length:=dP ..;refine ⟨rfl,.inr rfl,by show (out.map zR).length+1<=maxLen;rw [mO];simp [maxLen];omega,by show ((((out.map zR).length+1) * 168:Nat):Nat)<=_;rw [mO];omega,dd ?_⟩;refine .inl ⟨rfl,?_,hX2,by rw [ho2,gN,pW];omega⟩;have eO:out.map zR++[[I e.zj,I e.op,I e.access,I e.cell,I e.version,Bo e.qk,I e.value,Bo e.jZ,Bo e.qP,Bo e.done,I e.answer.kind,I e.answer.version,I e.answer.zg,I e.answer.end_,I e.answer.slot,I e.answer.listen,I e.answer.n,U e.answer.counts.c0,U e.answer.counts.c1,U e.answer.counts.c2,U e.answer.counts.c3,U e.answer.counts.c4,U e.answer.counts.c5]]=out'.map zR:=by rw [ho2,pw];rfl
     rw [zu aw];dsimp only;rw [eO];exact zo.xi 13 hU rfl rfl rfl (zI rfl (zI rfl (zI rfl (zI (qd (J4 (b:=4) ar aw)) rfl)))) rfl
   ·refine uD ?_;refine .inl ⟨⟨false,[1],[2],[]⟩,au,uH ?_⟩;refine hZ ?_
    exact uI
 ·have e0:b.2≠0:=by simpa using h1
  rw [dL e0,dL e0];refine dd ?_;refine tc ?_
  exact ⟨.inl rfl,_,(zo.var 1 rfl rfl rfl (.cons (.refl _) (.cons (.refl _) (.cons (.refl _) (.cons (WC.nil 0 1) (.cons (WC.nil 0 5) (.cons (WC.nil 0 4) (.cons (WC.nil 0 1) (.cons (WC.nil 0 3) .nil))))))))).trans (zo.grow 2 48 23 rfl (.inl rfl)),rfl⟩
end Go.Ply
