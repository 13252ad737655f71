import Derived.Test.YtkbnjgogjccmfaaGreatSJ
import Derived.Test.YtkbnjgogjccmfaaGreatProg
import Derived.Test.YtkbnjgogjccmfaaGreatS2
import Derived.Test.YtkbnjgogjccmfaaGreatSW
set_option linter.all false
set_option maxRecDepth 100000
set_option maxHeartbeats 4000000
namespace Go.Ply
open Go.Ab Go.Proofs Tryz Go.Hy
def yh {P:Program} {o:Oper} {σ:Operand->Value} {t t':TypeId} {x y:Operand} {k:IntKind} {n m:Int} (ho:o.op=.binOp .rem t x y t') (hx:σ x=.int k n) (hy:σ y=.int k m) (hm:m≠0):
  iQ P (execOp σ o)=some (.value (.int k (n.tmod m))):=by
 have hi:Op.intDiv .rem k n m=pure (.int k (n.tmod m)):=by unfold Op.intDiv;rw [dR hm]
 have hg:eqGuard .rem t x y (σ x) (σ y)=pure ():=rfl
 have hb:binOp .rem t (σ x) (σ y)=pure (.int k (n.tmod m)):=by
  rw [hx,hy];simp only [binOp,hi];exact dR aj
 unfold execOp;rw [ho];dsimp only;rw [hg,hb]
 rfl
def yk (p:Int) (l:List Int):Int × Int:=if p < 0 then (0,1) else if l.length=0 then (0,5) else ((l[(p % l.length).toNat]?).getD 0,0)
def QS (l:List Int):to 45 [] [lI l] (.fn 69 [] [.ref 1 [] 1 0 0,.ref 0 [] 1 0 0]) [⟨1,28,1,[[lI l]],0⟩,⟨1,3,1,[[I (-1)]],0⟩]:=by
 refine zb.zT (fn:=f45) func45 rfl (uH ?_);exact uJ
def Jr (l:List Int) (i:Int) (x:Int) (h0: -1<=i) (h1:i < 1000000000000) (hl:0 < l.length) (hl2:l.length < 1000000000000) (hx:l[((i+1) % l.length).toNat]?= some x):
  to 69 [⟨1,28,1,[[lI l]],0⟩,⟨1,3,1,[[I (i)]],0⟩] [.ref 1 [] 1 0 0,.ref 0 [] 1 0 0] (I x) [⟨1,28,1,[[lI l]],0⟩,⟨1,3,1,[[I ((i+1) % l.length)]],0⟩]:=by
 have ml:(l.map encI).length=l.length:=dV ..;have hw:IntKind.i64.wrap (i+1)=i+1:=jc aw aw;have hn:(((l.map encI).length:Nat):Int)≠0:=aw
 have et:(i+1).tmod (((l.map encI).length:Nat):Int)=(i+1) % l.length:=by rw [ml];exact rR aw
 have b0:0<=(i+1) % (l.length:Int):=r4 _ aw;have hg:(l.map encI)[((i+1) % (l.length:Int)).toNat]?= some [I x]:=by rw [dT,hx];rfl
 refine zb.zT (fn:=f69) func69 rfl (uH ?_);rw [hw];split;(rotate_left;(rename_i hno;exact (hno _ (yh rfl rfl rfl hn)).elim));(rename_i v e;cases e.symm.trans (yh rfl rfl rfl hn));refine dd ?_
 rw [et];refine ⟨b0,_,hg,dd ?_⟩;exact uJ
def QL (p:Int) (l:List Int) (hp:i64 p) (hl:l.length < 1000000000000):to 18 [] [I p,lI l] (.u7 [I (yk p l).1,I (yk p l).2]) []:=by
 have ml:(l.map encI).length=l.length:=dV ..;refine ab func18 ?_;refine ⟨fun h1=>?_,fun h1=>?_⟩
 ·have h1:p < 0:=by simpa using h1
  have e:yk p l=(0,1):=dU h1;rw [e];exact di
 have h1:¬p < 0:=aq h1
 refine dd ?_;rw [ml];refine ⟨fun h2=>?_,fun h2=>?_⟩
 ·have h2:l.length=0:=by have h2:=gd h2;omega
  have e:yk p l=(0,5):=(dR h1).trans (dU h2);rw [e];exact di
 have h2:l.length≠0:=by have h2:=pM h2;omega
 have e:yk p l=((l[(p % l.length).toNat]?).getD 0,0):=(dR h1).trans (dR h2);rw [e];have b0:0<=p % (l.length:Int):=r4 _ aw;have b1:p % (l.length:Int) < l.length:=r5 _ aw;have at_:∀ k:Nat,k < l.length->l[k]?= some ((l[k]?).getD 0):=fun k hk=>by rw [dQ hk];rfl
 have r0:=Jr l (-1) ((l[0]?).getD 0) ar ar aw hl (by rw [show (-1+1:Int) % l.length=0 from by rw [show (-1+1:Int)=0 from rfl];exact Int.zero_emod _];exact at_ 0 aw);rw [show (-1+1:Int) % l.length=0 from by rw [show (-1+1:Int)=0 from rfl];exact Int.zero_emod _] at r0;refine dd ?_;refine af [] (QS l) ?_;refine ⟨_,_,r0,dd ?_⟩;have hn:(((l.map encI).length:Nat):Int)≠0:=aw
 have et:p.tmod (((l.map encI).length:Nat):Int)=p % l.length:=by rw [ml];exact rR aw
 split;(rotate_left;(rename_i hno;exact (hno _ (yh rfl rfl rfl hn)).elim));(rename_i v e;cases e.symm.trans (yh rfl rfl rfl hn));refine dd ?_
 rw [et];obtain ⟨N,hN⟩:∃ N:Nat,p % (l.length:Int)=N:=⟨(p % (l.length:Int)).toNat,aw⟩;rw [hN];rw [hN] at b1;refine zW.seq N (fun k=>(I p::(lI l)::.za::.za::I 0::I 0::.fn 69 [] [.ref 1 [] 1 0 0,.ref 0 [] 1 0 0]::I ((l[k]?).getD 0)::hZ ([.za,.za,.za,.za,.za,.za,I (N:Int),I k,.za,.za,.za,.za,.za]))) (fun k=>[⟨1,28,1,[[lI l]],0⟩,⟨1,3,1,[[I ((k:Int))]],0⟩]) (fun k=>True) ?_ trivial (fun k hk hr=>?_) (fun hr=>?_)
 ·exact cC
 ·have r1:=Jr l k ((l[k+1]?).getD 0) aw aw aw hl (by rw [Int.emod_eq_of_lt aw aw];exact at_ (k+1) aw);rw [Int.emod_eq_of_lt aw aw] at r1;conv=>whnf
  refine uF ?_;refine ⟨_,_,r1,dd ?_⟩;exact dI
 ·refine uD ?_;exact uI
end Go.Ply
namespace Go.Ply
open Go.Ab Go.Proofs Tryz Go.Hy Go.Wor
abbrev fJ:=Wor × List eE × List u6
structure Wr (X:List eE) (w:Wor) (out:List u6) (p:Int) (s':fJ):Prop where
 go:(qA X X.length=[]∧s'=(w,X,out))∨∃ (t:Nat) (x:eE) (e:u6),(qA X X.length)[(p % (qA X X.length).length).toNat]?= some t∧X[t]?= some x∧s'.2.1.length=X.length∧s'.2.2=out++[e]∧
  to 19 (mG 1 X) [.ref 0 [] 48 t 0,.agg (zJ w),I t] (.u7 [.agg (zJ s'.1),.agg (zP e)]) (mG 1 s'.2.1)
def Xc:List C:=[I 0,I 0,I 0,I 0,I 0,I 0,I 0,I 0,I 0,U 0,I 0,I 0,I 0,I 0,Bo false]++xB ⟨0,0,0,0,0,0,0,⟨0,0,0,0,0,0⟩⟩++AA ⟨0,0,0,0,0,0⟩
def nS (c:C):List C:=c::I 0::Bo false::([I 0,Tx [],Tx [],Tx [],I 0,I 0,I 0,.u1 1 0 [],.u1 1 0 [],.u1 1 0 []]++Xc++[.u1 1 0 []])
def ox (T:List (List eK)) (k:Nat):List (List C):=(T.take k).map (fun l=>nS (lP l))++List.replicate (T.length - k) (nS (.u1 1 0 []))
def UJ {T:List (List eK)} {k:Nat} (hk:k < T.length):(ox T k)[k]?= some (nS (.u1 1 0 [])):=by
 unfold ox;have e:((T.take k).map fun l=>nS (lP l)).length=k:=aA
 rw [gu aw,e,rp,rY,dU aw]
def Tf {T:List (List eK)} {k:Nat} (hk:k < T.length):(ox T k).set k (nS (lP T[k]))=ox T (k+1):=by
 unfold ox;have e:((T.take k).map fun l=>nS (lP l)).length=k:=aA
 have e2:T.length - k=(T.length - (k+1))+1:=aw
 rw [tt _ _ aw,e,rp,e2,rK,rO,gR hk,pb,pW]
 rfl
def BG (l:List eK):List C:=lP l::I 0::Bo false::(zD MA++[.u1 1 0 []])
def Te (l:List eK):fR (nS (lP l)) (BG l):=by
 have r:∀ cs:List C,fR cs cs:=fun cs=>by
  induction cs with
  | nil=>exact .nil
  | cons c cs ih=>exact .cons (.refl _) ih
 exact .cons (.refl _) (.cons (.refl _) (.cons (.refl _) (.cons (.refl _) (.cons (.refl _) (.cons (.refl _) (.cons (.refl _) (.cons (.refl _) (.cons (.refl _) (.cons (.refl _) (.cons (WC.nil 0 1) (.cons (WC.nil 0 4) (.cons (WC.nil 0 4) (r _)))))))))))))
def VH (T:List (List eK)) (i:Nat):ve (T.map wG) i=[]:=by
 unfold ve;rw [dT];cases T[i]? with
 | none=>rfl
 | some l=>rfl
def Wa {T:List (List eK)} (hT:T.length<=8):x9 4 47 13 8 (T.map BG)=(T.map wG).mapIdx (qm 4):=by
 unfold x9;refine pq fun i=>?_
 rw [pw,pw,dT,dT];cases hl:T[i]? with
 | none=>rfl
 | some l=>
  have:=(dP.1 hl).1;simp only [gh];rw [dU aw]
  rfl
def Qo {B:Nat} {t:List C} {T:List (List eK)} (hT:T.length<=8) (O0 O1 O2:Ob):zp B ⟨t,[O0,O1,O2,⟨2,72,48,ox T T.length,0⟩]⟩ ⟨t,O0::O1::O2::mG 4 (T.map wG)⟩:=by
 have e:ox T T.length=T.map fun l=>nS (lP l):=by unfold ox;simp
 have own1:∀ r ∈ T.map fun l=>nS (lP l),∀ c ∈ r,zy c=true:=fun r hr=>by
  obtain ⟨l,_,rfl⟩:=gL.1 hr;have e:(nS (lP l)).all zy=true:=rfl;exact dZ.1 e
 have own2:∀ r ∈ T.map BG,∀ c ∈ r,zy c=true:=fun r hr=>by
  obtain ⟨l,_,rfl⟩:=gL.1 hr;have e:(BG l).all zy=true:=rfl;exact dZ.1 e
 rw [e];refine (zp.Bs (s:=⟨t,[O0,O1,O2,⟨2,72,48,_,0⟩]⟩) 3 rfl own1).trans ?_;refine (zp.Xo (s:=⟨t,[O0,O1,O2,⟨1,0,48,_,0⟩]⟩) 3 (rows':=T.map BG) rfl aj (fun i r r' h h'=>?_) own1 own2).trans ?_
 ·obtain ⟨l,h1,rfl⟩:=gK.1 ((dT ..).symm.trans h);obtain ⟨l',h2,rfl⟩:=gK.1 ((dT ..).symm.trans h');rw [h1] at h2;cases h2
  exact Te l
 ·have w:=zp.LP (B:=B) (s:=⟨t,[O0,O1,O2,⟨1,0,48,T.map BG,0⟩]⟩) 3 47 46 13 (sz0:=0) rfl (fun r hr=>by
   obtain ⟨l,_,rfl⟩:=gL.1 hr
   rfl) own2 8
  have g:∀ i,u5 (T.map wG) i=⟨4,46,13,[],0⟩:=fun i=>by unfold u5;rw [VH];rfl
  show zp B _ ⟨t,[O0,O1,O2,lq 4 (T.map wG),u5 (T.map wG) 0,u5 (T.map wG) 1,u5 (T.map wG) 2,u5 (T.map wG) 3,u5 (T.map wG) 4,u5 (T.map wG) 5,u5 (T.map wG) 6,u5 (T.map wG) 7]⟩;unfold lq;rw [g,g,g,g,g,g,g,g,<- Wa hT];exact w
def FL (X:List eE):∀ k,(qA X k).length<=k
 | 0=>gf _
 | k+1=>by
  have:=FL X k;unfold qA;split
  ·split
   ·omega
   ·simp;omega
  ·omega
def ij (X:List eE) (k:Nat):List (List C):=(qA X k).map fun (n:Nat)=>[I (n:Int)]
def Uc (X:List eE) (k:Nat):(ij X k).length=(qA X k).length:=dV ..
def Ud {X:List eE} {k:Nat} {x:eE} (hx:X[k]?= some x) (ho:o8 x=false):ij X (k+1)=ij X k++[[I k]]:=by
 have:¬x.ops.length<=x.done:=by unfold o8 at ho;simpa using ho
 have e:qA X (k+1)=qA X k++[k]:=by
  show (match X[k]? with | some x=>if x.ops.length<=x.done then qA X k else qA X k++[k] | none=>qA X k)=_;rw [hx];exact dR this
 unfold ij;rw [e,pb]
 rfl
def VO {X:List eE} {k:Nat} {x:eE} (hx:X[k]?= some x) (ho:o8 x=true):ij X (k+1)=ij X k:=by
 have:x.ops.length<=x.done:=by unfold o8 at ho;simpa using ho
 have e:qA X (k+1)=qA X k:=by
  show (match X[k]? with | some x=>if x.ops.length<=x.done then qA X k else qA X k++[k] | none=>qA X k)=_;rw [hx];exact dU this
 unfold ij;rw [e]
def Lr {X:List eE} {b n:Nat} (h:b+8<=n) (hX:X.length<=8):∀ r ∈ X.mapIdx (qm b),∀ c ∈ r,q8 n 9 c=true:=fun r hr=>by
 obtain ⟨i,hi,rfl⟩:=tz.1 hr;exact Ls b i n _ aw
def VX {X:List eE} (hX:X.length<=8):zK [3,4,5,6,7,8,9,10,11] (lq 4 X)=lq 1 X:=by
 have e:(X.mapIdx (qm 4)).map (fun r=>r.map (yf [3,4,5,6,7,8,9,10,11] 9))=X.mapIdx (qm 1):=by
  refine pq fun i=>?_
  rw [dT,pw,pw];cases hx:X[i]? with
  | none=>rfl
  | some x=>
   have:=(dP.1 hx).1;rcases (by omega:i=0∨i=1∨i=2∨i=3∨i=4∨i=5∨i=6∨i=7) with rfl | rfl | rfl | rfl | rfl | rfl | rfl | rfl <;> rfl
 show (⟨1,0,48,(X.mapIdx (qm 4)).map (fun r=>r.map (yf [3,4,5,6,7,8,9,10,11] 9)),0⟩:Ob)=_;rw [e]
def UW {X:List eE} (hX:X.length<=8) (n:Nat):zG (ja [3,4,5,6,7,8,9,10,11] n) (lq 1 X)=lq 4 X:=by
 have e:(X.mapIdx (qm 1)).map (fun r=>r.map (yX (ja [3,4,5,6,7,8,9,10,11] n) 9))=X.mapIdx (qm 4):=by
  refine pq fun i=>?_
  rw [dT,pw,pw];cases hx:X[i]? with
  | none=>rfl
  | some x=>
   have:=(dP.1 hx).1;rcases (by omega:i=0∨i=1∨i=2∨i=3∨i=4∨i=5∨i=6∨i=7) with rfl | rfl | rfl | rfl | rfl | rfl | rfl | rfl <;> rfl
 show (⟨1,0,48,(X.mapIdx (qm 1)).map (fun r=>r.map (yX (ja [3,4,5,6,7,8,9,10,11] n) 9)),0⟩:Ob)=_;rw [e]
def L0 (b:Nat) (X:List eE):∀ r ∈ X.mapIdx (qm b),∀ c ∈ r,zy c=true:=fun r hr=>by
 obtain ⟨i,hi,rfl⟩:=tz.1 hr;exact UB b i _
def S8 (s:eP) (b:Wor × Int) (St:Nat->fJ) (hb:to 16 [] [.agg (qi s)] (.u7 [.agg (zJ b.1),I b.2]) []) (hn:b.2=0->s.threads.length<=8∧s.zS.length<=4000∧∀ p ∈ s.zS,0<=p∧i64 p)
  (h0:St 0=(b.1,s.threads.map wG,[])) (hs:b.2=0->∀ k p,s.zS[k]?= some p->Wr (St k).2.1 (St k).1 (St k).2.2 p (St (k+1))):
  to 7 [] [.agg (qi s)] (.u7 [fZ (if b.2=0 then (St s.zS.length).2.2 else []),.agg (zJ (if b.2=0 then (St s.zS.length).1 else ⟨0,0,0,[],[],[],[],[]⟩)),I b.2]) []:=by
 have m1:(s.threads.map yC).length=s.threads.length:=dV ..;have m2:(s.zS.map encI).length=s.zS.length:=dV ..;refine ab func7 ?_;refine ah hb ?_;refine ⟨fun h1=>?_,fun h1=>?_⟩
 rotate_left
 ·have e0:b.2=0:=by simpa using h1
  obtain ⟨n1,n2,n3⟩:=hn e0;have hs:=hs e0;rw [dU e0,dU e0,e0];refine dd ?_;refine td ?_
  rw [m1];refine ⟨rfl,aw,by show (488:Int) * _<=_;omega,aw,dd ?_⟩;rw [toNat_cast,m1];refine zW.seq s.threads.length (fun k=>(.za::.ref 0 [] 5 0 0:: .za::.ref 1 [] 8 0 0:: .za::.ref 2 [] 8 0 0:: .za::.sl 3 [] 48 0 s.threads.length false:: hZ (hZ (hZ (BB s.threads::I s.threads.length::I k:: .za::hZ (hZ (hZ (hZ (hZ (hZ ([]))))))))))) (fun k=>[⟨1,30,5,[qi s],0⟩,⟨1,37,8,[[I 0,I 0,I 0,.u1 1 0 [],.u1 1 0 [],.u1 1 0 [],.u1 1 0 [],.u1 1 0 []]],0⟩,⟨1,37,8,[zJ (b.1)],0⟩,⟨2,72,48,ox s.threads k,0⟩]) (fun _=>True) ?_ trivial (fun k hk _=>?_) (fun _=>?_)
  ·exact cC
  ·have hg:(s.threads.map yC)[k]?= some (yC s.threads[k]):=by rw [dT,dQ hk];rfl
   conv=>whnf
   refine uF ?_;(refine tf hg ?_)
   refine ⟨aw,by rw [toNat_cast];exact hk,dd ?_⟩;rw [show 0+((k:Int)).toNat=k from aj];refine ⟨_,UJ hk,rfl,dd ?_⟩;refine .inl ⟨rfl,?_,trivial⟩;rw [zu aw,<- Tf hk];exact cC
  ·refine uD ?_;rw [m2];refine zW.seq s.zS.length (fun k=>(.za::.ref 0 [] 5 0 0:: .za::.ref 1 [] 8 0 0:: .za::.ref 2 [] 8 0 0:: .za::.sl 3 [] 48 0 s.threads.length false:: .za::.za::.gl 12 23 ((St k).2.2.map zP):: .za::.za::.za::.za::hZ (hZ (hZ (hZ (lI s.zS::I s.zS.length::I k:: .za::.za::hZ (hZ (hZ (hZ ([])))))))))) (fun k=>⟨1,30,5,[qi s],0⟩::⟨1,37,8,[[I 0,I 0,I 0,.u1 1 0 [],.u1 1 0 [],.u1 1 0 [],.u1 1 0 [],.u1 1 0 []]],0⟩::⟨1,37,8,[zJ ((St k).1)],0⟩::(mG 4 (St k).2.1++[⟨4,48,23,((St k).2.2).map zP,0⟩])) (fun k=>(St k).2.1.length=s.threads.length∧(St k).2.2.length<=k) ?_ (by rw [h0];exact ⟨dV ..,gf _⟩) (fun k hk hr=>?_) (fun hr=>?_)
   ·refine (Qo n1 _ _ _).trans ?_;rw [h0];exact (zp.grow 10 48 23 rfl (.inl rfl)).trans (cC)
   ·have hp:s.zS[k]?= some s.zS[k]:=dQ hk;have hg:(s.zS.map encI)[k]?= some (encI s.zS[k]):=by rw [dT,hp];rfl
    have h1:=hs k s.zS[k] hp;generalize hS:St k=S at *;obtain ⟨w,X,out⟩:=S;obtain ⟨hr,ho⟩:=hr;have hr:X.length=s.threads.length:=hr;have ho:out.length<=k:=ho;have hal:=FL X X.length;conv=>whnf
    refine uF ?_;(refine tf hg ?_)
    rw [<- hr];refine ⟨_,_,OE X 4 false _ _ _ _ _ _ _ _ _ _ _ _ _,uH ?_⟩;refine ⟨_,zp.nK 13 0 3 1 rfl rfl (.inl rfl) rfl rfl,?_⟩
    refine ⟨.normal,_,⟨1,30,5,[qi s],0⟩::⟨1,37,8,[[I 0,I 0,I 0,.u1 1 0 [],.u1 1 0 [],.u1 1 0 [],.u1 1 0 [],.u1 1 0 []]],0⟩::⟨1,37,8,[zJ (w)],0⟩::lq 4 X::u5 X 0::u5 X 1::u5 X 2::u5 X 3::u5 X 4::u5 X 5::u5 X 6::u5 X 7::⟨4,48,23,(out).map zP,0⟩::[⟨1,28,1,[[.gl 15 1 (ij X X.length)]],0⟩,⟨1,63,1,[[.sl 3 [] 48 0 X.length false]],0⟩,⟨4,3,1,ij X X.length,0⟩],
     fun l r h1 h2 h3 h4 h5=>⟨_,_,r,N3 l X 4 false aw _ _ _ _ _ _ _ _ _ _ _ _ (fun k=>⟨1,28,1,[[.gl 15 1 (ij X k)]],0⟩) (fun k=>[⟨4,3,1,ij X k,0⟩,ft l r _]) (fun k x hx ho=>?_) (fun k x hx ho=>?_),
     rfl,aZ,rfl,gF _,ba,zp.drop 16 rfl rfl rfl (zI rfl (zI rfl (zI rfl (zI (qh (Lr (b:=4) ar aw)) rfl))))⟩,?_⟩
    ·refine jy.zT (id:=16) rfl h1 h2 h3 h4 h5 rfl rfl rfl ?_;conv=>whnf
     refine ⟨rfl,rfl,uH ?_⟩;have hkl:=(dP.1 hx).1;have mal:=Uc X k;have al2:=FL X k;refine ⟨rfl,.inr rfl,ay,bb,uH ?_⟩;have e:ij X (k+1)=ij X k++[[I k]]:=Ud hx ho;rw [e];exact cS
    ·have e:ij X (k+1)=ij X k:=VO hx ho;exact ⟨by simp only [e],by simp only [e]⟩
    conv=>whnf
    have hp0:=n3 s.zS[k] (gS hk);have ll:((qA X X.length).map fun (n:Nat)=>(n:Int)).length=(qA X X.length).length:=dV ..;have pk:=QL s.zS[k] ((qA X X.length).map fun (n:Nat)=>(n:Int)) hp0.2 aw;have el:(((qA X X.length).map fun (n:Nat)=>(n:Int)).map encI)=ij X X.length:=by unfold ij;rw [pX];rfl
    unfold lI at pk;rw [el] at pk;have h1:=h1.go;rcases h1 with ⟨ha,hS2⟩ | ⟨t,x,e,ha,hx,hX2,ho2,hst⟩
    ·have ep:yk s.zS[k] ((qA X X.length).map fun (n:Nat)=>(n:Int))=(0,5):=by
      unfold yk;rw [dR aw,dU (by rw [ll];exact rb.2 ha)]
     rw [ep] at pk;refine ⟨_,_,pk.frame rfl _,dd ?_⟩;refine td ?_
     (refine .inr ⟨aj,uH ?_⟩)
     have stay:∀ j,k+j<=s.zS.length->St (k+j)=(w,X,out):=fun j=>by
      induction j with
      | zero=>intro _;exact hS
      | succ j ih=>
       intro hj;have q:=ih aw;have g:=(hs (k+j) _ (dQ aw)).go;rw [q] at g;rcases g with ⟨_,g⟩ | ⟨t,x,e,g,_⟩
       ·exact g
       ·rw [ha] at g;cases g
     have last:=stay (s.zS.length - k) aw;rw [show k+(s.zS.length - k)=s.zS.length from aw] at last;rw [last];refine .inl ⟨⟨false,[1],[2],[]⟩,au,uH ?_⟩;refine tc ?_
     exact uI
    ·have ep:yk s.zS[k] ((qA X X.length).map fun (n:Nat)=>(n:Int))=((t:Int),0):=by
      have hne:(qA X X.length).length≠0:=fun z=>by rw [rb.1 z] at ha;cases ha
      unfold yk;rw [dR aw,dR (by rw [ll];exact hne),ll,dT,ha]
      rfl
     rw [ep] at pk;have pk:to 18 [] [I s.zS[k],.u1 0 1 (ij X X.length)] (.u7 [I (t:Int),I 0]) []:=pk;have htl:=(dP.1 hx).1;refine ⟨_,_,pk.frame rfl _,dd ?_⟩;refine td ?_
     refine .inl ⟨⟨true,[],[],[]⟩,au,uH ?_⟩;refine ⟨aw,by rw [toNat_cast];exact htl,dd ?_⟩;rw [show 0+((t:Int)).toNat=t from aj];have hX8:(St (k+1)).2.1.length<=8:=aw
     generalize hS':St (k+1)=S' at *;obtain ⟨w',X',out'⟩:=S';have hX2:X'.length=X.length:=hX2;have ho2:out'=out++[e]:=ho2;have hst:to 19 (mG 1 X) [.ref 0 [] 48 t 0,.agg (zJ w),I t] (.u7 [.agg (zJ w'),.agg (zP e)]) (mG 1 X'):=hst;refine Go.Wor.zZ [3,4,5,6,7,8,9,10,11] (⟨1,30,5,[qi s],0⟩::⟨1,37,8,[[I 0,I 0,I 0,.u1 1 0 [],.u1 1 0 [],.u1 1 0 [],.u1 1 0 [],.u1 1 0 []]],0⟩::⟨1,37,8,[zJ (w)],0⟩::(mG 4 X'++[⟨4,48,23,(out).map zP,0⟩,⟨1,28,1,[[.gl 15 1 (ij X X.length)]],0⟩,⟨1,63,1,[[.sl 3 [] 48 0 X.length false]],0⟩,⟨4,3,1,ij X X.length,0⟩,⟨1,48,23,[[I 0,I 0,I 0,I 0,I 0,Bo false,I 0,Bo false,Bo false,Bo false,I 0,I 0,I 0,I 0,I 0,I 0,I 0,U 0,U 0,U 0,U 0,U 0,U 0]],0⟩])) (rx:=.u7 [.agg (zJ w'),.agg (zP e)]) hst (zc (zj (L0 1 X')) rfl) (by show zK _ (lq 4 X)::_=_;rw [VX aw];rfl) rfl rfl rfl (zc rfl (zc rfl (zc rfl (zc (zj (L0 4 X)) rfl)))) (by show _::_::_::zG _ (lq 1 X')::_=_;rw [UW aw];rfl) rfl (dd ?_);have mO:(out.map zP).length=out.length:=dV ..;refine ⟨rfl,.inr rfl,by show (out.map zP).length+1<=maxLen;rw [mO];simp [maxLen];omega,by show ((((out.map zP).length+1) * 168:Nat):Nat)<=_;rw [mO];omega,dd ?_⟩;refine .inl ⟨rfl,?_,hX2,by rw [ho2,gW,rk];omega⟩;have eO:out.map zP++[[I e.zg,I e.op,I e.access,I e.cell,I e.version,Bo e.qn,I e.value,Bo e.jf,Bo e.qQ,Bo e.done,I e.answer.kind,I e.answer.version,I e.answer.zi,I e.answer.end_,I e.answer.slot,I e.answer.listen,I e.answer.n,U e.answer.counts.c0,U e.answer.counts.c1,U e.answer.counts.c2,U e.answer.counts.c3,U e.answer.counts.c4,U e.answer.counts.c5]]=out'.map zP:=by rw [ho2,pb];rfl
     rw [zu aw];dsimp only;rw [eO];exact zp.xx 13 hU rfl rfl rfl (zI rfl (zI rfl (zI rfl (zI (qh (Lr (b:=4) ar aw)) rfl)))) rfl
   ·refine uD ?_;refine .inl ⟨⟨false,[1],[2],[]⟩,au,uH ?_⟩;refine tc ?_
    exact uI
 ·have e0:b.2≠0:=by simpa using h1
  rw [dR e0,dR e0];refine dd ?_;refine td ?_
  exact ⟨.inl rfl,_,(zp.var 1 rfl rfl rfl (.cons (.refl _) (.cons (.refl _) (.cons (.refl _) (.cons (WC.nil 0 1) (.cons (WC.nil 0 5) (.cons (WC.nil 0 4) (.cons (WC.nil 0 1) (.cons (WC.nil 0 3) .nil))))))))).trans (zp.grow 2 48 23 rfl (.inl rfl)),rfl⟩
end Go.Ply
