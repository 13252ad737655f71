import Derived.Test.YtgmkpdmnlhoffaaGreatRJ
import Derived.Test.YtgmkpdmnlhoffaaGreatProg
import Derived.Test.YtgmkpdmnlhoffaaGreatR2
import Derived.Test.YtgmkpdmnlhoffaaGreatRW
set_option linter.all false
set_option maxRecDepth 100000
set_option maxHeartbeats 4000000
namespace Go.Ply
open Go.Ab Go.Proofs Go.Hy
theorem xJ {P:Program} {o:Oper} {σ:Operand->Value} {t t':TypeId} {x y:Operand} {k:IntKind} {n m:Int} (ho:o.op=.binOp .rem t x y t') (hx:σ x=.int k n) (hy:σ y=.int k m) (hm:m≠0):
  zbK P (execOp σ o)=some (.value (.int k (n.tmod m))):=by
 have hi:Op.intDiv .rem k n m=pure (.int k (n.tmod m)):=by unfold Op.intDiv;rw [if_neg hm]
 have hg:eqGuard .rem t x y (σ x) (σ y)=pure ():=rfl
 have hb:binOp .rem t (σ x) (σ y)=pure (.int k (n.tmod m)):=by
  rw [hx,hy];simp only [binOp,hi];exact if_neg (by simp)
 unfold execOp;rw [ho];dsimp only;rw [hg,hb]
 rfl
def xM (p:Int) (l:List Int):Int × Int:=if p < 0 then (0,1) else if l.length=0 then (0,5) else ((l[(p % l.length).toNat]?).getD 0,0)
theorem zmi (l:List Int):zb Tryz.prog 85 [] [lI l] (.fn 139 [] [.ref 1 [] 1 0 0,.ref 0 [] 1 0 0]) [⟨1,22,1,[[lI l]],0⟩,⟨1,3,1,[[I (-1)]],0⟩]:=by
 refine zb.zS (fn:=Tryz.f85) Tryz.func85 rfl (uH ?_);exact uJ
theorem zeC (l:List Int) (i:Int) (x:Int) (h0: -1<=i) (h1:i < 1000000000000) (hl:0 < l.length) (hl2:l.length < 1000000000000) (hx:l[((i+1) % l.length).toNat]?= some x):
  zb Tryz.prog 139 [⟨1,22,1,[[lI l]],0⟩,⟨1,3,1,[[I (i)]],0⟩] [.ref 1 [] 1 0 0,.ref 0 [] 1 0 0] (I x) [⟨1,22,1,[[lI l]],0⟩,⟨1,3,1,[[I ((i+1) % l.length)]],0⟩]:=by
 have ml:(l.map encI).length=l.length:=List.length_map ..;have hw:IntKind.i64.wrap (i+1)=i+1:=q0 (by omega) (by omega);have hn:(((l.map encI).length:Nat):Int)≠0:=by omega
 have et:(i+1).tmod (((l.map encI).length:Nat):Int)=(i+1) % l.length:=by rw [ml];exact Int.tmod_eq_emod_of_nonneg (by omega)
 have b0:0<=(i+1) % (l.length:Int):=Int.emod_nonneg _ (by omega);have hg:(l.map encI)[((i+1) % (l.length:Int)).toNat]?= some [I x]:=by rw [List.getElem?_map,hx];rfl
 refine zb.zS (fn:=Tryz.f139) Tryz.func139 rfl (uH ?_);rw [hw];split;(rotate_left;(rename_i hno;exact (hno _ (xJ rfl rfl rfl hn)).elim));(rename_i v e;cases e.symm.trans (xJ rfl rfl rfl hn));refine dd ?_
 rw [et];refine ⟨b0,_,hg,dd ?_⟩;exact uJ
theorem zl7 (p:Int) (l:List Int) (hp:i64 p) (hl:l.length < 1000000000000):zb Tryz.prog 42 [] [I p,lI l] (.tup [I (xM p l).1,I (xM p l).2]) []:=by
 have ml:(l.map encI).length=l.length:=List.length_map ..;refine zb.zp (fn:=Tryz.f42) Tryz.func42 rfl (uH ?_);refine ⟨fun h1=>?_,fun h1=>?_⟩
 ·have h1:p < 0:=by simpa using h1
  have e:xM p l=(0,1):=if_pos h1;rw [e];refine dd ?_;exact uI
 have h1:¬p < 0:=by simpa using h1
 refine dd ?_;rw [ml];refine ⟨fun h2=>?_,fun h2=>?_⟩
 ·have h2:l.length=0:=by have h2:=of_decide_eq_true h2;omega
  have e:xM p l=(0,5):=(if_neg h1).trans (if_pos h2);rw [e];refine dd ?_;exact uI
 have h2:l.length≠0:=by have h2:=of_decide_eq_false h2;omega
 have e:xM p l=((l[(p % l.length).toNat]?).getD 0,0):=(if_neg h1).trans (if_neg h2);rw [e];have b0:0<=p % (l.length:Int):=Int.emod_nonneg _ (by omega);have b1:p % (l.length:Int) < l.length:=Int.emod_lt_of_pos _ (by omega);have at_:∀ k:Nat,k < l.length->l[k]?= some ((l[k]?).getD 0):=fun k hk=>by rw [List.getElem?_eq_getElem hk];rfl
 have r0:=zeC l (-1) ((l[0]?).getD 0) (by decide) (by decide) (by omega) hl (by rw [show (-1+1:Int) % l.length=0 from by rw [show (-1+1:Int)=0 from rfl];exact Int.zero_emod _];exact at_ 0 (by omega));rw [show (-1+1:Int) % l.length=0 from by rw [show (-1+1:Int)=0 from rfl];exact Int.zero_emod _] at r0;refine dd ?_;refine zq [] (zmi l) rfl rfl rfl rfl rfl rfl (dd ?_);refine ⟨_,_,r0,dd ?_⟩;have hn:(((l.map encI).length:Nat):Int)≠0:=by omega
 have et:p.tmod (((l.map encI).length:Nat):Int)=p % l.length:=by rw [ml];exact Int.tmod_eq_emod_of_nonneg (by omega)
 split;(rotate_left;(rename_i hno;exact (hno _ (xJ rfl rfl rfl hn)).elim));(rename_i v e;cases e.symm.trans (xJ rfl rfl rfl hn));refine dd ?_
 rw [et];obtain ⟨N,hN⟩:∃ N:Nat,p % (l.length:Int)=N:=⟨(p % (l.length:Int)).toNat,by omega⟩;rw [hN];rw [hN] at b1;refine qf.seq N (fun k=>(I p::(lI l)::.za::.za::I 0::I 0::.fn 139 [] [.ref 1 [] 1 0 0,.ref 0 [] 1 0 0]::I ((l[k]?).getD 0)::tY ([.za,.za,.za,.za,.za,.za,I (N:Int),I k,.za,.za,.za,.za,.za]))) (fun k=>[⟨1,22,1,[[lI l]],0⟩,⟨1,3,1,[[I ((k:Int))]],0⟩]) (fun k=>True) ?_ trivial (fun k hk hr=>?_) (fun hr=>?_)
 ·exact cC
 ·have r1:=zeC l k ((l[k+1]?).getD 0) (by omega) (by omega) (by omega) hl (by rw [Int.emod_eq_of_lt (by omega) (by omega)];exact at_ (k+1) (by omega));rw [Int.emod_eq_of_lt (by omega) (by omega)] at r1;conv=>whnf
  refine uF ?_;refine ⟨_,_,r1,dd ?_⟩;refine .inl ⟨rfl,?_,trivial⟩;rw [zA (by omega)];exact cC
 ·refine uD ?_;exact uI
end Go.Ply
namespace Go.Ply
open Go.Ab Go.Proofs Go.Hy Go.Wor
abbrev Pst:=Wor × List Thr × List Eve
structure ztE (X:List Thr) (w:Wor) (out:List Eve) (p:Int) (s':Pst):Prop where
 go:(qx X X.length=[]∧s'=(w,X,out))∨∃ (t:Nat) (x:Thr) (e:Eve),(qx X X.length)[(p % (qx X X.length).length).toNat]?= some t∧X[t]?= some x∧s'.2.1.length=X.length∧s'.2.2=out++[e]∧
  zb Tryz.prog 43 (zar 1 X) [.ref 0 [] 48 t 0,.agg (zJ w),I t] (.tup [.agg (zJ s'.1),.agg (zQ e)]) (zar 1 s'.2.1)
def zt2:List C:=[I 0,I 0,I 0,I 0,I 0,I 0,I 0,I 0,I 0,U 0,I 0,I 0,I 0,I 0,Bo false]++j6 ⟨0,0,0,0,0,0,0,⟨0,0,0,0,0,0⟩⟩++zk8 ⟨0,0,0,0,0,0⟩
def zg3 (c:C):List C:=c::I 0::Bo false::([I 0,Tx [],Tx [],Tx [],I 0,I 0,I 0,.lst 1 0 [],.lst 1 0 [],.lst 1 0 []]++zt2++[.lst 1 0 []])
def zdk (T:List (List Opn)) (k:Nat):List (List C):=(T.take k).map (fun l=>zg3 (lP l))++List.replicate (T.length - k) (zg3 (.lst 1 0 []))
theorem zqD {T:List (List Opn)} {k:Nat} (hk:k < T.length):(zdk T k)[k]?= some (zg3 (.lst 1 0 [])):=by
 unfold zdk;have e:((T.take k).map fun l=>zg3 (lP l)).length=k:=by simp;omega
 rw [List.getElem?_append_right (by omega),e,Nat.sub_self,List.getElem?_replicate,if_pos (by omega)]
theorem zoO {T:List (List Opn)} {k:Nat} (hk:k < T.length):(zdk T k).set k (zg3 (lP T[k]))=zdk T (k+1):=by
 unfold zdk;have e:((T.take k).map fun l=>zg3 (lP l)).length=k:=by simp;omega
 have e2:T.length - k=(T.length - (k+1))+1:=by omega
 rw [List.set_append_right _ _ (by omega),e,Nat.sub_self,e2,List.replicate_succ,List.set_cons_zero,List.take_succ_eq_append_getElem hk,List.map_append,List.append_assoc]
 rfl
def zoM (l:List Opn):List C:=lP l::I 0::Bo false::(zD zsy++[.lst 1 0 []])
theorem zoN (l:List Opn):WCs (zg3 (lP l)) (zoM l):=by
 have r:∀ cs:List C,WCs cs cs:=fun cs=>by
  induction cs with
  | nil=>exact .nil
  | cons c cs ih=>exact .cons (.refl _) ih
 exact .cons (.refl _) (.cons (.refl _) (.cons (.refl _) (.cons (.refl _) (.cons (.refl _) (.cons (.refl _) (.cons (.refl _) (.cons (.refl _) (.cons (.refl _) (.cons (.refl _) (.cons (WC.nil 0 1) (.cons (WC.nil 0 4) (.cons (WC.nil 0 4) (r _)))))))))))))
theorem zsU (T:List (List Opn)) (i:Nat):yO (T.map zbi) i=[]:=by
 unfold yO;rw [List.getElem?_map];cases T[i]? with
 | none=>rfl
 | some l=>rfl
theorem ztP {T:List (List Opn)} (hT:T.length<=8):xD 4 47 13 8 (T.map zoM)=(T.map zbi).mapIdx (ql 4):=by
 unfold xD;refine List.ext_getElem? fun i=>?_
 rw [List.getElem?_mapIdx,List.getElem?_mapIdx,List.getElem?_map,List.getElem?_map];cases hl:T[i]? with
 | none=>rfl
 | some l=>
  have:=(List.getElem?_eq_some_iff.1 hl).1;simp only [Option.map_some];rw [if_pos (by omega)]
  rfl
theorem zkR {B:Nat} {t:List C} {T:List (List Opn)} (hT:T.length<=8) (O0 O1 O2:Ob):zo B ⟨t,[O0,O1,O2,⟨2,99,48,zdk T T.length,0⟩]⟩ ⟨t,O0::O1::O2::zar 4 (T.map zbi)⟩:=by
 have e:zdk T T.length=T.map fun l=>zg3 (lP l):=by unfold zdk;simp
 have own1:∀ r ∈ T.map fun l=>zg3 (lP l),∀ c ∈ r,zx c=true:=fun r hr=>by
  obtain ⟨l,_,rfl⟩:=List.mem_map.1 hr;have e:(zg3 (lP l)).all zx=true:=rfl;exact List.all_eq_true.1 e
 have own2:∀ r ∈ T.map zoM,∀ c ∈ r,zx c=true:=fun r hr=>by
  obtain ⟨l,_,rfl⟩:=List.mem_map.1 hr;have e:(zoM l).all zx=true:=rfl;exact List.all_eq_true.1 e
 rw [e];refine (zo.zhy (s:=⟨t,[O0,O1,O2,⟨2,99,48,_,0⟩]⟩) 3 rfl own1).trans ?_;refine (zo.zub (s:=⟨t,[O0,O1,O2,⟨1,0,48,_,0⟩]⟩) 3 (rows':=T.map zoM) rfl (by simp) (fun i r r' h h'=>?_) own1 own2).trans ?_
 ·obtain ⟨l,h1,rfl⟩:=Option.map_eq_some_iff.1 ((List.getElem?_map ..).symm.trans h);obtain ⟨l',h2,rfl⟩:=Option.map_eq_some_iff.1 ((List.getElem?_map ..).symm.trans h');rw [h1] at h2;cases h2
  exact zoN l
 ·have w:=zo.zm0 (B:=B) (s:=⟨t,[O0,O1,O2,⟨1,0,48,T.map zoM,0⟩]⟩) 3 47 57 13 (sz0:=0) rfl (fun r hr=>by
   obtain ⟨l,_,rfl⟩:=List.mem_map.1 hr
   rfl) own2 8
  have g:∀ i,gro (T.map zbi) i=⟨4,57,13,[],0⟩:=fun i=>by unfold gro;rw [zsU];rfl
  show zo B _ ⟨t,[O0,O1,O2,zb5 4 (T.map zbi),gro (T.map zbi) 0,gro (T.map zbi) 1,gro (T.map zbi) 2,gro (T.map zbi) 3,gro (T.map zbi) 4,gro (T.map zbi) 5,gro (T.map zbi) 6,gro (T.map zbi) 7]⟩;unfold zb5;rw [g,g,g,g,g,g,g,g,<- ztP hT];exact w
theorem zdB (X:List Thr):∀ k,(qx X k).length<=k
 | 0=>Nat.le_refl _
 | k+1=>by
  have:=zdB X k;unfold qx;split
  ·split
   ·omega
   ·simp;omega
  ·omega
def alI (X:List Thr) (k:Nat):List (List C):=(qx X k).map fun (n:Nat)=>[I (n:Int)]
theorem zq8 (X:List Thr) (k:Nat):(alI X k).length=(qx X k).length:=List.length_map ..
theorem zq9 {X:List Thr} {k:Nat} {x:Thr} (hx:X[k]?= some x) (ho:zeA x=false):alI X (k+1)=alI X k++[[I k]]:=by
 have:¬x.ops.length<=x.done:=by unfold zeA at ho;simpa using ho
 have e:qx X (k+1)=qx X k++[k]:=by
  show (match X[k]? with | some x=>if x.ops.length<=x.done then qx X k else qx X k++[k] | none=>qx X k)=_;rw [hx];exact if_neg this
 unfold alI;rw [e,List.map_append]
 rfl
theorem zsI {X:List Thr} {k:Nat} {x:Thr} (hx:X[k]?= some x) (ho:zeA x=true):alI X (k+1)=alI X k:=by
 have:x.ops.length<=x.done:=by unfold zeA at ho;simpa using ho
 have e:qx X (k+1)=qx X k:=by
  show (match X[k]? with | some x=>if x.ops.length<=x.done then qx X k else qx X k++[k] | none=>qx X k)=_;rw [hx];exact if_pos this
 unfold alI;rw [e]
theorem zjO {X:List Thr} {b n:Nat} (h:b+8<=n) (hX:X.length<=8):∀ r ∈ X.mapIdx (ql b),∀ c ∈ r,qS n 9 c=true:=fun r hr=>by
 obtain ⟨i,hi,rfl⟩:=List.mem_mapIdx.1 hr;exact zjP b i n _ (by omega)
theorem zsc {X:List Thr} (hX:X.length<=8):zK [3,4,5,6,7,8,9,10,11] (zb5 4 X)=zb5 1 X:=by
 have e:(X.mapIdx (ql 4)).map (fun r=>r.map (xH [3,4,5,6,7,8,9,10,11] 9))=X.mapIdx (ql 1):=by
  refine List.ext_getElem? fun i=>?_
  rw [List.getElem?_map,List.getElem?_mapIdx,List.getElem?_mapIdx];cases hx:X[i]? with
  | none=>rfl
  | some x=>
   have:=(List.getElem?_eq_some_iff.1 hx).1;rcases (by omega:i=0∨i=1∨i=2∨i=3∨i=4∨i=5∨i=6∨i=7) with rfl | rfl | rfl | rfl | rfl | rfl | rfl | rfl <;> rfl
 show (⟨1,0,48,(X.mapIdx (ql 4)).map (fun r=>r.map (xH [3,4,5,6,7,8,9,10,11] 9)),0⟩:Ob)=_;rw [e]
theorem zrC {X:List Thr} (hX:X.length<=8) (n:Nat):zF (qT [3,4,5,6,7,8,9,10,11] n) (zb5 1 X)=zb5 4 X:=by
 have e:(X.mapIdx (ql 1)).map (fun r=>r.map (yx (qT [3,4,5,6,7,8,9,10,11] n) 9))=X.mapIdx (ql 4):=by
  refine List.ext_getElem? fun i=>?_
  rw [List.getElem?_map,List.getElem?_mapIdx,List.getElem?_mapIdx];cases hx:X[i]? with
  | none=>rfl
  | some x=>
   have:=(List.getElem?_eq_some_iff.1 hx).1;rcases (by omega:i=0∨i=1∨i=2∨i=3∨i=4∨i=5∨i=6∨i=7) with rfl | rfl | rfl | rfl | rfl | rfl | rfl | rfl <;> rfl
 show (⟨1,0,48,(X.mapIdx (ql 1)).map (fun r=>r.map (yx (qT [3,4,5,6,7,8,9,10,11] n) 9)),0⟩:Ob)=_;rw [e]
theorem znb (b:Nat) (X:List Thr):∀ r ∈ X.mapIdx (ql b),∀ c ∈ r,zx c=true:=fun r hr=>by
 obtain ⟨i,hi,rfl⟩:=List.mem_mapIdx.1 hr;exact zqm b i _
theorem zoF (s:Scr) (b:Wor × Int) (St:Nat->Pst) (hb:zb Tryz.prog 19 [] [.agg (qH s)] (.tup [.agg (zJ b.1),I b.2]) []) (hn:b.2=0->s.threads.length<=8∧s.zY.length<=4000∧∀ p ∈ s.zY,0<=p∧i64 p)
  (h0:St 0=(b.1,s.threads.map zbi,[])) (hs:b.2=0->∀ k p,s.zY[k]?= some p->ztE (St k).2.1 (St k).1 (St k).2.2 p (St (k+1))):
  zb Tryz.prog 17 [] [.agg (qH s)] (.tup [lEv (if b.2=0 then (St s.zY.length).2.2 else []),.agg (zJ (if b.2=0 then (St s.zY.length).1 else ⟨0,0,0,[],[],[],[],[]⟩)),I b.2]) []:=by
 have m1:(s.threads.map yN).length=s.threads.length:=List.length_map ..;have m2:(s.zY.map encI).length=s.zY.length:=List.length_map ..;refine zb.zp (fn:=Tryz.f17) Tryz.func17 rfl (uH ?_);refine ⟨_,_,(hb).frame rfl _,dd ?_⟩;refine ⟨fun h1=>?_,fun h1=>?_⟩
 rotate_left
 ·have e0:b.2=0:=by simpa using h1
  obtain ⟨n1,n2,n3⟩:=hn e0;have hs:=hs e0;rw [if_pos e0,if_pos e0,e0];refine dd ?_;(repeat refine uC ?_)
  rw [m1];refine ⟨rfl,by omega,by show (488:Int) * _<=_;omega,by omega,dd ?_⟩;rw [toNat_cast,m1];refine qf.seq s.threads.length (fun k=>(.za::.ref 0 [] 5 0 0:: .za::.ref 1 [] 8 0 0:: .za::.ref 2 [] 8 0 0:: .za::.sl 3 [] 48 0 s.threads.length false:: tY (tY (tY (zob s.threads::I s.threads.length::I k:: .za::tY (tY (tY (tY (tY (tY ([]))))))))))) (fun k=>[⟨1,43,5,[qH s],0⟩,⟨1,28,8,[[I 0,I 0,I 0,.lst 1 0 [],.lst 1 0 [],.lst 1 0 [],.lst 1 0 [],.lst 1 0 []]],0⟩,⟨1,28,8,[zJ (b.1)],0⟩,⟨2,99,48,zdk s.threads k,0⟩]) (fun _=>True) ?_ trivial (fun k hk _=>?_) (fun _=>?_)
  ·exact cC
  ·have hg:(s.threads.map yN)[k]?= some (yN s.threads[k]):=by rw [List.getElem?_map,List.getElem?_eq_getElem hk];rfl
   conv=>whnf
   refine uF ?_;(refine ⟨by omega,_,by rw [toNat_cast];exact hg,dd ?_⟩)
   refine ⟨by omega,by rw [toNat_cast];exact hk,dd ?_⟩;rw [show 0+((k:Int)).toNat=k from by simp];refine ⟨_,zqD hk,rfl,dd ?_⟩;refine .inl ⟨rfl,?_,trivial⟩;rw [zA (by omega),<- zoO hk];exact cC
  ·refine uD ?_;rw [m2];refine qf.seq s.zY.length (fun k=>(.za::.ref 0 [] 5 0 0:: .za::.ref 1 [] 8 0 0:: .za::.ref 2 [] 8 0 0:: .za::.sl 3 [] 48 0 s.threads.length false:: .za::.za::.gl 12 23 ((St k).2.2.map zQ):: .za::.za::.za::.za::tY (tY (tY (tY (lI s.zY::I s.zY.length::I k:: .za::.za::tY (tY (tY (tY ([])))))))))) (fun k=>⟨1,43,5,[qH s],0⟩::⟨1,28,8,[[I 0,I 0,I 0,.lst 1 0 [],.lst 1 0 [],.lst 1 0 [],.lst 1 0 [],.lst 1 0 []]],0⟩::⟨1,28,8,[zJ ((St k).1)],0⟩::(zar 4 (St k).2.1++[⟨4,62,23,((St k).2.2).map zQ,0⟩])) (fun k=>(St k).2.1.length=s.threads.length∧(St k).2.2.length<=k) ?_ (by rw [h0];exact ⟨List.length_map ..,Nat.le_refl _⟩) (fun k hk hr=>?_) (fun hr=>?_)
   ·refine (zkR n1 _ _ _).trans ?_;rw [h0];exact (zo.grow 10 62 23 rfl (.inl rfl)).trans (cC)
   ·have hp:s.zY[k]?= some s.zY[k]:=List.getElem?_eq_getElem hk;have hg:(s.zY.map encI)[k]?= some (encI s.zY[k]):=by rw [List.getElem?_map,hp];rfl
    have h1:=hs k s.zY[k] hp;generalize hS:St k=S at *;obtain ⟨w,X,out⟩:=S;obtain ⟨hr,ho⟩:=hr;have hr:X.length=s.threads.length:=hr;have ho:out.length<=k:=ho;have hal:=zdB X X.length;conv=>whnf
    refine uF ?_;(refine ⟨by omega,_,by rw [toNat_cast];exact hg,dd ?_⟩)
    rw [<- hr];refine ⟨_,_,ziB X 4 false _ _ _ _ _ _ _ _ _ _ _ _ _,uH ?_⟩;refine ⟨_,zo.zbS 13 0 3 1 rfl rfl (.inl rfl) rfl rfl,?_⟩
    refine ⟨.normal,_,⟨1,43,5,[qH s],0⟩::⟨1,28,8,[[I 0,I 0,I 0,.lst 1 0 [],.lst 1 0 [],.lst 1 0 [],.lst 1 0 [],.lst 1 0 []]],0⟩::⟨1,28,8,[zJ (w)],0⟩::zb5 4 X::gro X 0::gro X 1::gro X 2::gro X 3::gro X 4::gro X 5::gro X 6::gro X 7::⟨4,62,23,(out).map zQ,0⟩::[⟨1,22,1,[[.gl 15 1 (alI X X.length)]],0⟩,⟨1,93,1,[[.sl 3 [] 48 0 X.length false]],0⟩,⟨4,3,1,alI X X.length,0⟩],
     fun l r h1 h2 h3 h4 h5=>⟨_,_,r,zgY l X 4 false (by omega) _ _ _ _ _ _ _ _ _ _ _ _ (fun k=>⟨1,22,1,[[.gl 15 1 (alI X k)]],0⟩) (fun k=>[⟨4,3,1,alI X k,0⟩,obR l r _]) (fun k x hx ho=>?_) (fun k x hx ho=>?_),
     rfl,by rw [h1];decide,rfl,Nat.zero_le _,by rw [h2];trivial,zo.drop 16 rfl rfl rfl (zH rfl (zH rfl (zH rfl (zH (qc (zjO (b:=4) (by decide) (by omega))) rfl))))⟩,?_⟩
    ·refine jh.zS (id:=16) rfl h1 h2 h3 h4 h5 rfl rfl rfl ?_;conv=>whnf
     refine ⟨rfl,rfl,uH ?_⟩;have hkl:=(List.getElem?_eq_some_iff.1 hx).1;have mal:=zq8 X k;have al2:=zdB X k;refine ⟨rfl,.inr rfl,by simp [maxLen];omega,by show _ * 8<=_;simp;omega,uH ?_⟩;have e:alI X (k+1)=alI X k++[[I k]]:=zq9 hx ho;rw [e];exact ⟨_,_,.refl _,rfl,.inl ⟨rfl,rfl,rfl⟩⟩
    ·have e:alI X (k+1)=alI X k:=zsI hx ho;exact ⟨by simp only [e],by simp only [e]⟩
    conv=>whnf
    have hp0:=n3 s.zY[k] (List.getElem_mem hk);have ll:((qx X X.length).map fun (n:Nat)=>(n:Int)).length=(qx X X.length).length:=List.length_map ..;have pk:=zl7 s.zY[k] ((qx X X.length).map fun (n:Nat)=>(n:Int)) hp0.2 (by omega);have el:(((qx X X.length).map fun (n:Nat)=>(n:Int)).map encI)=alI X X.length:=by unfold alI;rw [List.map_map];rfl
    unfold lI at pk;rw [el] at pk;have h1:=h1.go;rcases h1 with ⟨ha,hS2⟩ | ⟨t,x,e,ha,hx,hX2,ho2,hst⟩
    ·have ep:xM s.zY[k] ((qx X X.length).map fun (n:Nat)=>(n:Int))=(0,5):=by
      unfold xM;rw [if_neg (by omega),if_pos (by rw [ll];exact List.length_eq_zero_iff.2 ha)]
     rw [ep] at pk;refine ⟨_,_,pk.frame rfl _,dd ?_⟩;(repeat refine uC ?_)
     (refine .inr ⟨by simp,uH ?_⟩)
     have stay:∀ j,k+j<=s.zY.length->St (k+j)=(w,X,out):=fun j=>by
      induction j with
      | zero=>intro _;exact hS
      | succ j ih=>
       intro hj;have q:=ih (by omega);have g:=(hs (k+j) _ (List.getElem?_eq_getElem (by omega))).go;rw [q] at g;rcases g with ⟨_,g⟩ | ⟨t,x,e,g,_⟩
       ·exact g
       ·rw [ha] at g;cases g
     have last:=stay (s.zY.length - k) (by omega);rw [show k+(s.zY.length - k)=s.zY.length from by omega] at last;rw [last];refine .inl ⟨⟨false,[1],[2],[]⟩,by kernel_rfl,uH ?_⟩;(repeat (refine ⟨rfl,uH ?_⟩))
     exact uI
    ·have ep:xM s.zY[k] ((qx X X.length).map fun (n:Nat)=>(n:Int))=((t:Int),0):=by
      have hne:(qx X X.length).length≠0:=fun z=>by rw [List.length_eq_zero_iff.1 z] at ha;cases ha
      unfold xM;rw [if_neg (by omega),if_neg (by rw [ll];exact hne),ll,List.getElem?_map,ha]
      rfl
     rw [ep] at pk;have pk:zb Tryz.prog 42 [] [I s.zY[k],.lst 0 1 (alI X X.length)] (.tup [I (t:Int),I 0]) []:=pk;have htl:=(List.getElem?_eq_some_iff.1 hx).1;refine ⟨_,_,pk.frame rfl _,dd ?_⟩;(repeat refine uC ?_)
     refine .inl ⟨⟨true,[],[],[]⟩,by kernel_rfl,uH ?_⟩;refine ⟨by omega,by rw [toNat_cast];exact htl,dd ?_⟩;rw [show 0+((t:Int)).toNat=t from by simp];have hX8:(St (k+1)).2.1.length<=8:=by omega
     generalize hS':St (k+1)=S' at *;obtain ⟨w',X',out'⟩:=S';have hX2:X'.length=X.length:=hX2;have ho2:out'=out++[e]:=ho2;have hst:zb Tryz.prog 43 (zar 1 X) [.ref 0 [] 48 t 0,.agg (zJ w),I t] (.tup [.agg (zJ w'),.agg (zQ e)]) (zar 1 X'):=hst;refine Go.Wor.zV [3,4,5,6,7,8,9,10,11] (⟨1,43,5,[qH s],0⟩::⟨1,28,8,[[I 0,I 0,I 0,.lst 1 0 [],.lst 1 0 [],.lst 1 0 [],.lst 1 0 [],.lst 1 0 []]],0⟩::⟨1,28,8,[zJ (w)],0⟩::(zar 4 X'++[⟨4,62,23,(out).map zQ,0⟩,⟨1,22,1,[[.gl 15 1 (alI X X.length)]],0⟩,⟨1,93,1,[[.sl 3 [] 48 0 X.length false]],0⟩,⟨4,3,1,alI X X.length,0⟩,⟨1,62,23,[[I 0,I 0,I 0,I 0,I 0,Bo false,I 0,Bo false,Bo false,Bo false,I 0,I 0,I 0,I 0,I 0,I 0,I 0,U 0,U 0,U 0,U 0,U 0,U 0]],0⟩])) (rx:=.tup [.agg (zJ w'),.agg (zQ e)]) hst (zc (zi (znb 1 X')) rfl) (by show zK _ (zb5 4 X)::_=_;rw [zsc (by omega)];rfl) rfl rfl rfl (zc rfl (zc rfl (zc rfl (zc (zi (znb 4 X)) rfl)))) (by show _::_::_::zF _ (zb5 1 X')::_=_;rw [zrC (by omega)];rfl) rfl (dd ?_);have mO:(out.map zQ).length=out.length:=List.length_map ..;refine ⟨rfl,.inr rfl,by show (out.map zQ).length+1<=maxLen;rw [mO];simp [maxLen];omega,by show ((((out.map zQ).length+1) * 168:Nat):Nat)<=_;rw [mO];omega,dd ?_⟩;refine .inl ⟨rfl,?_,hX2,by rw [ho2,List.length_append,List.length_singleton];omega⟩;have eO:out.map zQ++[[I e.zj,I e.op,I e.access,I e.cell,I e.version,Bo e.qj,I e.value,Bo e.ym,Bo e.jq,Bo e.done,I e.answer.kind,I e.answer.version,I e.answer.zf,I e.answer.end_,I e.answer.slot,I e.answer.listen,I e.answer.n,U e.answer.counts.c0,U e.answer.counts.c1,U e.answer.counts.c2,U e.answer.counts.c3,U e.answer.counts.c4,U e.answer.counts.c5]]=out'.map zQ:=by rw [ho2,List.map_append];rfl
     rw [zA (by omega)];dsimp only;rw [eO];exact zo.xa 13 (by (conv=>whnf);(repeat (refine ⟨rfl,uH ?_⟩));exact trivial) rfl rfl rfl (zH rfl (zH rfl (zH rfl (zH (qc (zjO (b:=4) (by decide) (by omega))) rfl)))) rfl
   ·refine uD ?_;refine .inl ⟨⟨false,[1],[2],[]⟩,by kernel_rfl,uH ?_⟩;(repeat (refine ⟨rfl,uH ?_⟩))
    exact uI
 ·have e0:b.2≠0:=by simpa using h1
  rw [if_neg e0,if_neg e0];refine dd ?_;(repeat refine uC ?_)
  exact ⟨.inl rfl,_,(zo.var 1 rfl rfl rfl (.cons (.refl _) (.cons (.refl _) (.cons (.refl _) (.cons (WC.nil 0 1) (.cons (WC.nil 0 5) (.cons (WC.nil 0 4) (.cons (WC.nil 0 1) (.cons (WC.nil 0 3) .nil))))))))).trans (zo.grow 2 62 23 rfl (.inl rfl)),rfl⟩
end Go.Ply
