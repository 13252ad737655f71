import Derived.Test.YtkbnjgogjccmfaaGreatTJ
import Derived.Test.YtkbnjgogjccmfaaGreatProg
import Derived.Test.YtkbnjgogjccmfaaGreatT2
import Derived.Test.YtkbnjgogjccmfaaGreatTW
set_option linter.all false
set_option maxRecDepth 100000
set_option maxHeartbeats 4000000
namespace Go.Ply
open Go.Ab Go.Proofs Tryz Go.Hy
def yd {P:Program} {o:Oper} {σ:Operand->Value} {t t':TypeId} {x y:Operand} {k:IntKind} {n m:Int} (ho:o.op=.binOp .rem t x y t') (hx:σ x=.int k n) (hy:σ y=.int k m) (hm:m≠0):
  iK P (execOp σ o)=some (.value (.int k (n.tmod m))):=by
 have hi:Op.intDiv .rem k n m=pure (.int k (n.tmod m)):=by unfold Op.intDiv;rw [dN hm]
 have hg:eqGuard .rem t x y (σ x) (σ y)=pure ():=rfl
 have hb:binOp .rem t (σ x) (σ y)=pure (.int k (n.tmod m)):=by
  rw [hx,hy];simp only [binOp,hi];exact dN aj
 unfold execOp;rw [ho];dsimp only;rw [hg,hb]
 rfl
def yg (p:Int) (l:List Int):Int × Int:=if p < 0 then (0,1) else if l.length=0 then (0,5) else ((l[(p % l.length).toNat]?).getD 0,0)
def Qx (l:List Int):tn 45 [] [lI l] (.fn 69 [] [.ref 1 [] 1 0 0,.ref 0 [] 1 0 0]) [⟨1,28,1,[[lI l]],0⟩,⟨1,3,1,[[I (-1)]],0⟩]:=by
 refine zb.zU (fn:=f45) func45 rfl (uH ?_);exact uJ
def I3 (l:List Int) (i:Int) (x:Int) (h0: -1<=i) (h1:i < 1000000000000) (hl:0 < l.length) (hl2:l.length < 1000000000000) (hx:l[((i+1) % l.length).toNat]?= some x):
  tn 69 [⟨1,28,1,[[lI l]],0⟩,⟨1,3,1,[[I (i)]],0⟩] [.ref 1 [] 1 0 0,.ref 0 [] 1 0 0] (I x) [⟨1,28,1,[[lI l]],0⟩,⟨1,3,1,[[I ((i+1) % l.length)]],0⟩]:=by
 have ml:(l.map encI).length=l.length:=dR ..;have hw:IntKind.i64.wrap (i+1)=i+1:=q9 aw aw;have hn:(((l.map encI).length:Nat):Int)≠0:=aw
 have et:(i+1).tmod (((l.map encI).length:Nat):Int)=(i+1) % l.length:=by rw [ml];exact rK aw
 have b0:0<=(i+1) % (l.length:Int):=rV _ aw;have hg:(l.map encI)[((i+1) % (l.length:Int)).toNat]?= some [I x]:=by rw [dP,hx];rfl
 refine zb.zU (fn:=f69) func69 rfl (uH ?_);rw [hw];split;(rotate_left;(rename_i hno;exact (hno _ (yd rfl rfl rfl hn)).elim));(rename_i v e;cases e.symm.trans (yd rfl rfl rfl hn));refine dd ?_
 rw [et];refine ⟨b0,_,hg,dd ?_⟩;exact uJ
def Qq (p:Int) (l:List Int) (hp:i64 p) (hl:l.length < 1000000000000):tn 18 [] [I p,lI l] (.u1 [I (yg p l).1,I (yg p l).2]) []:=by
 have ml:(l.map encI).length=l.length:=dR ..;refine ab func18 ?_;refine ⟨fun h1=>?_,fun h1=>?_⟩
 ·have h1:p < 0:=by simpa using h1
  have e:yg p l=(0,1):=dQ h1;rw [e];exact df
 have h1:¬p < 0:=aq h1
 refine dd ?_;rw [ml];refine ⟨fun h2=>?_,fun h2=>?_⟩
 ·have h2:l.length=0:=by have h2:=gK h2;omega
  have e:yg p l=(0,5):=(dN h1).trans (dQ h2);rw [e];exact df
 have h2:l.length≠0:=by have h2:=pF h2;omega
 have e:yg p l=((l[(p % l.length).toNat]?).getD 0,0):=(dN h1).trans (dN h2);rw [e];have b0:0<=p % (l.length:Int):=rV _ aw;have b1:p % (l.length:Int) < l.length:=rW _ aw;have at_:∀ k:Nat,k < l.length->l[k]?= some ((l[k]?).getD 0):=fun k hk=>by rw [dM hk];rfl
 have r0:=I3 l (-1) ((l[0]?).getD 0) ar ar aw hl (by rw [show (-1+1:Int) % l.length=0 from by rw [show (-1+1:Int)=0 from rfl];exact Int.zero_emod _];exact at_ 0 aw);rw [show (-1+1:Int) % l.length=0 from by rw [show (-1+1:Int)=0 from rfl];exact Int.zero_emod _] at r0;refine dd ?_;refine af [] (Qx l) ?_;refine ⟨_,_,r0,dd ?_⟩;have hn:(((l.map encI).length:Nat):Int)≠0:=aw
 have et:p.tmod (((l.map encI).length:Nat):Int)=p % l.length:=by rw [ml];exact rK aw
 split;(rotate_left;(rename_i hno;exact (hno _ (yd rfl rfl rfl hn)).elim));(rename_i v e;cases e.symm.trans (yd rfl rfl rfl hn));refine dd ?_
 rw [et];obtain ⟨N,hN⟩:∃ N:Nat,p % (l.length:Int)=N:=⟨(p % (l.length:Int)).toNat,aw⟩;rw [hN];rw [hN] at b1;refine zZ.seq N (fun k=>(I p::(lI l)::.za::.za::I 0::I 0::.fn 69 [] [.ref 1 [] 1 0 0,.ref 0 [] 1 0 0]::I ((l[k]?).getD 0)::tZ ([.za,.za,.za,.za,.za,.za,I (N:Int),I k,.za,.za,.za,.za,.za]))) (fun k=>[⟨1,28,1,[[lI l]],0⟩,⟨1,3,1,[[I ((k:Int))]],0⟩]) (fun k=>True) ?_ trivial (fun k hk hr=>?_) (fun hr=>?_)
 ·exact cC
 ·have r1:=I3 l k ((l[k+1]?).getD 0) aw aw aw hl (by rw [Int.emod_eq_of_lt aw aw];exact at_ (k+1) aw);rw [Int.emod_eq_of_lt aw aw] at r1;conv=>whnf
  refine uF ?_;refine ⟨_,_,r1,dd ?_⟩;exact dF
 ·refine uD ?_;exact uI
end Go.Ply
namespace Go.Ply
open Go.Ab Go.Proofs Tryz Go.Hy Go.Wor
abbrev fx:=Wor × List ej × List uz
structure WB (X:List ej) (w:Wor) (out:List uz) (p:Int) (s':fx):Prop where
 go:(qy X X.length=[]∧s'=(w,X,out))∨∃ (t:Nat) (x:ej) (e:uz),(qy X X.length)[(p % (qy X X.length).length).toNat]?= some t∧X[t]?= some x∧s'.2.1.length=X.length∧s'.2.2=out++[e]∧
  tn 19 (mu 1 X) [.ref 0 [] 48 t 0,.agg (zJ w),I t] (.u1 [.agg (zJ s'.1),.agg (zR e)]) (mu 1 s'.2.1)
def Wg:List C:=[I 0,I 0,I 0,I 0,I 0,I 0,I 0,I 0,I 0,U 0,I 0,I 0,I 0,I 0,Bo false]++xz ⟨0,0,0,0,0,0,0,⟨0,0,0,0,0,0⟩⟩++Ar ⟨0,0,0,0,0,0⟩
def nG (c:C):List C:=c::I 0::Bo false::([I 0,Tx [],Tx [],Tx [],I 0,I 0,I 0,.uv 1 0 [],.uv 1 0 [],.uv 1 0 []]++Wg++[.uv 1 0 []])
def nZ (T:List (List eD)) (k:Nat):List (List C):=(T.take k).map (fun l=>nG (lP l))++List.replicate (T.length - k) (nG (.uv 1 0 []))
def Ut {T:List (List eD)} {k:Nat} (hk:k < T.length):(nZ T k)[k]?= some (nG (.uv 1 0 [])):=by
 unfold nZ;have e:((T.take k).map fun l=>nG (lP l)).length=k:=aA
 rw [gj aw,e,rb,rT,dQ aw]
def SV {T:List (List eD)} {k:Nat} (hk:k < T.length):(nZ T k).set k (nG (lP T[k]))=nZ T (k+1):=by
 unfold nZ;have e:((T.take k).map fun l=>nG (lP l)).length=k:=aA
 have e2:T.length - k=(T.length - (k+1))+1:=aw
 rw [sX _ _ aw,e,rb,e2,rR,sH,px hk,pB,pQ]
 rfl
def Bv (l:List eD):List C:=lP l::I 0::Bo false::(zD Mj++[.uv 1 0 []])
def SU (l:List eD):fJ (nG (lP l)) (Bv l):=by
 have r:∀ cs:List C,fJ cs cs:=fun cs=>by
  induction cs with
  | nil=>exact .nil
  | cons c cs ih=>exact .cons (.refl _) ih
 exact .cons (.refl _) (.cons (.refl _) (.cons (.refl _) (.cons (.refl _) (.cons (.refl _) (.cons (.refl _) (.cons (.refl _) (.cons (.refl _) (.cons (.refl _) (.cons (.refl _) (.cons (WC.nil 0 1) (.cons (WC.nil 0 4) (.cons (WC.nil 0 4) (r _)))))))))))))
def Vz (T:List (List eD)) (i:Nat):vc (T.map fT) i=[]:=by
 unfold vc;rw [dP];cases T[i]? with
 | none=>rfl
 | some l=>rfl
def V8 {T:List (List eD)} (hT:T.length<=8):xX 4 47 13 8 (T.map Bv)=(T.map fT).mapIdx (ql 4):=by
 unfold xX;refine g9 fun i=>?_
 rw [pb,pb,dP,dP];cases hl:T[i]? with
 | none=>rfl
 | some l=>
  have:=(dL.1 hl).1;simp only [dX];rw [dQ aw]
  rfl
def P1 {B:Nat} {t:List C} {T:List (List eD)} (hT:T.length<=8) (O0 O1 O2:Ob):zo B ⟨t,[O0,O1,O2,⟨2,72,48,nZ T T.length,0⟩]⟩ ⟨t,O0::O1::O2::mu 4 (T.map fT)⟩:=by
 have e:nZ T T.length=T.map fun l=>nG (lP l):=by unfold nZ;simp
 have own1:∀ r ∈ T.map fun l=>nG (lP l),∀ c ∈ r,zy c=true:=fun r hr=>by
  obtain ⟨l,_,rfl⟩:=gG.1 hr;have e:(nG (lP l)).all zy=true:=rfl;exact dV.1 e
 have own2:∀ r ∈ T.map Bv,∀ c ∈ r,zy c=true:=fun r hr=>by
  obtain ⟨l,_,rfl⟩:=gG.1 hr;have e:(Bv l).all zy=true:=rfl;exact dV.1 e
 rw [e];refine (zo.Bf (s:=⟨t,[O0,O1,O2,⟨2,72,48,_,0⟩]⟩) 3 rfl own1).trans ?_;refine (zo.V2 (s:=⟨t,[O0,O1,O2,⟨1,0,48,_,0⟩]⟩) 3 (rows':=T.map Bv) rfl aj (fun i r r' h h'=>?_) own1 own2).trans ?_
 ·obtain ⟨l,h1,rfl⟩:=gD.1 ((dP ..).symm.trans h);obtain ⟨l',h2,rfl⟩:=gD.1 ((dP ..).symm.trans h');rw [h1] at h2;cases h2
  exact SU l
 ·have w:=zo.LA (B:=B) (s:=⟨t,[O0,O1,O2,⟨1,0,48,T.map Bv,0⟩]⟩) 3 47 46 13 (sz0:=0) rfl (fun r hr=>by
   obtain ⟨l,_,rfl⟩:=gG.1 hr
   rfl) own2 8
  have g:∀ i,uy (T.map fT) i=⟨4,46,13,[],0⟩:=fun i=>by unfold uy;rw [Vz];rfl
  show zo B _ ⟨t,[O0,O1,O2,iV 4 (T.map fT),uy (T.map fT) 0,uy (T.map fT) 1,uy (T.map fT) 2,uy (T.map fT) 3,uy (T.map fT) 4,uy (T.map fT) 5,uy (T.map fT) 6,uy (T.map fT) 7]⟩;unfold iV;rw [g,g,g,g,g,g,g,g,<- V8 hT];exact w
def Fu (X:List ej):∀ k,(qy X k).length<=k
 | 0=>dW _
 | k+1=>by
  have:=Fu X k;unfold qy;split
  ·split
   ·omega
   ·simp;omega
  ·omega
def fU (X:List ej) (k:Nat):List (List C):=(qy X k).map fun (n:Nat)=>[I (n:Int)]
def T6 (X:List ej) (k:Nat):(fU X k).length=(qy X k).length:=dR ..
def T7 {X:List ej} {k:Nat} {x:ej} (hx:X[k]?= some x) (ho:oU x=false):fU X (k+1)=fU X k++[[I k]]:=by
 have:¬x.ops.length<=x.done:=by unfold oU at ho;simpa using ho
 have e:qy X (k+1)=qy X k++[k]:=by
  show (match X[k]? with | some x=>if x.ops.length<=x.done then qy X k else qy X k++[k] | none=>qy X k)=_;rw [hx];exact dN this
 unfold fU;rw [e,pB]
 rfl
def VT {X:List ej} {k:Nat} {x:ej} (hx:X[k]?= some x) (ho:oU x=true):fU X (k+1)=fU X k:=by
 have:x.ops.length<=x.done:=by unfold oU at ho;simpa using ho
 have e:qy X (k+1)=qy X k:=by
  show (match X[k]? with | some x=>if x.ops.length<=x.done then qy X k else qy X k++[k] | none=>qy X k)=_;rw [hx];exact dQ this
 unfold fU;rw [e]
def Kt {X:List ej} {b n:Nat} (h:b+8<=n) (hX:X.length<=8):∀ r ∈ X.mapIdx (ql b),∀ c ∈ r,qY n 9 c=true:=fun r hr=>by
 obtain ⟨i,hi,rfl⟩:=tq.1 hr;exact Ku b i n _ aw
def UQ {X:List ej} (hX:X.length<=8):zK [3,4,5,6,7,8,9,10,11] (iV 4 X)=iV 1 X:=by
 have e:(X.mapIdx (ql 4)).map (fun r=>r.map (x9 [3,4,5,6,7,8,9,10,11] 9))=X.mapIdx (ql 1):=by
  refine g9 fun i=>?_
  rw [dP,pb,pb];cases hx:X[i]? with
  | none=>rfl
  | some x=>
   have:=(dL.1 hx).1;rcases (by omega:i=0∨i=1∨i=2∨i=3∨i=4∨i=5∨i=6∨i=7) with rfl | rfl | rfl | rfl | rfl | rfl | rfl | rfl <;> rfl
 show (⟨1,0,48,(X.mapIdx (ql 4)).map (fun r=>r.map (x9 [3,4,5,6,7,8,9,10,11] 9)),0⟩:Ob)=_;rw [e]
def U5 {X:List ej} (hX:X.length<=8) (n:Nat):zG (qZ [3,4,5,6,7,8,9,10,11] n) (iV 1 X)=iV 4 X:=by
 have e:(X.mapIdx (ql 1)).map (fun r=>r.map (yQ (qZ [3,4,5,6,7,8,9,10,11] n) 9))=X.mapIdx (ql 4):=by
  refine g9 fun i=>?_
  rw [dP,pb,pb];cases hx:X[i]? with
  | none=>rfl
  | some x=>
   have:=(dL.1 hx).1;rcases (by omega:i=0∨i=1∨i=2∨i=3∨i=4∨i=5∨i=6∨i=7) with rfl | rfl | rfl | rfl | rfl | rfl | rfl | rfl <;> rfl
 show (⟨1,0,48,(X.mapIdx (ql 1)).map (fun r=>r.map (yQ (qZ [3,4,5,6,7,8,9,10,11] n) 9)),0⟩:Ob)=_;rw [e]
def Lg (b:Nat) (X:List ej):∀ r ∈ X.mapIdx (ql b),∀ c ∈ r,zy c=true:=fun r hr=>by
 obtain ⟨i,hi,rfl⟩:=tq.1 hr;exact Tp b i _
def Rz (s:eF) (b:Wor × Int) (St:Nat->fx) (hb:tn 16 [] [.agg (qv s)] (.u1 [.agg (zJ b.1),I b.2]) []) (hn:b.2=0->s.threads.length<=8∧s.zT.length<=4000∧∀ p ∈ s.zT,0<=p∧i64 p)
  (h0:St 0=(b.1,s.threads.map fT,[])) (hs:b.2=0->∀ k p,s.zT[k]?= some p->WB (St k).2.1 (St k).1 (St k).2.2 p (St (k+1))):
  tn 7 [] [.agg (qv s)] (.u1 [fV (if b.2=0 then (St s.zT.length).2.2 else []),.agg (zJ (if b.2=0 then (St s.zT.length).1 else ⟨0,0,0,[],[],[],[],[]⟩)),I b.2]) []:=by
 have m1:(s.threads.map xi).length=s.threads.length:=dR ..;have m2:(s.zT.map encI).length=s.zT.length:=dR ..;refine ab func7 ?_;refine ah hb ?_;refine ⟨fun h1=>?_,fun h1=>?_⟩
 rotate_left
 ·have e0:b.2=0:=by simpa using h1
  obtain ⟨n1,n2,n3⟩:=hn e0;have hs:=hs e0;rw [dQ e0,dQ e0,e0];refine dd ?_;refine tc ?_
  rw [m1];refine ⟨rfl,aw,by show (488:Int) * _<=_;omega,aw,dd ?_⟩;rw [toNat_cast,m1];refine zZ.seq s.threads.length (fun k=>(.za::.ref 0 [] 5 0 0:: .za::.ref 1 [] 8 0 0:: .za::.ref 2 [] 8 0 0:: .za::.sl 3 [] 48 0 s.threads.length false:: tZ (tZ (tZ (Bp s.threads::I s.threads.length::I k:: .za::tZ (tZ (tZ (tZ (tZ (tZ ([]))))))))))) (fun k=>[⟨1,30,5,[qv s],0⟩,⟨1,37,8,[[I 0,I 0,I 0,.uv 1 0 [],.uv 1 0 [],.uv 1 0 [],.uv 1 0 [],.uv 1 0 []]],0⟩,⟨1,37,8,[zJ (b.1)],0⟩,⟨2,72,48,nZ s.threads k,0⟩]) (fun _=>True) ?_ trivial (fun k hk _=>?_) (fun _=>?_)
  ·exact cC
  ·have hg:(s.threads.map xi)[k]?= some (xi s.threads[k]):=by rw [dP,dM hk];rfl
   conv=>whnf
   refine uF ?_;(refine td hg ?_)
   refine ⟨aw,by rw [toNat_cast];exact hk,dd ?_⟩;rw [show 0+((k:Int)).toNat=k from aj];refine ⟨_,Ut hk,rfl,dd ?_⟩;refine .inl ⟨rfl,?_,trivial⟩;rw [zu aw,<- SV hk];exact cC
  ·refine uD ?_;rw [m2];refine zZ.seq s.zT.length (fun k=>(.za::.ref 0 [] 5 0 0:: .za::.ref 1 [] 8 0 0:: .za::.ref 2 [] 8 0 0:: .za::.sl 3 [] 48 0 s.threads.length false:: .za::.za::.gl 12 23 ((St k).2.2.map zR):: .za::.za::.za::.za::tZ (tZ (tZ (tZ (lI s.zT::I s.zT.length::I k:: .za::.za::tZ (tZ (tZ (tZ ([])))))))))) (fun k=>⟨1,30,5,[qv s],0⟩::⟨1,37,8,[[I 0,I 0,I 0,.uv 1 0 [],.uv 1 0 [],.uv 1 0 [],.uv 1 0 [],.uv 1 0 []]],0⟩::⟨1,37,8,[zJ ((St k).1)],0⟩::(mu 4 (St k).2.1++[⟨4,48,23,((St k).2.2).map zR,0⟩])) (fun k=>(St k).2.1.length=s.threads.length∧(St k).2.2.length<=k) ?_ (by rw [h0];exact ⟨dR ..,dW _⟩) (fun k hk hr=>?_) (fun hr=>?_)
   ·refine (P1 n1 _ _ _).trans ?_;rw [h0];exact (zo.grow 10 48 23 rfl (.inl rfl)).trans (cC)
   ·have hp:s.zT[k]?= some s.zT[k]:=dM hk;have hg:(s.zT.map encI)[k]?= some (encI s.zT[k]):=by rw [dP,hp];rfl
    have h1:=hs k s.zT[k] hp;generalize hS:St k=S at *;obtain ⟨w,X,out⟩:=S;obtain ⟨hr,ho⟩:=hr;have hr:X.length=s.threads.length:=hr;have ho:out.length<=k:=ho;have hal:=Fu X X.length;conv=>whnf
    refine uF ?_;(refine td hg ?_)
    rw [<- hr];refine ⟨_,_,N6 X 4 false _ _ _ _ _ _ _ _ _ _ _ _ _,uH ?_⟩;refine ⟨_,zo.nv 13 0 3 1 rfl rfl (.inl rfl) rfl rfl,?_⟩
    refine ⟨.normal,_,⟨1,30,5,[qv s],0⟩::⟨1,37,8,[[I 0,I 0,I 0,.uv 1 0 [],.uv 1 0 [],.uv 1 0 [],.uv 1 0 [],.uv 1 0 []]],0⟩::⟨1,37,8,[zJ (w)],0⟩::iV 4 X::uy X 0::uy X 1::uy X 2::uy X 3::uy X 4::uy X 5::uy X 6::uy X 7::⟨4,48,23,(out).map zR,0⟩::[⟨1,28,1,[[.gl 15 1 (fU X X.length)]],0⟩,⟨1,63,1,[[.sl 3 [] 48 0 X.length false]],0⟩,⟨4,3,1,fU X X.length,0⟩],
     fun l r h1 h2 h3 h4 h5=>⟨_,_,r,NV l X 4 false aw _ _ _ _ _ _ _ _ _ _ _ _ (fun k=>⟨1,28,1,[[.gl 15 1 (fU X k)]],0⟩) (fun k=>[⟨4,3,1,fU X k,0⟩,fh l r _]) (fun k x hx ho=>?_) (fun k x hx ho=>?_),
     rfl,ba,rfl,gA _,bb,zo.drop 16 rfl rfl rfl (zI rfl (zI rfl (zI rfl (zI (qg (Kt (b:=4) ar aw)) rfl))))⟩,?_⟩
    ·refine ju.zU (id:=16) rfl h1 h2 h3 h4 h5 rfl rfl rfl ?_;conv=>whnf
     refine ⟨rfl,rfl,uH ?_⟩;have hkl:=(dL.1 hx).1;have mal:=T6 X k;have al2:=Fu X k;refine ⟨rfl,.inr rfl,ay,bc,uH ?_⟩;have e:fU X (k+1)=fU X k++[[I k]]:=T7 hx ho;rw [e];exact cR
    ·have e:fU X (k+1)=fU X k:=VT hx ho;exact ⟨by simp only [e],by simp only [e]⟩
    conv=>whnf
    have hp0:=n3 s.zT[k] (gQ hk);have ll:((qy X X.length).map fun (n:Nat)=>(n:Int)).length=(qy X X.length).length:=dR ..;have pk:=Qq s.zT[k] ((qy X X.length).map fun (n:Nat)=>(n:Int)) hp0.2 aw;have el:(((qy X X.length).map fun (n:Nat)=>(n:Int)).map encI)=fU X X.length:=by unfold fU;rw [pX];rfl
    unfold lI at pk;rw [el] at pk;have h1:=h1.go;rcases h1 with ⟨ha,hS2⟩ | ⟨t,x,e,ha,hx,hX2,ho2,hst⟩
    ·have ep:yg s.zT[k] ((qy X X.length).map fun (n:Nat)=>(n:Int))=(0,5):=by
      unfold yg;rw [dN aw,dQ (by rw [ll];exact pU.2 ha)]
     rw [ep] at pk;refine ⟨_,_,pk.frame rfl _,dd ?_⟩;refine tc ?_
     (refine .inr ⟨aj,uH ?_⟩)
     have stay:∀ j,k+j<=s.zT.length->St (k+j)=(w,X,out):=fun j=>by
      induction j with
      | zero=>intro _;exact hS
      | succ j ih=>
       intro hj;have q:=ih aw;have g:=(hs (k+j) _ (dM aw)).go;rw [q] at g;rcases g with ⟨_,g⟩ | ⟨t,x,e,g,_⟩
       ·exact g
       ·rw [ha] at g;cases g
     have last:=stay (s.zT.length - k) aw;rw [show k+(s.zT.length - k)=s.zT.length from aw] at last;rw [last];refine .inl ⟨⟨false,[1],[2],[]⟩,au,uH ?_⟩;refine hZ ?_
     exact uI
    ·have ep:yg s.zT[k] ((qy X X.length).map fun (n:Nat)=>(n:Int))=((t:Int),0):=by
      have hne:(qy X X.length).length≠0:=fun z=>by rw [pU.1 z] at ha;cases ha
      unfold yg;rw [dN aw,dN (by rw [ll];exact hne),ll,dP,ha]
      rfl
     rw [ep] at pk;have pk:tn 18 [] [I s.zT[k],.uv 0 1 (fU X X.length)] (.u1 [I (t:Int),I 0]) []:=pk;have htl:=(dL.1 hx).1;refine ⟨_,_,pk.frame rfl _,dd ?_⟩;refine tc ?_
     refine .inl ⟨⟨true,[],[],[]⟩,au,uH ?_⟩;refine ⟨aw,by rw [toNat_cast];exact htl,dd ?_⟩;rw [show 0+((t:Int)).toNat=t from aj];have hX8:(St (k+1)).2.1.length<=8:=aw
     generalize hS':St (k+1)=S' at *;obtain ⟨w',X',out'⟩:=S';have hX2:X'.length=X.length:=hX2;have ho2:out'=out++[e]:=ho2;have hst:tn 19 (mu 1 X) [.ref 0 [] 48 t 0,.agg (zJ w),I t] (.u1 [.agg (zJ w'),.agg (zR e)]) (mu 1 X'):=hst;refine Go.Wor.zX [3,4,5,6,7,8,9,10,11] (⟨1,30,5,[qv s],0⟩::⟨1,37,8,[[I 0,I 0,I 0,.uv 1 0 [],.uv 1 0 [],.uv 1 0 [],.uv 1 0 [],.uv 1 0 []]],0⟩::⟨1,37,8,[zJ (w)],0⟩::(mu 4 X'++[⟨4,48,23,(out).map zR,0⟩,⟨1,28,1,[[.gl 15 1 (fU X X.length)]],0⟩,⟨1,63,1,[[.sl 3 [] 48 0 X.length false]],0⟩,⟨4,3,1,fU X X.length,0⟩,⟨1,48,23,[[I 0,I 0,I 0,I 0,I 0,Bo false,I 0,Bo false,Bo false,Bo false,I 0,I 0,I 0,I 0,I 0,I 0,I 0,U 0,U 0,U 0,U 0,U 0,U 0]],0⟩])) (rx:=.u1 [.agg (zJ w'),.agg (zR e)]) hst (zc (zj (Lg 1 X')) rfl) (by show zK _ (iV 4 X)::_=_;rw [UQ aw];rfl) rfl rfl rfl (zc rfl (zc rfl (zc rfl (zc (zj (Lg 4 X)) rfl)))) (by show _::_::_::zG _ (iV 1 X')::_=_;rw [U5 aw];rfl) rfl (dd ?_);have mO:(out.map zR).length=out.length:=dR ..;refine ⟨rfl,.inr rfl,by show (out.map zR).length+1<=maxLen;rw [mO];simp [maxLen];omega,by show ((((out.map zR).length+1) * 168:Nat):Nat)<=_;rw [mO];omega,dd ?_⟩;refine .inl ⟨rfl,?_,hX2,by rw [ho2,gR,p9];omega⟩;have eO:out.map zR++[[I e.zf,I e.op,I e.access,I e.cell,I e.version,Bo e.qm,I e.value,Bo e.jo,Bo e.qR,Bo e.done,I e.answer.kind,I e.answer.version,I e.answer.zi,I e.answer.end_,I e.answer.slot,I e.answer.listen,I e.answer.n,U e.answer.counts.c0,U e.answer.counts.c1,U e.answer.counts.c2,U e.answer.counts.c3,U e.answer.counts.c4,U e.answer.counts.c5]]=out'.map zR:=by rw [ho2,pB];rfl
     rw [zu aw];dsimp only;rw [eO];exact zo.xv 13 hU rfl rfl rfl (zI rfl (zI rfl (zI rfl (zI (qg (Kt (b:=4) ar aw)) rfl)))) rfl
   ·refine uD ?_;refine .inl ⟨⟨false,[1],[2],[]⟩,au,uH ?_⟩;refine hZ ?_
    exact uI
 ·have e0:b.2≠0:=by simpa using h1
  rw [dN e0,dN e0];refine dd ?_;refine tc ?_
  exact ⟨.inl rfl,_,(zo.var 1 rfl rfl rfl (.cons (.refl _) (.cons (.refl _) (.cons (.refl _) (.cons (WC.nil 0 1) (.cons (WC.nil 0 5) (.cons (WC.nil 0 4) (.cons (WC.nil 0 1) (.cons (WC.nil 0 3) .nil))))))))).trans (zo.grow 2 48 23 rfl (.inl rfl)),rfl⟩
end Go.Ply
