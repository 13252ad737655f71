import Derived.Test.YtoeaoedlpmohoaaGreatSJ
import Derived.Test.YtoeaoedlpmohoaaGreatProg
import Derived.Test.YtoeaoedlpmohoaaGreatS2
import Derived.Test.YtoeaoedlpmohoaaGreatSW
set_option linter.all false
set_option maxRecDepth 100000
set_option maxHeartbeats 4000000
namespace Go.Ply
open Go.Ab Go.Proofs Tryz Go.Hy
def yn{P:Program}{o:Oper}{σ:Operand->Value}{t t':TypeId}{x y:Operand}{k:IntKind}{n m:Int}(ho:o.op=.binOp .rem t x y t')(hx:σ x=.int k n)(hy:σ y=.int k m)(hm:m≠0):
  AA P (execOp σ o)=some (.value (.int k (n.tmod m))):=by
 have hi:Op.intDiv .rem k n m=pure (.int k (n.tmod m)):=bd
 have hg:eqGuard .rem t x y (σ x) (σ y)=pure ():=rfl
 have hb:binOp .rem t (σ x) (σ y)=pure (.int k (n.tmod m)):=by
  rw[hx,hy];simp only[binOp,hi];exact pw aj
 unfold execOp;rw[ho];dsimp only;rw[hg,hb]
 rfl
def vp(p:Int)(l:List Int):Int×Int:=if p<0 then (0,1) else if l.length=0 then (0,5) else ((l[(p%l.length).toNat]?).getD 0,0)
def zsI(l:List Int):tp 61 [] [lI l] (.fn 91 [] [.ref 1 [] 1 0 0,.ref 0 [] 1 0 0]) [⟨1,28,1,[[lI l]],0⟩,⟨1,3,1,[[I (-1)]],0⟩]:=by
 refine zc.zM (fn:=f61) func61 O (uH ?_);exact uJ
def SO(l:List Int)(i:Int)(x:Int)(h0: -1<=i)(h1:i<1000000000000)(hl:0<l.length)(hl2:l.length<1000000000000)(hx:l[((i+1)%l.length).toNat]?=some x):
  tp 91 [⟨1,28,1,[[lI l]],0⟩,⟨1,3,1,[[I (i)]],0⟩] [.ref 1 [] 1 0 0,.ref 0 [] 1 0 0] (I x) [⟨1,28,1,[[lI l]],0⟩,⟨1,3,1,[[I ((i+1)%l.length)]],0⟩]:=by
 have ml:(l.map encI).length=l.length:=pB ..;have hw:IntKind.i64.wrap (i+1)=i+1:=qi aw aw;have hn:(((l.map encI).length:Nat):Int)≠0:=aw
 have et:(i+1).tmod (((l.map encI).length:Nat):Int)=(i+1)%l.length:=by rw[ml];exact uo aw
 have b0:0<=(i+1)%(l.length:Int):=eF _ aw;have hg:(l.map encI)[((i+1)%(l.length:Int)).toNat]?=some [I x]:=by rw[pj,hx];rfl
 refine zc.zM (fn:=f91) func91 O (uH ?_);rw[hw];split;(rotate_left;(rename_i hno;exact(hno _ (yn O O O hn)).elim));(rename_i v e;cases e.symm.trans (yn rfl rfl rfl hn));refine dd ?_
 rw[et];refine⟨b0,_,hg,dd ?_⟩;exact uJ
def zsx(p:Int)(l:List Int)(hp:i64 p)(hl:l.length<1000000000000):tp 32 [] [I p,lI l] (.lK [I (vp p l).1,I (vp p l).2]) []:=by
 have ml:(l.map encI).length=l.length:=pB ..;refine ab func32 ?_;refine⟨λh1=>?_,λh1=>?_⟩
 ·have h1:p<0:=by simpa using h1
  have e:vp p l=(0,1):=pA h1;rw[e];exact dT
 have h1:¬p<0:=aq h1
 refine dd ?_;rw[ml];refine⟨λh2=>?_,λh2=>?_⟩
 ·have h2:l.length=0:=by have h2:=pF h2;omega
  have e:vp p l=(0,5):=(pw h1).trans (pA h2);rw[e];exact dT
 have h2:l.length≠0:=by have h2:=sK h2;omega
 have e:vp p l=((l[(p%l.length).toNat]?).getD 0,0):=(pw h1).trans (pw h2);rw[e];have b0:0<=p%(l.length:Int):=eF _ aw;have b1:p%(l.length:Int)<l.length:=eu _ aw;have at_:∀k:Nat,k<l.length->l[k]?=some ((l[k]?).getD 0):=λk hk=>by rw[pa hk];rfl
 have r0:=SO l (-1) ((l[0]?).getD 0) ar ar aw hl (by rw[show(-1+1:Int)%l.length=0 from by rw[show(-1+1:Int)=0 from O];exact Int.zero_emod _];exact at_ 0 aw);rw[show(-1+1:Int)%l.length=0 from by rw[show(-1+1:Int)=0 from O];exact Int.zero_emod _]at r0;refine dd ?_;refine af [] (zsI l) ?_;refine⟨_,_,r0,dd ?_⟩;have hn:(((l.map encI).length:Nat):Int)≠0:=aw
 have et:p.tmod (((l.map encI).length:Nat):Int)=p%l.length:=by rw[ml];exact uo aw
 split;(rotate_left;(rename_i hno;exact(hno _ (yn O O O hn)).elim));(rename_i v e;cases e.symm.trans (yn rfl rfl rfl hn));refine dd ?_
 rw[et];obtain⟨N,hN⟩:∃N:Nat,p%(l.length:Int)=N:=⟨(p%(l.length:Int)).toNat,aw⟩;rw[hN];rw[hN]at b1;refine zW.seq N (λk=>(I p::(lI l)::.za::.za::I 0::I 0::.fn 91 [] [.ref 1 [] 1 0 0,.ref 0 [] 1 0 0]::I ((l[k]?).getD 0)::mF ([.za,.za,.za,.za,.za,.za,I (N:Int),I k,.za,.za,.za,.za,.za]))) (λk=>[⟨1,28,1,[[lI l]],0⟩,⟨1,3,1,[[I ((k:Int))]],0⟩]) (λk=>True) ?_ trivial (λk hk hr=>?_) (λhr=>?_)
 ·exact cC
 ·have r1:=SO l k ((l[k+1]?).getD 0) aw aw aw hl (by rw[Int.emod_eq_of_lt aw aw];exact at_ (k+1) aw);rw[Int.emod_eq_of_lt aw aw]at r1;conv=>whnf
  refine uF ?_;refine⟨_,_,r1,dd ?_⟩;refine .inl ⟨rfl,?_,trivial⟩;rw[zy aw];exact cC
 ·refine uD ?_;exact uI
end Go.Ply
namespace Go.Ply
open Go.Ab Go.Proofs Tryz Go.Hy Go.Wor
abbrev mS:=Wor×List lW×List lD
structure zDo(X:List lW)(w:Wor)(out:List lD)(p:Int)(s':mS):Prop where
 go:(qX X X.length=[]/\s'=(w,X,out))\/∃(t:Nat) (x:lW) (e:lD),(qX X X.length)[(p%(qX X X.length).length).toNat]?=some t/\X[t]?=some x/\s'.2.1.length=X.length/\s'.2.2=out++[e]/\
  tp 33 (Ct 1 X) [.ref 0 [] 48 t 0,.agg (kY w),I t] (.lK [.agg (kY s'.1),.agg (jd e)]) (Ct 1 s'.2.1)
def ZN:List C:=[I 0,I 0,I 0,I 0,I 0,I 0,I 0,I 0,I 0,U 0,I 0,I 0,I 0,I 0,Bo false]++xK ⟨0,0,0,0,0,0,0,⟨0,0,0,0,0,0⟩⟩++E5 ⟨0,0,0,0,0,0⟩
def DQ(c:C):List C:=c::I 0::Bo false::([I 0,Tx [],Tx [],Tx [],I 0,I 0,I 0,.lq 1 0 [],.lq 1 0 [],.lq 1 0 []]++ZN++[.lq 1 0 []])
def Ee(T:List (List lX))(k:Nat):List (List C):=(T.take k).map (λl=>DQ (lP l))++List.replicate (T.length-k) (DQ (.lq 1 0 []))
def zyM{T:List (List lX)}{k:Nat}(hk:k<T.length):(Ee T k)[k]?=some (DQ (.lq 1 0 [])):=by
 unfold Ee;have e:((T.take k).map λl=>DQ (lP l)).length=k:=aA
 rw[pT aw,e,sY,u3,pA aw]
def zv6{T:List (List lX)}{k:Nat}(hk:k<T.length):(Ee T k).set k (DQ (lP T[k]))=Ee T (k+1):=by
 unfold Ee;have e:((T.take k).map λl=>DQ (lP l)).length=k:=aA
 have e2:T.length-k=(T.length-(k+1))+1:=aw
 rw[eG _ _ aw,e,sY,e2,fc,u9,rS hk,rD,rR]
 rfl
def Hm(l:List lX):List C:=lP l::I 0::Bo false::(AT QW++[.lq 1 0 []])
def zv5(l:List lX):nJ (DQ (lP l)) (Hm l):=by
 have r:∀cs:List C,nJ cs cs:=λcs=>by
  induction cs with
  |nil=>exact .nil
  |cons c cs ih=>exact .cons (.refl _) ih
 exact .cons (.refl _) (.cons (.refl _) (.cons (.refl _) (.cons (.refl _) (.cons (.refl _) (.cons (.refl _) (.cons (.refl _) (.cons (.refl _) (.cons (.refl _) (.cons (.refl _) (.cons (WC.nil 0 1) (.cons (WC.nil 0 4) (.cons (WC.nil 0 4) (r _)))))))))))))
def ZH(T:List (List lX))(i:Nat):wa (T.map wA) i=[]:=by
 unfold wa;rw[pj];cases T[i]? with
 |none=>rfl
 |some l=>rfl
def ZW{T:List (List lX)}(hT:T.length<=8):y9 4 47 13 8 (T.map Hm)=(T.map wA).mapIdx (qG 4):=by
 unfold y9;refine rp λi=>?_
 rw[rQ,rQ,pj,pj];cases hl:T[i]? with
 |none=>rfl
 |some l=>
  have:=(gZ.1 hl).1;simp only[pM];rw[pA aw]
  rfl
def zqZ{B:Nat}{t:List C}{T:List (List lX)}(hT:T.length<=8)(O0 O1 O2:Ob):zt B ⟨t,[O0,O1,O2,⟨2,97,48,Ee T T.length,0⟩]⟩ ⟨t,O0::O1::O2::Ct 4 (T.map wA)⟩:=by
 have e:Ee T T.length=T.map λl=>DQ (lP l):=by unfold Ee;simp
 have own1:∀r∈T.map λl=>DQ (lP l),∀c∈r,zB c=true:=λr hr=>by
  obtain⟨l,_,rfl⟩:=pZ.1 hr;have e:(DQ (lP l)).all zB=true:=rfl;exact pH.1 e
 have own2:∀r∈T.map Hm,∀c∈r,zB c=true:=λr hr=>by
  obtain⟨l,_,rfl⟩:=pZ.1 hr;have e:(Hm l).all zB=true:=rfl;exact pH.1 e
 rw[e];refine(zt.GR (s:=⟨t,[O0,O1,O2,⟨2,97,48,_,0⟩]⟩) 3 O own1).trans ?_;refine(zt.zEc (s:=⟨t,[O0,O1,O2,⟨1,0,48,_,0⟩]⟩) 3 (rows':=T.map Hm) O aj (λi r r' h h'=>?_) own1 own2).trans ?_
 ·obtain⟨l,h1,rfl⟩:=pS.1 ((pj ..).symm.trans h);obtain⟨l',h2,rfl⟩:=pS.1 ((pj ..).symm.trans h');rw[h1]at h2;cases h2
  exact zv5 l
 ·have w:=zt.VQ (B:=B) (s:=⟨t,[O0,O1,O2,⟨1,0,48,T.map Hm,0⟩]⟩) 3 47 51 13 (sz0:=0) O (λr hr=>by
   obtain⟨l,_,rfl⟩:=pZ.1 hr
   rfl) own2 8
  have g:∀i,lF (T.map wA) i=⟨4,51,13,[],0⟩:=λi=>by unfold lF;rw[ZH];rfl
  show zt B _ ⟨t,[O0,O1,O2,Bm 4 (T.map wA),lF (T.map wA) 0,lF (T.map wA) 1,lF (T.map wA) 2,lF (T.map wA) 3,lF (T.map wA) 4,lF (T.map wA) 5,lF (T.map wA) 6,lF (T.map wA) 7]⟩;unfold Bm;rw[g,g,g,g,g,g,g,g,<-ZW hT];exact w
def NJ(X:List lW):∀k,(qX X k).length<=k
 |0=>pI _
 |k+1=>by
  have:=NJ X k;unfold qX;split
  ·split
   ·omega
   ·simp;omega
  ·omega
def oU(X:List lW)(k:Nat):List (List C):=(qX X k).map λ(n:Nat)=>[I (n:Int)]
def zzD(X:List lW)(k:Nat):(oU X k).length=(qX X k).length:=pB ..
def zzE{X:List lW}{k:Nat}{x:lW}(hx:X[k]?=some x)(ho:E4 x=false):oU X (k+1)=oU X k++[[I k]]:=by
 have:¬x.ops.length<=x.done:=by unfold E4 at ho;simpa using ho
 have e:qX X (k+1)=qX X k++[k]:=by
  show(match X[k]? with|some x=>if x.ops.length<=x.done then qX X k else qX X k++[k]|none=>qX X k)=_;rw[hx];exact pw this
 unfold oU;rw[e,rD]
 rfl
def Zv{X:List lW}{k:Nat}{x:lW}(hx:X[k]?=some x)(ho:E4 x=true):oU X (k+1)=oU X k:=by
 have:x.ops.length<=x.done:=by unfold E4 at ho;simpa using ho
 have e:qX X (k+1)=qX X k:=by
  show(match X[k]? with|some x=>if x.ops.length<=x.done then qX X k else qX X k++[k]|none=>qX X k)=_;rw[hx];exact pA this
 unfold oU;rw[e]
def Vk{X:List lW}{b n:Nat}(h:b+8<=n)(hX:X.length<=8):∀r∈X.mapIdx (qG b),∀c∈r,jv n 9 c=true:=λr hr=>by
 obtain⟨i,hi,rfl⟩:=fW.1 hr;exact Vl b i n _ aw
def YH{X:List lW}(hX:X.length<=8):zR [3,4,5,6,7,8,9,10,11] (Bm 4 X)=Bm 1 X:=by
 have e:(X.mapIdx (qG 4)).map (λr=>r.map (yq [3,4,5,6,7,8,9,10,11] 9))=X.mapIdx (qG 1):=by
  refine rp λi=>?_
  rw[pj,rQ,rQ];cases hx:X[i]? with
  |none=>rfl
  |some x=>
   have:=(gZ.1 hx).1;rcases(by omega:i=0\/i=1\/i=2\/i=3\/i=4\/i=5\/i=6\/i=7) with rfl|rfl|rfl|rfl|rfl|rfl|rfl|rfl <;> rfl
 show(⟨1,0,48,(X.mapIdx (qG 4)).map (λr=>r.map (yq [3,4,5,6,7,8,9,10,11] 9)),0⟩:Ob)=_;rw[e]
def Ys{X:List lW}(hX:X.length<=8)(n:Nat):zL (jz [3,4,5,6,7,8,9,10,11] n) (Bm 1 X)=Bm 4 X:=by
 have e:(X.mapIdx (qG 1)).map (λr=>r.map (kb (jz [3,4,5,6,7,8,9,10,11] n) 9))=X.mapIdx (qG 4):=by
  refine rp λi=>?_
  rw[pj,rQ,rQ];cases hx:X[i]? with
  |none=>rfl
  |some x=>
   have:=(gZ.1 hx).1;rcases(by omega:i=0\/i=1\/i=2\/i=3\/i=4\/i=5\/i=6\/i=7) with rfl|rfl|rfl|rfl|rfl|rfl|rfl|rfl <;> rfl
 show(⟨1,0,48,(X.mapIdx (qG 1)).map (λr=>r.map (kb (jz [3,4,5,6,7,8,9,10,11] n) 9)),0⟩:Ob)=_;rw[e]
def V9(b:Nat)(X:List lW):∀r∈X.mapIdx (qG b),∀c∈r,zB c=true:=λr hr=>by
 obtain⟨i,hi,rfl⟩:=fW.1 hr;exact zyr b i _
def zvX(s:mb)(b:Wor×Int)(St:Nat->mS)(hb:tp 30 [] [.agg (yC s)] (.lK [.agg (kY b.1),I b.2]) [])(hn:b.2=0->s.threads.length<=8/\s.zP.length<=4000/\∀p∈s.zP,0<=p/\i64 p)
 (h0:St 0=(b.1,s.threads.map wA,[]))(hs:b.2=0->∀k p,s.zP[k]?=some p->zDo (St k).2.1 (St k).1 (St k).2.2 p (St (k+1))):
  tp 13 [] [.agg (yC s)] (.lK [na (if b.2=0 then (St s.zP.length).2.2 else []),.agg (kY (if b.2=0 then (St s.zP.length).1 else ⟨0,0,0,[],[],[],[],[]⟩)),I b.2]) []:=by
 have m1:(s.threads.map yo).length=s.threads.length:=pB ..;have m2:(s.zP.map encI).length=s.zP.length:=pB ..;refine ab func13 ?_;refine ah hb ?_;refine⟨λh1=>?_,λh1=>?_⟩
 rotate_left
 ·have e0:b.2=0:=by simpa using h1
  obtain⟨n1,n2,n3⟩:=hn e0;have hs:=hs e0;rw[pA e0,pA e0,e0];refine dd ?_;refine tf ?_
  rw[m1];refine⟨rfl,aw,by show(488:Int)*_<=_;omega,aw,dd ?_⟩;rw[toNat_cast,m1];refine zW.seq s.threads.length (λk=>(.za::.ref 0 [] 5 0 0:: .za::.ref 1 [] 8 0 0:: .za::.ref 2 [] 8 0 0:: .za::.sl 3 [] 48 0 s.threads.length false:: mF (mF (mF (Ht s.threads::I s.threads.length::I k:: .za::mF (jp (mF ([])))))))) (λk=>[oS s,⟨1,38,8,[[I 0,I 0,I 0,.lq 1 0 [],.lq 1 0 [],.lq 1 0 [],.lq 1 0 [],.lq 1 0 []]],0⟩,oW b.1,⟨2,97,48,Ee s.threads k,0⟩]) (λ_=>True) ?_ trivial (λk hk _=>?_) (λ_=>?_)
  ·exact cC
  ·have hg:(s.threads.map yo)[k]?=some (yo s.threads[k]):=by rw[pj,pa hk];rfl
   conv=>whnf
   refine uF ?_;(refine tj hg ?_)
   refine⟨aw,by rw[toNat_cast];exact hk,dd ?_⟩;rw[show 0+((k:Int)).toNat=k from aj];refine⟨_,zyM hk,rfl,dd ?_⟩;refine .inl ⟨rfl,?_,trivial⟩;rw[zy aw,<-zv6 hk];exact cC
  ·refine uD ?_;rw[m2];refine zW.seq s.zP.length (λk=>(.za::.ref 0 [] 5 0 0:: .za::.ref 1 [] 8 0 0:: .za::.ref 2 [] 8 0 0:: .za::.sl 3 [] 48 0 s.threads.length false:: .za::.za::.gl 12 23 ((St k).2.2.map jd):: .za::.za::.za::.za::mF (mF (mF (mF (lI s.zP::I s.zP.length::I k:: .za::.za::mF (mF (mF (mF ([])))))))))) (λk=>(oS s)::⟨1,38,8,[[I 0,I 0,I 0,.lq 1 0 [],.lq 1 0 [],.lq 1 0 [],.lq 1 0 [],.lq 1 0 []]],0⟩::(oW ((St k).1))::(Ct 4 (St k).2.1++[⟨4,55,23,((St k).2.2).map jd,0⟩])) (λk=>(St k).2.1.length=s.threads.length/\(St k).2.2.length<=k) ?_ (by rw[h0];exact⟨pB ..,pI _⟩) (λk hk hr=>?_) (λhr=>?_)
   ·refine(zqZ n1 _ _ _).trans ?_;rw[h0];exact(zt.grow 10 55 23 O (.inl O)).trans (cC)
   ·have hp:s.zP[k]?=some s.zP[k]:=pa hk;have hg:(s.zP.map encI)[k]?=some (encI s.zP[k]):=by rw[pj,hp];rfl
    have h1:=hs k s.zP[k] hp;generalize hS:St k=S at *;obtain⟨w,X,out⟩:=S;obtain⟨hr,ho⟩:=hr;have hr:X.length=s.threads.length:=hr;have ho:out.length<=k:=ho;have hal:=NJ X X.length;conv=>whnf
    refine uF ?_;(refine tj hg ?_)
    rw[<-hr];refine⟨_,_,znz X 4 false _ _ _ _ _ _ _ _ _ _ _ _ _,uH ?_⟩;refine⟨_,zt.DC 13 0 3 1 O O (.inl O) O O,?_⟩
    refine⟨.normal,_,(oS s)::⟨1,38,8,[[I 0,I 0,I 0,.lq 1 0 [],.lq 1 0 [],.lq 1 0 [],.lq 1 0 [],.lq 1 0 []]],0⟩::(oW w)::Bm 4 X::lF X 0::lF X 1::lF X 2::lF X 3::lF X 4::lF X 5::lF X 6::lF X 7::⟨4,55,23,(out).map jd,0⟩::[⟨1,28,1,[[.gl 15 1 (oU X X.length)]],0⟩,⟨1,91,1,[[.sl 3 [] 48 0 X.length false]],0⟩,⟨4,3,1,oU X X.length,0⟩],
     λl r h1 h2 h3 h4 h5=>⟨_,_,r,zll l X 4 false aw _ _ _ _ _ _ _ _ _ _ _ _ (λk=>⟨1,28,1,[[.gl 15 1 (oU X k)]],0⟩) (λk=>[⟨4,3,1,oU X k,0⟩,nn l r _]) (λk x hx ho=>?_) (λk x hx ho=>?_),
     rfl,ba,rfl,rk _,bc,zt.drop 16 O O O (zO O (zO O (zO O (zO (qx (Vk (b:=4) ar aw)) O))))⟩,?_⟩
    ·refine xd.zM (id:=16) O h1 h2 h3 h4 h5 O O O ?_;conv=>whnf
     refine⟨rfl,rfl,uH ?_⟩;have hkl:=(gZ.1 hx).1;have mal:=zzD X k;have al2:=NJ X k;refine⟨rfl,.inr O,ay,bf,uH ?_⟩;have e:oU X (k+1)=oU X k++[[I k]]:=zzE hx ho;rw[e];exact dF
    ·have e:oU X (k+1)=oU X k:=Zv hx ho;exact⟨by simp only[e],by simp only[e]⟩
    conv=>whnf
    have hp0:=n3 s.zP[k] (pY hk);have ll:((qX X X.length).map λ(n:Nat)=>(n:Int)).length=(qX X X.length).length:=pB ..;have pk:=zsx s.zP[k] ((qX X X.length).map λ(n:Nat)=>(n:Int)) hp0.2 aw;have el:(((qX X X.length).map λ(n:Nat)=>(n:Int)).map encI)=oU X X.length:=by unfold oU;rw[sM];rfl
    unfold lI at pk;rw[el]at pk;have h1:=h1.go;rcases h1 with⟨ha,hS2⟩|⟨t,x,e,ha,hx,hX2,ho2,hst⟩
    ·have ep:vp s.zP[k] ((qX X X.length).map λ(n:Nat)=>(n:Int))=(0,5):=by
      unfold vp;rw[pw aw,pA (by rw[ll];exact sD.2 ha)]
     rw[ep]at pk;refine⟨_,_,pk.frame O _,dd ?_⟩;refine tf ?_
     (refine .inr ⟨aj,uH ?_⟩)
     have stay:∀j,k+j<=s.zP.length->St (k+j)=(w,X,out):=λj=>by
      induction j with
      |zero=>intro _;exact hS
      |succ j ih=>
       intro hj;have q:=ih aw;have g:=(hs (k+j) _ (pa aw)).go;rw[q]at g;rcases g with⟨_,g⟩|⟨t,x,e,g,_⟩
       ·exact g
       ·rw[ha]at g;cases g
     have last:=stay (s.zP.length-k) aw;rw[show k+(s.zP.length-k)=s.zP.length from aw]at last;rw[last];refine .inl ⟨⟨false,[1],[2],[]⟩,au,uH ?_⟩;refine td ?_
     exact uI
    ·have ep:vp s.zP[k] ((qX X X.length).map λ(n:Nat)=>(n:Int))=((t:Int),0):=by
      have hne:(qX X X.length).length≠0:=λz=>by rw[sD.1 z]at ha;cases ha
      unfold vp;rw[pw aw,pw (by rw[ll];exact hne),ll,pj,ha]
      rfl
     rw[ep]at pk;have pk:tp 32 [] [I s.zP[k],.lq 0 1 (oU X X.length)] (.lK [I (t:Int),I 0]) []:=pk;have htl:=(gZ.1 hx).1;refine⟨_,_,pk.frame O _,dd ?_⟩;refine tf ?_
     refine .inl ⟨⟨true,[],[],[]⟩,au,uH ?_⟩;refine⟨aw,by rw[toNat_cast];exact htl,dd ?_⟩;rw[show 0+((t:Int)).toNat=t from aj];have hX8:(St (k+1)).2.1.length<=8:=aw
     generalize hS':St (k+1)=S' at *;obtain⟨w',X',out'⟩:=S';have hX2:X'.length=X.length:=hX2;have ho2:out'=out++[e]:=ho2;have hst:tp 33 (Ct 1 X) [.ref 0 [] 48 t 0,.agg (kY w),I t] (.lK [.agg (kY w'),.agg (jd e)]) (Ct 1 X'):=hst;refine Go.Wor.qg [3,4,5,6,7,8,9,10,11] ((oS s)::⟨1,38,8,[[I 0,I 0,I 0,.lq 1 0 [],.lq 1 0 [],.lq 1 0 [],.lq 1 0 [],.lq 1 0 []]],0⟩::(oW w)::(Ct 4 X'++[⟨4,55,23,(out).map jd,0⟩,⟨1,28,1,[[.gl 15 1 (oU X X.length)]],0⟩,⟨1,91,1,[[.sl 3 [] 48 0 X.length false]],0⟩,⟨4,3,1,oU X X.length,0⟩,⟨1,55,23,[[I 0,I 0,I 0,I 0,I 0,Bo false,I 0,Bo false,Bo false,Bo false,I 0,I 0,I 0,I 0,I 0,I 0,I 0,U 0,U 0,U 0,U 0,U 0,U 0]],0⟩])) (rx:=.lK [.agg (kY w'),.agg (jd e)]) hst (ze (zl (V9 1 X')) O) (by show zR _ (Bm 4 X)::_=_;rw[YH aw];rfl) O O O (ze O (ze O (ze O (ze (zl (V9 4 X)) O)))) (by show _::_::_::zL _ (Bm 1 X')::_=_;rw[Ys aw];rfl) O (dd ?_);have mO:(out.map jd).length=out.length:=pB ..;refine⟨rfl,.inr O,by show(out.map jd).length+1<=maxLen;rw[mO];simp[maxLen];omega,by show((((out.map jd).length+1)*168:Nat):Nat)<=_;rw[mO];omega,dd ?_⟩;refine .inl ⟨rfl,?_,hX2,by rw[ho2,pL,tt];omega⟩;have eO:out.map jd++[[I e.zg,I e.op,I e.access,I e.cell,I e.version,Bo e.qd,I e.value,Bo e.qY,Bo e.zQ,Bo e.done,I e.answer.kind,I e.answer.version,I e.answer.zi,I e.answer.end_,I e.answer.slot,I e.answer.listen,I e.answer.n,U e.answer.counts.c0,U e.answer.counts.c1,U e.answer.counts.c2,U e.answer.counts.c3,U e.answer.counts.c4,U e.answer.counts.c5]]=out'.map jd:=by rw[ho2,rD];rfl
     rw[zy aw];dsimp only;rw[eO];exact zt.yi 13 tc O O O (zO O (zO O (zO O (zO (qx (Vk (b:=4) ar aw)) O)))) O
   ·refine uD ?_;refine .inl ⟨⟨false,[1],[2],[]⟩,au,uH ?_⟩;refine td ?_
    exact uI
 ·have e0:b.2≠0:=by simpa using h1
  rw[pw e0,pw e0];refine dd ?_;refine tf ?_
  exact⟨.inl O,_,(zt.var 1 O O O (.cons (.refl _) (.cons (.refl _) (.cons (.refl _) (.cons (WC.nil 0 1) (.cons (WC.nil 0 5) (.cons (WC.nil 0 4) (.cons (WC.nil 0 1) (.cons (WC.nil 0 3) .nil))))))))).trans (zt.grow 2 55 23 O (.inl O)),rfl⟩
end Go.Ply
