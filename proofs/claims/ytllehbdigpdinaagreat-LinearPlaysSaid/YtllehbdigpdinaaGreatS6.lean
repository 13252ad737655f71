import Derived.Test.YtllehbdigpdinaaGreatSJ
import Derived.Test.YtllehbdigpdinaaGreatProg
import Derived.Test.YtllehbdigpdinaaGreatS2
import Derived.Test.YtllehbdigpdinaaGreatSW
set_option linter.all false
set_option maxRecDepth 100000
set_option maxHeartbeats 4000000
namespace Go.Ply
open Go.Ab Go.Proofs Tryz Go.Hy
def yg{P:Program}{o:Oper}{σ:Operand->Value}{t t':TypeId}{x y:Operand}{k:IntKind}{n m:Int}(ho:o.op=.binOp .rem t x y t')(hx:σ x=.int k n)(hy:σ y=.int k m)(hm:m≠0):
  mq P (execOp σ o)=some (.value (.int k (n.tmod m))):=by
 have hi:Op.intDiv .rem k n m=pure (.int k (n.tmod m)):=by unfold Op.intDiv;rw[gf hm]
 have hg:eqGuard .rem t x y (σ x) (σ y)=pure ():=rfl
 have hb:binOp .rem t (σ x) (σ y)=pure (.int k (n.tmod m)):=by
  rw[hx,hy];simp only[binOp,hi];exact gf aj
 unfold execOp;rw[ho];dsimp only;rw[hg,hb]
 rfl
def yj(p:Int)(l:List Int):Int×Int:=if p<0 then (0,1) else if l.length=0 then (0,5) else ((l[(p%l.length).toNat]?).getD 0,0)
def Vm(l:List Int):tn 47 [] [lI l] (.fn 88 [] [.ref 1 [] 1 0 0,.ref 0 [] 1 0 0]) [⟨1,28,1,[[lI l]],0⟩,⟨1,3,1,[[I (-1)]],0⟩]:=by
 refine zb.zG (fn:=f47) func47 O (uH ?_);exact uJ
def LA(l:List Int)(i:Int)(x:Int)(h0: -1<=i)(h1:i<1000000000000)(hl:0<l.length)(hl2:l.length<1000000000000)(hx:l[((i+1)%l.length).toNat]?=some x):
  tn 88 [⟨1,28,1,[[lI l]],0⟩,⟨1,3,1,[[I (i)]],0⟩] [.ref 1 [] 1 0 0,.ref 0 [] 1 0 0] (I x) [⟨1,28,1,[[lI l]],0⟩,⟨1,3,1,[[I ((i+1)%l.length)]],0⟩]:=by
 have ml:(l.map encI).length=l.length:=gp ..;have hw:IntKind.i64.wrap (i+1)=i+1:=qb aw aw;have hn:(((l.map encI).length:Nat):Int)≠0:=aw
 have et:(i+1).tmod (((l.map encI).length:Nat):Int)=(i+1)%l.length:=by rw[ml];exact sD aw
 have b0:0<=(i+1)%(l.length:Int):=sA _ aw;have hg:(l.map encI)[((i+1)%(l.length:Int)).toNat]?=some [I x]:=by rw[gj,hx];rfl
 refine zb.zG (fn:=f88) func88 O (uH ?_);rw[hw];split;(rotate_left;(rename_i hno;exact(hno _ (yg O O O hn)).elim));(rename_i v e;cases e.symm.trans (yg rfl rfl rfl hn));refine dd ?_
 rw[et];refine⟨b0,_,hg,dd ?_⟩;exact uJ
def Ve(p:Int)(l:List Int)(hp:i64 p)(hl:l.length<1000000000000):tn 19 [] [I p,lI l] (.fb [I (yj p l).1,I (yj p l).2]) []:=by
 have ml:(l.map encI).length=l.length:=gp ..;refine ab func19 ?_;refine⟨λh1=>?_,λh1=>?_⟩
 ·have h1:p<0:=by simpa using h1
  have e:yj p l=(0,1):=gk h1;rw[e];exact du
 have h1:¬p<0:=aq h1
 refine dd ?_;rw[ml];refine⟨λh2=>?_,λh2=>?_⟩
 ·have h2:l.length=0:=by have h2:=gH h2;omega
  have e:yj p l=(0,5):=(gf h1).trans (gk h2);rw[e];exact du
 have h2:l.length≠0:=by have h2:=rk h2;omega
 have e:yj p l=((l[(p%l.length).toNat]?).getD 0,0):=(gf h1).trans (gf h2);rw[e];have b0:0<=p%(l.length:Int):=sA _ aw;have b1:p%(l.length:Int)<l.length:=sr _ aw;have at_:∀k:Nat,k<l.length->l[k]?=some ((l[k]?).getD 0):=λk hk=>by rw[dZ hk];rfl
 have r0:=LA l (-1) ((l[0]?).getD 0) ar ar aw hl (by rw[show(-1+1:Int)%l.length=0 from by rw[show(-1+1:Int)=0 from O];exact Int.zero_emod _];exact at_ 0 aw);rw[show(-1+1:Int)%l.length=0 from by rw[show(-1+1:Int)=0 from O];exact Int.zero_emod _]at r0;refine dd ?_;refine af [] (Vm l) ?_;refine⟨_,_,r0,dd ?_⟩;have hn:(((l.map encI).length:Nat):Int)≠0:=aw
 have et:p.tmod (((l.map encI).length:Nat):Int)=p%l.length:=by rw[ml];exact sD aw
 split;(rotate_left;(rename_i hno;exact(hno _ (yg O O O hn)).elim));(rename_i v e;cases e.symm.trans (yg rfl rfl rfl hn));refine dd ?_
 rw[et];obtain⟨N,hN⟩:∃N:Nat,p%(l.length:Int)=N:=⟨(p%(l.length:Int)).toNat,aw⟩;rw[hN];rw[hN]at b1;refine qa.seq N (λk=>(I p::(lI l)::.za::.za::I 0::I 0::.fn 88 [] [.ref 1 [] 1 0 0,.ref 0 [] 1 0 0]::I ((l[k]?).getD 0)::hU ([.za,.za,.za,.za,.za,.za,I (N:Int),I k,.za,.za,.za,.za,.za]))) (λk=>[⟨1,28,1,[[lI l]],0⟩,⟨1,3,1,[[I ((k:Int))]],0⟩]) (λk=>True) ?_ trivial (λk hk hr=>?_) (λhr=>?_)
 ·exact cC
 ·have r1:=LA l k ((l[k+1]?).getD 0) aw aw aw hl (by rw[Int.emod_eq_of_lt aw aw];exact at_ (k+1) aw);rw[Int.emod_eq_of_lt aw aw]at r1;conv=>whnf
  refine uF ?_;refine⟨_,_,r1,dd ?_⟩;refine .inl ⟨rfl,?_,trivial⟩;rw[zw aw];exact cC
 ·refine uD ?_;exact uI
end Go.Ply
namespace Go.Ply
open Go.Ab Go.Proofs Tryz Go.Hy Go.Wor
abbrev ij:=Wor×List fp×List eV
structure zx5(X:List fp)(w:Wor)(out:List eV)(p:Int)(s':ij):Prop where
 go:(qB X X.length=[]/\s'=(w,X,out))\/∃(t:Nat) (x:fp) (e:eV),(qB X X.length)[(p%(qB X X.length).length).toNat]?=some t/\X[t]?=some x/\s'.2.1.length=X.length/\s'.2.2=out++[e]/\
  tn 20 (nN 1 X) [.ref 0 [] 48 t 0,.agg (yt w),I t] (.fb [.agg (yt s'.1),.agg (j3 e)]) (nN 1 s'.2.1)
def zyF:List C:=[I 0,I 0,I 0,I 0,I 0,I 0,I 0,I 0,I 0,U 0,I 0,I 0,I 0,I 0,Bo false]++x3 ⟨0,0,0,0,0,0,0,⟨0,0,0,0,0,0⟩⟩++Cd ⟨0,0,0,0,0,0⟩
def Am(c:C):List C:=c::I 0::Bo false::([I 0,Tx [],Tx [],Tx [],I 0,I 0,I 0,.eS 1 0 [],.eS 1 0 [],.eS 1 0 []]++zyF++[.eS 1 0 []])
def AO(T:List (List fh))(k:Nat):List (List C):=(T.take k).map (λl=>Am (lP l))++List.replicate (T.length-k) (Am (.eS 1 0 []))
def YO{T:List (List fh)}{k:Nat}(hk:k<T.length):(AO T k)[k]?=some (Am (.eS 1 0 [])):=by
 unfold AO;have e:((T.take k).map λl=>Am (lP l)).length=k:=aA
 rw[gK aw,e,rJ,sL,gk aw]
def Xp{T:List (List fh)}{k:Nat}(hk:k<T.length):(AO T k).set k (Am (lP T[k]))=AO T (k+1):=by
 unfold AO;have e:((T.take k).map λl=>Am (lP l)).length=k:=aA
 have e2:T.length-k=(T.length-(k+1))+1:=aw
 rw[sR _ _ aw,e,rJ,e2,sJ,ud,p7 hk,rb,pA]
 rfl
def Dn(l:List fh):List C:=lP l::I 0::Bo false::(lJ PF++[.eS 1 0 []])
def Xo(l:List fh):iH (Am (lP l)) (Dn l):=by
 have r:∀cs:List C,iH cs cs:=λcs=>by
  induction cs with
  |nil=>exact .nil
  |cons c cs ih=>exact .cons (.refl _) ih
 exact .cons (.refl _) (.cons (.refl _) (.cons (.refl _) (.cons (.refl _) (.cons (.refl _) (.cons (.refl _) (.cons (.refl _) (.cons (.refl _) (.cons (.refl _) (.cons (.refl _) (.cons (WC.nil 0 1) (.cons (WC.nil 0 4) (.cons (WC.nil 0 4) (r _)))))))))))))
def zxe(T:List (List fh))(i:Nat):vA (T.map iP) i=[]:=by
 unfold vA;rw[gj];cases T[i]? with
 |none=>rfl
 |some l=>rfl
def zyl{T:List (List fh)}(hT:T.length<=8):x8 4 47 13 8 (T.map Dn)=(T.map iP).mapIdx (qn 4):=by
 unfold x8;refine pI λi=>?_
 rw[pN,pN,gj,gj];cases hl:T[i]? with
 |none=>rfl
 |some l=>
  have:=(dY.1 hl).1;simp only[gF];rw[gk aw]
  rfl
def TC{B:Nat}{t:List C}{T:List (List fh)}(hT:T.length<=8)(O0 O1 O2:Ob):zn B ⟨t,[O0,O1,O2,⟨2,70,48,AO T T.length,0⟩]⟩ ⟨t,O0::O1::O2::nN 4 (T.map iP)⟩:=by
 have e:AO T T.length=T.map λl=>Am (lP l):=by unfold AO;simp
 have own1:∀r∈T.map λl=>Am (lP l),∀c∈r,zB c=true:=λr hr=>by
  obtain⟨l,_,rfl⟩:=gZ.1 hr;have e:(Am (lP l)).all zB=true:=rfl;exact gA.1 e
 have own2:∀r∈T.map Dn,∀c∈r,zB c=true:=λr hr=>by
  obtain⟨l,_,rfl⟩:=gZ.1 hr;have e:(Dn l).all zB=true:=rfl;exact gA.1 e
 rw[e];refine(zn.C4 (s:=⟨t,[O0,O1,O2,⟨2,70,48,_,0⟩]⟩) 3 O own1).trans ?_;refine(zn.zyR (s:=⟨t,[O0,O1,O2,⟨1,0,48,_,0⟩]⟩) 3 (rows':=T.map Dn) O aj (λi r r' h h'=>?_) own1 own2).trans ?_
 ·obtain⟨l,h1,rfl⟩:=gT.1 ((gj ..).symm.trans h);obtain⟨l',h2,rfl⟩:=gT.1 ((gj ..).symm.trans h');rw[h1]at h2;cases h2
  exact Xo l
 ·have w:=zn.OG (B:=B) (s:=⟨t,[O0,O1,O2,⟨1,0,48,T.map Dn,0⟩]⟩) 3 47 66 13 (sz0:=0) O (λr hr=>by
   obtain⟨l,_,rfl⟩:=gZ.1 hr
   rfl) own2 8
  have g:∀i,eX (T.map iP) i=⟨4,66,13,[],0⟩:=λi=>by unfold eX;rw[zxe];rfl
  show zn B _ ⟨t,[O0,O1,O2,mH 4 (T.map iP),eX (T.map iP) 0,eX (T.map iP) 1,eX (T.map iP) 2,eX (T.map iP) 3,eX (T.map iP) 4,eX (T.map iP) 5,eX (T.map iP) 6,eX (T.map iP) 7]⟩;unfold mH;rw[g,g,g,g,g,g,g,g,<-zyl hT];exact w
def HY(X:List fp):∀k,(qB X k).length<=k
 |0=>gD _
 |k+1=>by
  have:=HY X k;unfold qB;split
  ·split
   ·omega
   ·simp;omega
  ·omega
def iW(X:List fp)(k:Nat):List (List C):=(qB X k).map λ(n:Nat)=>[I (n:Int)]
def Yj(X:List fp)(k:Nat):(iW X k).length=(qB X k).length:=gp ..
def Yk{X:List fp}{k:Nat}{x:fp}(hx:X[k]?=some x)(ho:BC x=false):iW X (k+1)=iW X k++[[I k]]:=by
 have:¬x.ops.length<=x.done:=by unfold BC at ho;simpa using ho
 have e:qB X (k+1)=qB X k++[k]:=by
  show(match X[k]? with|some x=>if x.ops.length<=x.done then qB X k else qB X k++[k]|none=>qB X k)=_;rw[hx];exact gf this
 unfold iW;rw[e,rb]
 rfl
def ZP{X:List fp}{k:Nat}{x:fp}(hx:X[k]?=some x)(ho:BC x=true):iW X (k+1)=iW X k:=by
 have:x.ops.length<=x.done:=by unfold BC at ho;simpa using ho
 have e:qB X (k+1)=qB X k:=by
  show(match X[k]? with|some x=>if x.ops.length<=x.done then qB X k else qB X k++[k]|none=>qB X k)=_;rw[hx];exact gk this
 unfold iW;rw[e]
def N5{X:List fp}{b n:Nat}(h:b+8<=n)(hX:X.length<=8):∀r∈X.mapIdx (qn b),∀c∈r,jc n 9 c=true:=λr hr=>by
 obtain⟨i,hi,rfl⟩:=u9.1 hr;exact N6 b i n _ aw
def Z8{X:List fp}(hX:X.length<=8):zL [3,4,5,6,7,8,9,10,11] (mH 4 X)=mH 1 X:=by
 have e:(X.mapIdx (qn 4)).map (λr=>r.map (xU [3,4,5,6,7,8,9,10,11] 9))=X.mapIdx (qn 1):=by
  refine pI λi=>?_
  rw[gj,pN,pN];cases hx:X[i]? with
  |none=>rfl
  |some x=>
   have:=(dY.1 hx).1;rcases(by omega:i=0\/i=1\/i=2\/i=3\/i=4\/i=5\/i=6\/i=7) with rfl|rfl|rfl|rfl|rfl|rfl|rfl|rfl <;> rfl
 show(⟨1,0,48,(X.mapIdx (qn 4)).map (λr=>r.map (xU [3,4,5,6,7,8,9,10,11] 9)),0⟩:Ob)=_;rw[e]
def Za{X:List fp}(hX:X.length<=8)(n:Nat):zE (q9 [3,4,5,6,7,8,9,10,11] n) (mH 1 X)=mH 4 X:=by
 have e:(X.mapIdx (qn 1)).map (λr=>r.map (yV (q9 [3,4,5,6,7,8,9,10,11] n) 9))=X.mapIdx (qn 4):=by
  refine pI λi=>?_
  rw[gj,pN,pN];cases hx:X[i]? with
  |none=>rfl
  |some x=>
   have:=(dY.1 hx).1;rcases(by omega:i=0\/i=1\/i=2\/i=3\/i=4\/i=5\/i=6\/i=7) with rfl|rfl|rfl|rfl|rfl|rfl|rfl|rfl <;> rfl
 show(⟨1,0,48,(X.mapIdx (qn 1)).map (λr=>r.map (yV (q9 [3,4,5,6,7,8,9,10,11] n) 9)),0⟩:Ob)=_;rw[e]
def Ok(b:Nat)(X:List fp):∀r∈X.mapIdx (qn b),∀c∈r,zB c=true:=λr hr=>by
 obtain⟨i,hi,rfl⟩:=u9.1 hr;exact YF b i _
def Xh(s:fy)(b:Wor×Int)(St:Nat->ij)(hb:tn 17 [] [.agg (kV s)] (.fb [.agg (yt b.1),I b.2]) [])(hn:b.2=0->s.threads.length<=8/\s.zW.length<=4000/\∀p∈s.zW,0<=p/\i64 p)
 (h0:St 0=(b.1,s.threads.map iP,[]))(hs:b.2=0->∀k p,s.zW[k]?=some p->zx5 (St k).2.1 (St k).1 (St k).2.2 p (St (k+1))):
  tn 6 [] [.agg (kV s)] (.fb [nh (if b.2=0 then (St s.zW.length).2.2 else []),.agg (yt (if b.2=0 then (St s.zW.length).1 else ⟨0,0,0,[],[],[],[],[]⟩)),I b.2]) []:=by
 have m1:(s.threads.map x4).length=s.threads.length:=gp ..;have m2:(s.zW.map encI).length=s.zW.length:=gp ..;refine ab func6 ?_;refine ah hb ?_;refine⟨λh1=>?_,λh1=>?_⟩
 rotate_left
 ·have e0:b.2=0:=by simpa using h1
  obtain⟨n1,n2,n3⟩:=hn e0;have hs:=hs e0;rw[gk e0,gk e0,e0];refine dd ?_;refine tc ?_
  rw[m1];refine⟨rfl,aw,by show(488:Int)*_<=_;omega,aw,dd ?_⟩;rw[toNat_cast,m1];refine qa.seq s.threads.length (λk=>(.za::.ref 0 [] 5 0 0:: .za::.ref 1 [] 8 0 0:: .za::.ref 2 [] 8 0 0:: .za::.sl 3 [] 48 0 s.threads.length false:: hU (hU (hU (Dg s.threads::I s.threads.length::I k:: .za::hU (jp (hU ([])))))))) (λk=>[oS s,⟨1,38,8,[[I 0,I 0,I 0,.eS 1 0 [],.eS 1 0 [],.eS 1 0 [],.eS 1 0 [],.eS 1 0 []]],0⟩,oW b.1,⟨2,70,48,AO s.threads k,0⟩]) (λ_=>True) ?_ trivial (λk hk _=>?_) (λ_=>?_)
  ·exact cC
  ·have hg:(s.threads.map x4)[k]?=some (x4 s.threads[k]):=by rw[gj,dZ hk];rfl
   conv=>whnf
   refine uF ?_;(refine td hg ?_)
   refine⟨aw,by rw[toNat_cast];exact hk,dd ?_⟩;rw[show 0+((k:Int)).toNat=k from aj];refine⟨_,YO hk,rfl,dd ?_⟩;refine .inl ⟨rfl,?_,trivial⟩;rw[zw aw,<-Xp hk];exact cC
  ·refine uD ?_;rw[m2];refine qa.seq s.zW.length (λk=>(.za::.ref 0 [] 5 0 0:: .za::.ref 1 [] 8 0 0:: .za::.ref 2 [] 8 0 0:: .za::.sl 3 [] 48 0 s.threads.length false:: .za::.za::.gl 12 23 ((St k).2.2.map j3):: .za::.za::.za::.za::hU (hU (hU (hU (lI s.zW::I s.zW.length::I k:: .za::.za::hU (hU (hU (hU ([])))))))))) (λk=>(oS s)::⟨1,38,8,[[I 0,I 0,I 0,.eS 1 0 [],.eS 1 0 [],.eS 1 0 [],.eS 1 0 [],.eS 1 0 []]],0⟩::(oW ((St k).1))::(nN 4 (St k).2.1++[⟨4,77,23,((St k).2.2).map j3,0⟩])) (λk=>(St k).2.1.length=s.threads.length/\(St k).2.2.length<=k) ?_ (by rw[h0];exact⟨gp ..,gD _⟩) (λk hk hr=>?_) (λhr=>?_)
   ·refine(TC n1 _ _ _).trans ?_;rw[h0];exact(zn.grow 10 77 23 O (.inl O)).trans (cC)
   ·have hp:s.zW[k]?=some s.zW[k]:=dZ hk;have hg:(s.zW.map encI)[k]?=some (encI s.zW[k]):=by rw[gj,hp];rfl
    have h1:=hs k s.zW[k] hp;generalize hS:St k=S at *;obtain⟨w,X,out⟩:=S;obtain⟨hr,ho⟩:=hr;have hr:X.length=s.threads.length:=hr;have ho:out.length<=k:=ho;have hal:=HY X X.length;conv=>whnf
    refine uF ?_;(refine td hg ?_)
    rw[<-hr];refine⟨_,_,R5 X 4 false _ _ _ _ _ _ _ _ _ _ _ _ _,uH ?_⟩;refine⟨_,zn.Ae 13 0 3 1 O O (.inl O) O O,?_⟩
    refine⟨.normal,_,(oS s)::⟨1,38,8,[[I 0,I 0,I 0,.eS 1 0 [],.eS 1 0 [],.eS 1 0 [],.eS 1 0 [],.eS 1 0 []]],0⟩::(oW w)::mH 4 X::eX X 0::eX X 1::eX X 2::eX X 3::eX X 4::eX X 5::eX X 6::eX X 7::⟨4,77,23,(out).map j3,0⟩::[⟨1,28,1,[[.gl 15 1 (iW X X.length)]],0⟩,⟨1,60,1,[[.sl 3 [] 48 0 X.length false]],0⟩,⟨4,3,1,iW X X.length,0⟩],
     λl r h1 h2 h3 h4 h5=>⟨_,_,r,RJ l X 4 false aw _ _ _ _ _ _ _ _ _ _ _ _ (λk=>⟨1,28,1,[[.gl 15 1 (iW X k)]],0⟩) (λk=>[⟨4,3,1,iW X k,0⟩,fZ l r _]) (λk x hx ho=>?_) (λk x hx ho=>?_),
     rfl,bb,rfl,gY _,bc,zn.drop 16 O O O (zH O (zH O (zH O (zH (qh (N5 (b:=4) ar aw)) O))))⟩,?_⟩
    ·refine jC.zG (id:=16) O h1 h2 h3 h4 h5 O O O ?_;conv=>whnf
     refine⟨rfl,rfl,uH ?_⟩;have hkl:=(dY.1 hx).1;have mal:=Yj X k;have al2:=HY X k;refine⟨rfl,.inr O,ay,bd,uH ?_⟩;have e:iW X (k+1)=iW X k++[[I k]]:=Yk hx ho;rw[e];exact dg
    ·have e:iW X (k+1)=iW X k:=ZP hx ho;exact⟨by simp only[e],by simp only[e]⟩
    conv=>whnf
    have hp0:=n3 s.zW[k] (gW hk);have ll:((qB X X.length).map λ(n:Nat)=>(n:Int)).length=(qB X X.length).length:=gp ..;have pk:=Ve s.zW[k] ((qB X X.length).map λ(n:Nat)=>(n:Int)) hp0.2 aw;have el:(((qB X X.length).map λ(n:Nat)=>(n:Int)).map encI)=iW X X.length:=by unfold iW;rw[rQ];rfl
    unfold lI at pk;rw[el]at pk;have h1:=h1.go;rcases h1 with⟨ha,hS2⟩|⟨t,x,e,ha,hx,hX2,ho2,hst⟩
    ·have ep:yj s.zW[k] ((qB X X.length).map λ(n:Nat)=>(n:Int))=(0,5):=by
      unfold yj;rw[gf aw,gk (by rw[ll];exact rB.2 ha)]
     rw[ep]at pk;refine⟨_,_,pk.frame O _,dd ?_⟩;refine tc ?_
     (refine .inr ⟨aj,uH ?_⟩)
     have stay:∀j,k+j<=s.zW.length->St (k+j)=(w,X,out):=λj=>by
      induction j with
      |zero=>intro _;exact hS
      |succ j ih=>
       intro hj;have q:=ih aw;have g:=(hs (k+j) _ (dZ aw)).go;rw[q]at g;rcases g with⟨_,g⟩|⟨t,x,e,g,_⟩
       ·exact g
       ·rw[ha]at g;cases g
     have last:=stay (s.zW.length-k) aw;rw[show k+(s.zW.length-k)=s.zW.length from aw]at last;rw[last];refine .inl ⟨⟨false,[1],[2],[]⟩,au,uH ?_⟩;refine hZ ?_
     exact uI
    ·have ep:yj s.zW[k] ((qB X X.length).map λ(n:Nat)=>(n:Int))=((t:Int),0):=by
      have hne:(qB X X.length).length≠0:=λz=>by rw[rB.1 z]at ha;cases ha
      unfold yj;rw[gf aw,gf (by rw[ll];exact hne),ll,gj,ha]
      rfl
     rw[ep]at pk;have pk:tn 19 [] [I s.zW[k],.eS 0 1 (iW X X.length)] (.fb [I (t:Int),I 0]) []:=pk;have htl:=(dY.1 hx).1;refine⟨_,_,pk.frame O _,dd ?_⟩;refine tc ?_
     refine .inl ⟨⟨true,[],[],[]⟩,au,uH ?_⟩;refine⟨aw,by rw[toNat_cast];exact htl,dd ?_⟩;rw[show 0+((t:Int)).toNat=t from aj];have hX8:(St (k+1)).2.1.length<=8:=aw
     generalize hS':St (k+1)=S' at *;obtain⟨w',X',out'⟩:=S';have hX2:X'.length=X.length:=hX2;have ho2:out'=out++[e]:=ho2;have hst:tn 20 (nN 1 X) [.ref 0 [] 48 t 0,.agg (yt w),I t] (.fb [.agg (yt w'),.agg (j3 e)]) (nN 1 X'):=hst;refine Go.Wor.zX [3,4,5,6,7,8,9,10,11] ((oS s)::⟨1,38,8,[[I 0,I 0,I 0,.eS 1 0 [],.eS 1 0 [],.eS 1 0 [],.eS 1 0 [],.eS 1 0 []]],0⟩::(oW w)::(nN 4 X'++[⟨4,77,23,(out).map j3,0⟩,⟨1,28,1,[[.gl 15 1 (iW X X.length)]],0⟩,⟨1,60,1,[[.sl 3 [] 48 0 X.length false]],0⟩,⟨4,3,1,iW X X.length,0⟩,⟨1,77,23,[[I 0,I 0,I 0,I 0,I 0,Bo false,I 0,Bo false,Bo false,Bo false,I 0,I 0,I 0,I 0,I 0,I 0,I 0,U 0,U 0,U 0,U 0,U 0,U 0]],0⟩])) (rx:=.fb [.agg (yt w'),.agg (j3 e)]) hst (zc (zg (Ok 1 X')) O) (by show zL _ (mH 4 X)::_=_;rw[Z8 aw];rfl) O O O (zc O (zc O (zc O (zc (zg (Ok 4 X)) O)))) (by show _::_::_::zE _ (mH 1 X')::_=_;rw[Za aw];rfl) O (dd ?_);have mO:(out.map j3).length=out.length:=gp ..;refine⟨rfl,.inr O,by show(out.map j3).length+1<=maxLen;rw[mO];simp[maxLen];omega,by show((((out.map j3).length+1)*168:Nat):Nat)<=_;rw[mO];omega,dd ?_⟩;refine .inl ⟨rfl,?_,hX2,by rw[ho2,gE,rP];omega⟩;have eO:out.map j3++[[I e.zf,I e.op,I e.access,I e.cell,I e.version,Bo e.qQ,I e.value,Bo e.qX,Bo e.zI,Bo e.done,I e.answer.kind,I e.answer.version,I e.answer.zj,I e.answer.end_,I e.answer.slot,I e.answer.listen,I e.answer.n,U e.answer.counts.c0,U e.answer.counts.c1,U e.answer.counts.c2,U e.answer.counts.c3,U e.answer.counts.c4,U e.answer.counts.c5]]=out'.map j3:=by rw[ho2,rb];rfl
     rw[zw aw];dsimp only;rw[eO];exact zn.xw 13 hC O O O (zH O (zH O (zH O (zH (qh (N5 (b:=4) ar aw)) O)))) O
   ·refine uD ?_;refine .inl ⟨⟨false,[1],[2],[]⟩,au,uH ?_⟩;refine hZ ?_
    exact uI
 ·have e0:b.2≠0:=by simpa using h1
  rw[gf e0,gf e0];refine dd ?_;refine tc ?_
  exact⟨.inl O,_,(zn.var 1 O O O (.cons (.refl _) (.cons (.refl _) (.cons (.refl _) (.cons (WC.nil 0 1) (.cons (WC.nil 0 5) (.cons (WC.nil 0 4) (.cons (WC.nil 0 1) (.cons (WC.nil 0 3) .nil))))))))).trans (zn.grow 2 77 23 O (.inl O)),rfl⟩
end Go.Ply
