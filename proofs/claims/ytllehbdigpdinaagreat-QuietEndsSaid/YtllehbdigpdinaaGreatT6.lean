import Derived.Test.YtllehbdigpdinaaGreatTJ
import Derived.Test.YtllehbdigpdinaaGreatProg
import Derived.Test.YtllehbdigpdinaaGreatT2
import Derived.Test.YtllehbdigpdinaaGreatTW
set_option linter.all false
set_option maxRecDepth 100000
set_option maxHeartbeats 4000000
namespace Go.Ply
open Go.Ab Go.Proofs Tryz Go.Hy
def yA{P:Program}{o:Oper}{σ:Operand->Value}{t t':TypeId}{x y:Operand}{k:IntKind}{n m:Int}(ho:o.op=.binOp .rem t x y t')(hx:σ x=.int k n)(hy:σ y=.int k m)(hm:m≠0):
  nh P (execOp σ o)=some (.value (.int k (n.tmod m))):=by
 have hi:Op.intDiv .rem k n m=pure (.int k (n.tmod m)):=by unfold Op.intDiv;rw[gp hm]
 have hg:eqGuard .rem t x y (σ x) (σ y)=pure ():=rfl
 have hb:binOp .rem t (σ x) (σ y)=pure (.int k (n.tmod m)):=by
  rw[hx,hy];simp only[binOp,hi];exact gp aj
 unfold execOp;rw[ho];dsimp only;rw[hg,hb]
 rfl
def yF(p:Int)(l:List Int):Int×Int:=if p<0 then (0,1) else if l.length=0 then (0,5) else ((l[(p%l.length).toNat]?).getD 0,0)
def Zh(l:List Int):tj 47 [] [lI l] (.fn 88 [] [.ref 1 [] 1 0 0,.ref 0 [] 1 0 0]) [⟨1,28,1,[[lI l]],0⟩,⟨1,3,1,[[I (-1)]],0⟩]:=by
 refine zb.zN (fn:=f47) func47 V (uH ?_);exact uJ
def Pb(l:List Int)(i:Int)(x:Int)(h0: -1<=i)(h1:i<1000000000000)(hl:0<l.length)(hl2:l.length<1000000000000)(hx:l[((i+1)%l.length).toNat]?=some x):
  tj 88 [⟨1,28,1,[[lI l]],0⟩,⟨1,3,1,[[I (i)]],0⟩] [.ref 1 [] 1 0 0,.ref 0 [] 1 0 0] (I x) [⟨1,28,1,[[lI l]],0⟩,⟨1,3,1,[[I ((i+1)%l.length)]],0⟩]:=by
 have ml:(l.map encI).length=l.length:=gC ..;have hw:IntKind.i64.wrap (i+1)=i+1:=z7 aw aw;have hn:(((l.map encI).length:Nat):Int)≠0:=aw
 have et:(i+1).tmod (((l.map encI).length:Nat):Int)=(i+1)%l.length:=by rw[ml];exact sD aw
 have b0:0<=(i+1)%(l.length:Int):=sS _ aw;have hg:(l.map encI)[((i+1)%(l.length:Int)).toNat]?=some [I x]:=by rw[gy,hx];rfl
 refine zb.zN (fn:=f88) func88 V (uH ?_);rw[hw];split;(rotate_left;(rename_i hno;exact(hno _ (yA V V V hn)).elim));(rename_i v e;cases e.symm.trans (yA rfl rfl rfl hn));refine dd ?_
 rw[et];refine⟨b0,_,hg,dd ?_⟩;exact uJ
def Y9(p:Int)(l:List Int)(hp:i64 p)(hl:l.length<1000000000000):tj 19 [] [I p,lI l] (.fJ [I (yF p l).1,I (yF p l).2]) []:=by
 have ml:(l.map encI).length=l.length:=gC ..;refine ab func19 ?_;refine⟨λh1=>?_,λh1=>?_⟩
 .have h1:p<0:=by simpa using h1
  have e:yF p l=(0,1):=gz h1;rw[e];exact dp
 have h1:¬p<0:=aq h1
 refine dd ?_;rw[ml];refine⟨λh2=>?_,λh2=>?_⟩
 .have h2:l.length=0:=by have h2:=gL h2;omega
  have e:yF p l=(0,5):=(gp h1).trans (gz h2);rw[e];exact dp
 have h2:l.length≠0:=by have h2:=rE h2;omega
 have e:yF p l=((l[(p%l.length).toNat]?).getD 0,0):=(gp h1).trans (gp h2);rw[e];have b0:0<=p%(l.length:Int):=sS _ aw;have b1:p%(l.length:Int)<l.length:=sT _ aw;have at_:∀k:Nat,k<l.length->l[k]?=some ((l[k]?).getD 0):=λk hk=>by rw[gk hk];rfl
 have r0:=Pb l (-1) ((l[0]?).getD 0) ar ar aw hl (by rw[show(-1+1:Int)%l.length=0 from by rw[show(-1+1:Int)=0 from V];exact Int.zero_emod _];exact at_ 0 aw);rw[show(-1+1:Int)%l.length=0 from by rw[show(-1+1:Int)=0 from V];exact Int.zero_emod _]at r0;refine dd ?_;refine af [] (Zh l) ?_;refine⟨_,_,r0,dd ?_⟩;have hn:(((l.map encI).length:Nat):Int)≠0:=aw
 have et:p.tmod (((l.map encI).length:Nat):Int)=p%l.length:=by rw[ml];exact sD aw
 split;(rotate_left;(rename_i hno;exact(hno _ (yA V V V hn)).elim));(rename_i v e;cases e.symm.trans (yA rfl rfl rfl hn));refine dd ?_
 rw[et];obtain⟨N,hN⟩:∃N:Nat,p%(l.length:Int)=N:=⟨(p%(l.length:Int)).toNat,aw⟩;rw[hN];rw[hN]at b1;refine qg.seq N (λk=>(I p::(lI l)::.za::.za::I 0::I 0::.fn 88 [] [.ref 1 [] 1 0 0,.ref 0 [] 1 0 0]::I ((l[k]?).getD 0)::tY ([.za,.za,.za,.za,.za,.za,I (N:Int),I k,.za,.za,.za,.za,.za]))) (λk=>[⟨1,28,1,[[lI l]],0⟩,⟨1,3,1,[[I ((k:Int))]],0⟩]) (λk=>True) ?_ trivial (λk hk hr=>?_) (λhr=>?_)
 .exact cC
 .have r1:=Pb l k ((l[k+1]?).getD 0) aw aw aw hl (by rw[Int.emod_eq_of_lt aw aw];exact at_ (k+1) aw);rw[Int.emod_eq_of_lt aw aw]at r1;conv=>whnf
  refine uF ?_;refine⟨_,_,r1,dd ?_⟩;refine zaF ?_;rw[zw aw];exact cC
 .exact gf
end Go.Ply
namespace Go.Ply
open Go.Ab Go.Proofs Tryz Go.Hy Go.Wor
variable{T:List (List fQ)}{X:List fM}{x:fM}
abbrev iC:=Wor×List fM×List fG
structure Un(X:List fM)(w:Wor)(out:List fG)(p:Int)(s':iC):Prop where
 go:(qD X X.length=[]/\s'=(w,X,out))\/∃(t:Nat) (x:fM) (e:fG),(qD X X.length)[(p%(qD X X.length).length).toNat]?=some t/\X[t]?=some x/\s'.2.1.length=X.length/\s'.2.2=out++[e]/\
  tj 20 (Ao 1 X) [.ref 0 [] 48 t 0,.agg (yC w),I t] (.fJ [.agg (yC s'.1),.agg (xv e)]) (Ao 1 s'.2.1)
def UQ:List C:=[I 0,I 0,I 0,I 0,I 0,I 0,I 0,I 0,I 0,U 0,I 0,I 0,I 0,I 0,Bo false]++xx ⟨0,0,0,0,0,0,0,⟨0,0,0,0,0,0⟩⟩++CZ ⟨0,0,0,0,0,0⟩
def BO(c:C):List C:=c::I 0::Bo false::([I 0,Tx [],Tx [],Tx [],I 0,I 0,I 0,.fF 1 0 [],.fF 1 0 [],.fF 1 0 []]++UQ++[.fF 1 0 []])
def B4(T:List (List fQ))(k:Nat):List (List C):=(T.take k).map (λl=>BO (lP l))++List.replicate (T.length-k) (BO (.fF 1 0 []))
def zwN{k:Nat}(hk:k<T.length):(B4 T k)[k]?=some (BO (.fF 1 0 [])):=by
 unfold B4;have e:((T.take k).map λl=>BO (lP l)).length=k:=aA
 rw[gP aw,e,rR,sP,gz aw]
def zub{k:Nat}(hk:k<T.length):(B4 T k).set k (BO (lP T[k]))=B4 T (k+1):=by
 unfold B4;have e:((T.take k).map λl=>BO (lP l)).length=k:=aA
 have e2:T.length-k=(T.length-(k+1))+1:=aw
 rw[ey _ _ aw,e,rR,e2,sN,sA,rj hk,pR,rO]
 rfl
def E5(l:List fQ):List C:=lP l::I 0::Bo false::(mJ Tv++[.fF 1 0 []])
def zua(l:List fQ):i7 (BO (lP l)) (E5 l):=by
 have r:∀cs:List C,i7 cs cs:=λcs=>by
  induction cs with
  |nil=>exact .nil
  |cons c cs ih=>exact .cons (.refl _) ih
 exact .cons (.refl _) (.cons (.refl _) (.cons (.refl _) (.cons (.refl _) (.cons (.refl _) (.cons (.refl _) (.cons (.refl _) (.cons (.refl _) (.cons (.refl _) (.cons (.refl _) (.cons (WC.nil 0 1) (.cons (WC.nil 0 4) (.cons (WC.nil 0 4) (r _)))))))))))))
def zzX(T:List (List fQ))(i:Nat):km (T.map kI) i=[]:=by
 unfold km;rw[gy];cases T[i]? with
 |none=>rfl
 |some l=>rfl
def Ve(hT:T.length<=8):yt 4 47 13 8 (T.map E5)=(T.map kI).mapIdx (qx 4):=by
 unfold yt;refine pC λi=>?_
 rw[pF,pF,gy,gy];cases hl:T[i]? with
 |none=>rfl
 |some l=>
  have:=(gh.1 hl).1;simp only[gK];rw[gz aw]
  rfl
def YK{B:Nat}{t:List C}(hT:T.length<=8)(O0 O1 O2:Ob):zp B ⟨t,[O0,O1,O2,⟨2,70,48,B4 T T.length,0⟩]⟩ ⟨t,O0::O1::O2::Ao 4 (T.map kI)⟩:=by
 have e:B4 T T.length=T.map λl=>BO (lP l):=by unfold B4;simp
 have own1:∀r∈T.map λl=>BO (lP l),∀c∈r,zB c=true:=λr hr=>by
  obtain⟨l,_,rfl⟩:=gY.1 hr;have e:(BO (lP l)).all zB=true:=rfl;exact gE.1 e
 have own2:∀r∈T.map E5,∀c∈r,zB c=true:=λr hr=>by
  obtain⟨l,_,rfl⟩:=gY.1 hr;have e:(E5 l).all zB=true:=rfl;exact gE.1 e
 rw[e];refine(zp.EF (s:=⟨t,[O0,O1,O2,⟨2,70,48,_,0⟩]⟩) 3 V own1).trans ?_;refine(zp.UZ (s:=⟨t,[O0,O1,O2,⟨1,0,48,_,0⟩]⟩) 3 (rows':=T.map E5) V aj (λi r r' h h'=>?_) own1 own2).trans ?_
 .obtain⟨l,h1,rfl⟩:=gT.1 ((gy ..).symm.trans h);obtain⟨l',h2,rfl⟩:=gT.1 ((gy ..).symm.trans h');rw[h1]at h2;cases h2
  exact zua l
 .have w:=zp.R4 (B:=B) (s:=⟨t,[O0,O1,O2,⟨1,0,48,T.map E5,0⟩]⟩) 3 47 66 13 (sz0:=0) V (λr hr=>by
   obtain⟨l,_,rfl⟩:=gY.1 hr
   rfl) own2 8
  have g:∀i,fH (T.map kI) i=⟨4,66,13,[],0⟩:=λi=>by unfold fH;rw[zzX];rfl
  show zp B _ ⟨t,[O0,O1,O2,nW 4 (T.map kI),fH (T.map kI) 0,fH (T.map kI) 1,fH (T.map kI) 2,fH (T.map kI) 3,fH (T.map kI) 4,fH (T.map kI) 5,fH (T.map kI) 6,fH (T.map kI) 7]⟩;unfold nW;rw[g,g,g,g,g,g,g,g,<-Ve hT];exact w
def KF(X:List fM):∀k,(qD X k).length<=k
 |0=>gG _
 |k+1=>by
  have:=KF X k;unfold qD;split
  .split
   .omega
   .simp;omega
  .omega
def mq(X:List fM)(k:Nat):List (List C):=(qD X k).map λ(n:Nat)=>[I (n:Int)]
def zxz(X:List fM)(k:Nat):(mq X k).length=(qD X k).length:=gC ..
def zxA{k:Nat}(hx:X[k]?=some x)(ho:CU x=false):mq X (k+1)=mq X k++[[I k]]:=by
 have:¬x.ops.length<=x.done:=by unfold CU at ho;simpa using ho
 have e:qD X (k+1)=qD X k++[k]:=by
  show(match X[k]? with|some x=>if x.ops.length<=x.done then qD X k else qD X k++[k]|none=>qD X k)=_;rw[hx];exact gp this
 unfold mq;rw[e,pR]
 rfl
def zzL{k:Nat}(hx:X[k]?=some x)(ho:CU x=true):mq X (k+1)=mq X k:=by
 have:x.ops.length<=x.done:=by unfold CU at ho;simpa using ho
 have e:qD X (k+1)=qD X k:=by
  show(match X[k]? with|some x=>if x.ops.length<=x.done then qD X k else qD X k++[k]|none=>qD X k)=_;rw[hx];exact gz this
 unfold mq;rw[e]
def Q5{b n:Nat}(h:b+8<=n)(hX:X.length<=8):∀r∈X.mapIdx (qx b),∀c∈r,je n 9 c=true:=λr hr=>by
 obtain⟨i,hi,rfl⟩:=uh.1 hr;exact Q6 b i n _ aw
def zyZ(hX:X.length<=8):zL [3,4,5,6,7,8,9,10,11] (nW 4 X)=nW 1 X:=by
 have e:(X.mapIdx (qx 4)).map (λr=>r.map (xX [3,4,5,6,7,8,9,10,11] 9))=X.mapIdx (qx 1):=by
  refine pC λi=>?_
  rw[gy,pF,pF];cases hx:X[i]? with
  |none=>rfl
  |some x=>
   have:=(gh.1 hx).1;rcases(by omega:i=0\/i=1\/i=2\/i=3\/i=4\/i=5\/i=6\/i=7) with rfl|rfl|rfl|rfl|rfl|rfl|rfl|rfl <;> rfl
 show(⟨1,0,48,(X.mapIdx (qx 4)).map (λr=>r.map (xX [3,4,5,6,7,8,9,10,11] 9)),0⟩:Ob)=_;rw[e]
def zyg(hX:X.length<=8)(n:Nat):zG (jm [3,4,5,6,7,8,9,10,11] n) (nW 1 X)=nW 4 X:=by
 have e:(X.mapIdx (qx 1)).map (λr=>r.map (vH (jm [3,4,5,6,7,8,9,10,11] n) 9))=X.mapIdx (qx 4):=by
  refine pC λi=>?_
  rw[gy,pF,pF];cases hx:X[i]? with
  |none=>rfl
  |some x=>
   have:=(gh.1 hx).1;rcases(by omega:i=0\/i=1\/i=2\/i=3\/i=4\/i=5\/i=6\/i=7) with rfl|rfl|rfl|rfl|rfl|rfl|rfl|rfl <;> rfl
 show(⟨1,0,48,(X.mapIdx (qx 1)).map (λr=>r.map (vH (jm [3,4,5,6,7,8,9,10,11] n) 9)),0⟩:Ob)=_;rw[e]
def RM(b:Nat)(X:List fM):∀r∈X.mapIdx (qx b),∀c∈r,zB c=true:=λr hr=>by
 obtain⟨i,hi,rfl⟩:=uh.1 hr;exact zwn b i _
def ztY(s:fU)(b:Wor×Int)(St:Nat->iC)(hb:tj 17 [] [.agg (w7 s)] (.fJ [.agg (yC b.1),I b.2]) [])(hn:b.2=0->s.threads.length<=8/\s.zJ.length<=4000/\∀p∈s.zJ,0<=p/\i64 p)
 (h0:St 0=(b.1,s.threads.map kI,[]))(hs:b.2=0->∀k p,s.zJ[k]?=some p->Un (St k).2.1 (St k).1 (St k).2.2 p (St (k+1))):
  tj 6 [] [.agg (w7 s)] (.fJ [mC (if b.2=0 then (St s.zJ.length).2.2 else []),.agg (yC (if b.2=0 then (St s.zJ.length).1 else ⟨0,0,0,[],[],[],[],[]⟩)),I b.2]) []:=by
 have m1:(s.threads.map xy).length=s.threads.length:=gC ..;have m2:(s.zJ.map encI).length=s.zJ.length:=gC ..;refine ab func6 ?_;refine ah hb ?_;refine⟨λh1=>?_,λh1=>?_⟩
 rotate_left
 .have e0:b.2=0:=by simpa using h1
  obtain⟨n1,n2,n3⟩:=hn e0;have hs:=hs e0;rw[gz e0,gz e0,e0];refine zad ?_
  rw[m1];refine⟨rfl,aw,by show(488:Int)*_<=_;omega,aw,dd ?_⟩;rw[toNat_cast,m1];refine qg.seq s.threads.length (λk=>(.za::.ref 0 [] 5 0 0:: .za::.ref 1 [] 8 0 0:: .za::.ref 2 [] 8 0 0:: .za::.sl 3 [] 48 0 s.threads.length false:: tY (tY (tY (DB s.threads::I s.threads.length::I k:: .za::tY (jp (tY ([])))))))) (λk=>[oS s,⟨1,38,8,[oP],0⟩,oW b.1,⟨2,70,48,B4 s.threads k,0⟩]) (λ_=>True) ?_ trivial (λk hk _=>?_) (λ_=>?_)
  .exact cC
  .have hg:(s.threads.map xy)[k]?=some (xy s.threads[k]):=by rw[gy,gk hk];rfl
   conv=>whnf
   refine zan ?_
   refine⟨aw,by rw[toNat_cast];exact hk,dd ?_⟩;rw[show 0+((k:Int)).toNat=k from aj];refine⟨_,zwN hk,rfl,dd ?_⟩;refine zaF ?_;rw[zw aw,<-zub hk];exact cC
  .refine uD ?_;rw[m2];refine qg.seq s.zJ.length (λk=>(.za::.ref 0 [] 5 0 0:: .za::.ref 1 [] 8 0 0:: .za::.ref 2 [] 8 0 0:: .za::.sl 3 [] 48 0 s.threads.length false:: .za::.za::.gl 12 23 ((St k).2.2.map xv):: .za::.za::.za::.za::tY (tY (tY (tY (lI s.zJ::I s.zJ.length::I k:: .za::.za::tY (tY (tY (tY ([])))))))))) (λk=>(oS s)::⟨1,38,8,[oP],0⟩::(oW ((St k).1))::(Ao 4 (St k).2.1++[⟨4,77,23,((St k).2.2).map xv,0⟩])) (λk=>(St k).2.1.length=s.threads.length/\(St k).2.2.length<=k) ?_ (by rw[h0];exact⟨gC ..,gG _⟩) (λk hk hr=>?_) (λhr=>?_)
   .refine(YK n1 _ _ _).trans ?_;rw[h0];exact(zp.grow 10 77 23 V (.inl V)).trans (cC)
   .have hp:s.zJ[k]?=some s.zJ[k]:=gk hk;have hg:(s.zJ.map encI)[k]?=some (encI s.zJ[k]):=by rw[gy,hp];rfl
    have h1:=hs k s.zJ[k] hp;generalize hS:St k=S at *;obtain⟨w,X,out⟩:=S;obtain⟨hr,ho⟩:=hr;have hr:X.length=s.threads.length:=hr;have ho:out.length<=k:=ho;have hal:=KF X X.length;conv=>whnf
    refine zan ?_
    rw[<-hr];refine⟨_,_,W8 X 4 false _ _ _ _ _ _ _ _ _ _ _ _ _,uH ?_⟩;refine⟨_,zp.B7 13 0 3 1 V V (.inl V) V V,?_⟩
    refine⟨.normal,_,(oS s)::⟨1,38,8,[oP],0⟩::(oW w)::nW 4 X::fH X 0::fH X 1::fH X 2::fH X 3::fH X 4::fH X 5::fH X 6::fH X 7::⟨4,77,23,(out).map xv,0⟩::[⟨1,28,1,[[.gl 15 1 (mq X X.length)]],0⟩,⟨1,60,1,[[.sl 3 [] 48 0 X.length false]],0⟩,⟨4,3,1,mq X X.length,0⟩],
     λl r h1 h2 h3 h4 h5=>⟨_,_,r,We l X 4 false aw _ _ _ _ _ _ _ _ _ _ _ _ (λk=>⟨1,28,1,[[.gl 15 1 (mq X k)]],0⟩) (λk=>[⟨4,3,1,mq X k,0⟩,iN l r _]) (λk x hx ho=>?_) (λk x hx ho=>?_),
     rfl,bf,rfl,pa _,bh,zp.drop 16 V V V (zI V (zI V (zI V (zI (qp (Q5 (b:=4) ar aw)) V))))⟩,?_⟩
    .refine jM.zN (id:=16) V h1 h2 h3 h4 h5 V V V ?_;conv=>whnf
     refine⟨rfl,rfl,uH ?_⟩;have hkl:=(gh.1 hx).1;have mal:=zxz X k;have al2:=KF X k;refine⟨rfl,.inr V,ay,bj,uH ?_⟩;have e:mq X (k+1)=mq X k++[[I k]]:=zxA hx ho;rw[e];exact dg
    .have e:mq X (k+1)=mq X k:=zzL hx ho;exact⟨by simp only[e],by simp only[e]⟩
    conv=>whnf
    have hp0:=n3 s.zJ[k] (pt hk);have ll:((qD X X.length).map λ(n:Nat)=>(n:Int)).length=(qD X X.length).length:=gC ..;have pk:=Y9 s.zJ[k] ((qD X X.length).map λ(n:Nat)=>(n:Int)) hp0.2 aw;have el:(((qD X X.length).map λ(n:Nat)=>(n:Int)).map encI)=mq X X.length:=by unfold mq;rw[rC];rfl
    unfold lI at pk;rw[el]at pk;have h1:=h1.go;rcases h1 with⟨ha,hS2⟩|⟨t,x,e,ha,hx,hX2,ho2,hst⟩
    .have ep:yF s.zJ[k] ((qD X X.length).map λ(n:Nat)=>(n:Int))=(0,5):=by
      unfold yF;rw[gp aw,gz (by rw[ll];exact rF.2 ha)]
     rw[ep]at pk;refine⟨_,_,pk.frame V _,dd ?_⟩;refine hZ ?_
     refine zaw ?_
     have stay:∀j,k+j<=s.zJ.length->St (k+j)=(w,X,out):=λj=>by
      induction j with
      |zero=>intro _;exact hS
      |succ j ih=>
       intro hj;have q:=ih aw;have g:=(hs (k+j) _ (gk aw)).go;rw[q]at g;rcases g with⟨_,g⟩|⟨t,x,e,g,_⟩
       .exact g
       .rw[ha]at g;cases g
     have last:=stay (s.zJ.length-k) aw;rw[show k+(s.zJ.length-k)=s.zJ.length from aw]at last;rw[last];refine .inl ⟨⟨false,[1],[2],[]⟩,au,uH ?_⟩;refine hU ?_
     exact uI
    .have ep:yF s.zJ[k] ((qD X X.length).map λ(n:Nat)=>(n:Int))=((t:Int),0):=by
      have hne:(qD X X.length).length≠0:=λz=>by rw[rF.1 z]at ha;cases ha
      unfold yF;rw[gp aw,gp (by rw[ll];exact hne),ll,gy,ha]
      rfl
     rw[ep]at pk;have pk:tj 19 [] [I s.zJ[k],.fF 0 1 (mq X X.length)] (.fJ [I (t:Int),I 0]) []:=pk;have htl:=(gh.1 hx).1;refine⟨_,_,pk.frame V _,dd ?_⟩;refine hZ ?_
     refine zaz ?_;refine⟨aw,by rw[toNat_cast];exact htl,dd ?_⟩;rw[show 0+((t:Int)).toNat=t from aj];have hX8:(St (k+1)).2.1.length<=8:=aw
     generalize hS':St (k+1)=S' at *;obtain⟨w',X',out'⟩:=S';have hX2:X'.length=X.length:=hX2;have ho2:out'=out++[e]:=ho2;have hst:tj 20 (Ao 1 X) [.ref 0 [] 48 t 0,.agg (yC w),I t] (.fJ [.agg (yC w'),.agg (xv e)]) (Ao 1 X'):=hst;refine Go.Wor.zX [3,4,5,6,7,8,9,10,11] ((oS s)::⟨1,38,8,[oP],0⟩::(oW w)::(Ao 4 X'++[⟨4,77,23,(out).map xv,0⟩,⟨1,28,1,[[.gl 15 1 (mq X X.length)]],0⟩,⟨1,60,1,[[.sl 3 [] 48 0 X.length false]],0⟩,⟨4,3,1,mq X X.length,0⟩,⟨1,77,23,[[I 0,I 0,I 0,I 0,I 0,Bo false,I 0,Bo false,Bo false,Bo false,I 0,I 0,I 0,I 0,I 0,I 0,I 0,U 0,U 0,U 0,U 0,U 0,U 0]],0⟩])) (rx:=.fJ [.agg (yC w'),.agg (xv e)]) hst (zd (zi (RM 1 X')) V) (by show zL _ (nW 4 X)::_=_;rw[zyZ aw];rfl) V V V (zd V (zd V (zd V (zd (zi (RM 4 X)) V)))) (by show _::_::_::zG _ (nW 1 X')::_=_;rw[zyg aw];rfl) V (dd ?_);have mO:(out.map xv).length=out.length:=gC ..;refine⟨rfl,.inr V,by show(out.map xv).length+1<=maxLen;rw[mO];simp[maxLen];omega,by show((((out.map xv).length+1)*168:Nat):Nat)<=_;rw[mO];omega,dd ?_⟩;refine .inl ⟨rfl,?_,hX2,by rw[ho2,pz,rP];omega⟩;have eO:out.map xv++[[I e.zf,I e.op,I e.access,I e.cell,I e.version,Bo e.qX,I e.value,Bo e.q9,Bo e.jd,Bo e.done,I e.answer.kind,I e.answer.version,I e.answer.zg,I e.answer.end_,I e.answer.slot,I e.answer.listen,I e.answer.n,U e.answer.counts.c0,U e.answer.counts.c1,U e.answer.counts.c2,U e.answer.counts.c3,U e.answer.counts.c4,U e.answer.counts.c5]]=out'.map xv:=by rw[ho2,pR];rfl
     rw[zw aw];dsimp only;rw[eO];exact zp.xO 13 hC V V V (zI V (zI V (zI V (zI (qp (Q5 (b:=4) ar aw)) V)))) V
   .refine uD ?_;refine .inl ⟨⟨false,[1],[2],[]⟩,au,uH ?_⟩;refine hU ?_
    exact uI
 .have e0:b.2≠0:=by simpa using h1
  rw[gp e0,gp e0];refine zad ?_
  exact⟨.inl V,_,(zp.var 1 V V V (.cons (.refl _) (.cons (.refl _) (.cons (.refl _) (.cons (WC.nil 0 1) (.cons (WC.nil 0 5) (.cons (WC.nil 0 4) (.cons (WC.nil 0 1) (.cons (WC.nil 0 3) .nil))))))))).trans (zp.grow 2 77 23 V (.inl V)),rfl⟩
end Go.Ply
