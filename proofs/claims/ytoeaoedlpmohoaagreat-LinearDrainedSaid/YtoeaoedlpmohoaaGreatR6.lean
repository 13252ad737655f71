import Derived.Test.YtoeaoedlpmohoaaGreatRJ
import Derived.Test.YtoeaoedlpmohoaaGreatProg
import Derived.Test.YtoeaoedlpmohoaaGreatR2
import Derived.Test.YtoeaoedlpmohoaaGreatRW
set_option linter.all false
set_option maxRecDepth 100000
set_option maxHeartbeats 4000000
namespace Go.Ply
open Go.Ab Go.Proofs Tryz Go.Hy
def yi{P:Program}{o:Oper}{σ:Operand->Value}{t t':TypeId}{x y:Operand}{k:IntKind}{n m:Int}(ho:o.op=.binOp .rem t x y t')(hx:σ x=.int k n)(hy:σ y=.int k m)(hm:m≠0):
  mJ P (execOp σ o)=some (.value (.int k (n.tmod m))):=by
 have hi:Op.intDiv .rem k n m=pure (.int k (n.tmod m)):=by unfold Op.intDiv;rw[gu hm]
 have hg:eqGuard .rem t x y (σ x) (σ y)=pure ():=rfl
 have hb:binOp .rem t (σ x) (σ y)=pure (.int k (n.tmod m)):=by
  rw[hx,hy];simp only[binOp,hi];exact gu aj
 unfold execOp;rw[ho];dsimp only;rw[hg,hb]
 rfl
def ym(p:Int)(l:List Int):Int×Int:=if p<0 then (0,1) else if l.length=0 then (0,5) else ((l[(p%l.length).toNat]?).getD 0,0)
def TP(l:List Int):tn 61 [] [lI l] (.fn 91 [] [.ref 1 [] 1 0 0,.ref 0 [] 1 0 0]) [⟨1,28,1,[[lI l]],0⟩,⟨1,3,1,[[I (-1)]],0⟩]:=by
 refine zb.zI (fn:=f61) func61 rfl (uH ?_);exact uJ
def Lp(l:List Int)(i:Int)(x:Int)(h0: -1<=i)(h1:i<1000000000000)(hl:0<l.length)(hl2:l.length<1000000000000)(hx:l[((i+1)%l.length).toNat]?=some x):
  tn 91 [⟨1,28,1,[[lI l]],0⟩,⟨1,3,1,[[I (i)]],0⟩] [.ref 1 [] 1 0 0,.ref 0 [] 1 0 0] (I x) [⟨1,28,1,[[lI l]],0⟩,⟨1,3,1,[[I ((i+1)%l.length)]],0⟩]:=by
 have ml:(l.map encI).length=l.length:=gE ..;have hw:IntKind.i64.wrap (i+1)=i+1:=qd aw aw;have hn:(((l.map encI).length:Nat):Int)≠0:=aw
 have et:(i+1).tmod (((l.map encI).length:Nat):Int)=(i+1)%l.length:=by rw[ml];exact sI aw
 have b0:0<=(i+1)%(l.length:Int):=sR _ aw;have hg:(l.map encI)[((i+1)%(l.length:Int)).toNat]?=some [I x]:=by rw[gz,hx];rfl
 refine zb.zI (fn:=f91) func91 rfl (uH ?_);rw[hw];split;(rotate_left;(rename_i hno;exact(hno _ (yi rfl rfl rfl hn)).elim));(rename_i v e;cases e.symm.trans (yi rfl rfl rfl hn));refine dd ?_
 rw[et];refine⟨b0,_,hg,dd ?_⟩;exact uJ
def T9(p:Int)(l:List Int)(hp:i64 p)(hl:l.length<1000000000000):tn 32 [] [I p,lI l] (.fC [I (ym p l).1,I (ym p l).2]) []:=by
 have ml:(l.map encI).length=l.length:=gE ..;refine ab func32 ?_;refine⟨λh1=>?_,λh1=>?_⟩
 ·have h1:p<0:=by simpa using h1
  have e:ym p l=(0,1):=gC h1;rw[e];exact dA
 have h1:¬p<0:=aq h1
 refine dd ?_;rw[ml];refine⟨λh2=>?_,λh2=>?_⟩
 ·have h2:l.length=0:=by have h2:=pA h2;omega
  have e:ym p l=(0,5):=(gu h1).trans (gC h2);rw[e];exact dA
 have h2:l.length≠0:=by have h2:=rD h2;omega
 have e:ym p l=((l[(p%l.length).toNat]?).getD 0,0):=(gu h1).trans (gu h2);rw[e];have b0:0<=p%(l.length:Int):=sR _ aw;have b1:p%(l.length:Int)<l.length:=sS _ aw;have at_:∀k:Nat,k<l.length->l[k]?=some ((l[k]?).getD 0):=λk hk=>by rw[gp hk];rfl
 have r0:=Lp l (-1) ((l[0]?).getD 0) ar ar aw hl (by rw[show(-1+1:Int)%l.length=0 from by rw[show(-1+1:Int)=0 from rfl];exact Int.zero_emod _];exact at_ 0 aw);rw[show(-1+1:Int)%l.length=0 from by rw[show(-1+1:Int)=0 from rfl];exact Int.zero_emod _]at r0;refine dd ?_;refine af [] (TP l) ?_;refine⟨_,_,r0,dd ?_⟩;have hn:(((l.map encI).length:Nat):Int)≠0:=aw
 have et:p.tmod (((l.map encI).length:Nat):Int)=p%l.length:=by rw[ml];exact sI aw
 split;(rotate_left;(rename_i hno;exact(hno _ (yi rfl rfl rfl hn)).elim));(rename_i v e;cases e.symm.trans (yi rfl rfl rfl hn));refine dd ?_
 rw[et];obtain⟨N,hN⟩:∃N:Nat,p%(l.length:Int)=N:=⟨(p%(l.length:Int)).toNat,aw⟩;rw[hN];rw[hN]at b1;refine zZ.seq N (λk=>(I p::(lI l)::.za::.za::I 0::I 0::.fn 91 [] [.ref 1 [] 1 0 0,.ref 0 [] 1 0 0]::I ((l[k]?).getD 0)::mC ([.za,.za,.za,.za,.za,.za,I (N:Int),I k,.za,.za,.za,.za,.za]))) (λk=>[⟨1,28,1,[[lI l]],0⟩,⟨1,3,1,[[I ((k:Int))]],0⟩]) (λk=>True) ?_ trivial (λk hk hr=>?_) (λhr=>?_)
 ·exact cC
 ·have r1:=Lp l k ((l[k+1]?).getD 0) aw aw aw hl (by rw[Int.emod_eq_of_lt aw aw];exact at_ (k+1) aw);rw[Int.emod_eq_of_lt aw aw]at r1;conv=>whnf
  refine uF ?_;refine⟨_,_,r1,dd ?_⟩;refine .inl ⟨rfl,?_,trivial⟩;rw[zw aw];exact cC
 ·refine uD ?_;exact uI
end Go.Ply
namespace Go.Ply
open Go.Ab Go.Proofs Tryz Go.Hy Go.Wor
abbrev iE:=Wor×List fN×List fx
structure zxk(X:List fN)(w:Wor)(out:List fx)(p:Int)(s':iE):Prop where
 go:(qJ X X.length=[]/\s'=(w,X,out))\/∃(t:Nat) (x:fN) (e:fx),(qJ X X.length)[(p%(qJ X X.length).length).toNat]?=some t/\X[t]?=some x/\s'.2.1.length=X.length/\s'.2.2=out++[e]/\
  tn 33 (nT 1 X) [.ref 0 [] 48 t 0,.agg (zU w),I t] (.fC [.agg (zU s'.1),.agg (zS e)]) (nT 1 s'.2.1)
def zxR:List C:=[I 0,I 0,I 0,I 0,I 0,I 0,I 0,I 0,I 0,U 0,I 0,I 0,I 0,I 0,Bo false]++yG ⟨0,0,0,0,0,0,0,⟨0,0,0,0,0,0⟩⟩++B1 ⟨0,0,0,0,0,0⟩
def Am(c:C):List C:=c::I 0::Bo false::([I 0,Tx [],Tx [],Tx [],I 0,I 0,I 0,.fp 1 0 [],.fp 1 0 [],.fp 1 0 []]++zxR++[.fp 1 0 []])
def AJ(T:List (List fG))(k:Nat):List (List C):=(T.take k).map (λl=>Am (lP l))++List.replicate (T.length-k) (Am (.fp 1 0 []))
def Xy{T:List (List fG)}{k:Nat}(hk:k<T.length):(AJ T k)[k]?=some (Am (.fp 1 0 [])):=by
 unfold AJ;have e:((T.take k).map λl=>Am (lP l)).length=k:=aA
 rw[gO aw,e,rR,sQ,gC aw]
def V5{T:List (List fG)}{k:Nat}(hk:k<T.length):(AJ T k).set k (Am (lP T[k]))=AJ T (k+1):=by
 unfold AJ;have e:((T.take k).map λl=>Am (lP l)).length=k:=aA
 have e2:T.length-k=(T.length-(k+1))+1:=aw
 rw[sY _ _ aw,e,rR,e2,sO,um,rb hk,rp,pG]
 rfl
def C9(l:List fG):List C:=lP l::I 0::Bo false::(zE OX++[.fp 1 0 []])
def V4(l:List fG):iU (Am (lP l)) (C9 l):=by
 have r:∀cs:List C,iU cs cs:=λcs=>by
  induction cs with
  |nil=>exact .nil
  |cons c cs ih=>exact .cons (.refl _) ih
 exact .cons (.refl _) (.cons (.refl _) (.cons (.refl _) (.cons (.refl _) (.cons (.refl _) (.cons (.refl _) (.cons (.refl _) (.cons (.refl _) (.cons (.refl _) (.cons (.refl _) (.cons (WC.nil 0 1) (.cons (WC.nil 0 4) (.cons (WC.nil 0 4) (r _)))))))))))))
def Z4(T:List (List fG))(i:Nat):vv (T.map wW) i=[]:=by
 unfold vv;rw[gz];cases T[i]? with
 |none=>rfl
 |some l=>rfl
def zxB{T:List (List fG)}(hT:T.length<=8):x8 4 47 13 8 (T.map C9)=(T.map wW).mapIdx (qv 4):=by
 unfold x8;refine pL λi=>?_
 rw[pU,pU,gz,gz];cases hl:T[i]? with
 |none=>rfl
 |some l=>
  have:=(gm.1 hl).1;simp only[gL];rw[gC aw]
  rfl
def TG{B:Nat}{t:List C}{T:List (List fG)}(hT:T.length<=8)(O0 O1 O2:Ob):zp B ⟨t,[O0,O1,O2,⟨2,97,48,AJ T T.length,0⟩]⟩ ⟨t,O0::O1::O2::nT 4 (T.map wW)⟩:=by
 have e:AJ T T.length=T.map λl=>Am (lP l):=by unfold AJ;simp
 have own1:∀r∈T.map λl=>Am (lP l),∀c∈r,zy c=true:=λr hr=>by
  obtain⟨l,_,rfl⟩:=pd.1 hr;have e:(Am (lP l)).all zy=true:=rfl;exact gI.1 e
 have own2:∀r∈T.map C9,∀c∈r,zy c=true:=λr hr=>by
  obtain⟨l,_,rfl⟩:=pd.1 hr;have e:(C9 l).all zy=true:=rfl;exact gI.1 e
 rw[e];refine(zp.CY (s:=⟨t,[O0,O1,O2,⟨2,97,48,_,0⟩]⟩) 3 rfl own1).trans ?_;refine(zp.zx3 (s:=⟨t,[O0,O1,O2,⟨1,0,48,_,0⟩]⟩) 3 (rows':=T.map C9) rfl aj (λi r r' h h'=>?_) own1 own2).trans ?_
 ·obtain⟨l,h1,rfl⟩:=gU.1 ((gz ..).symm.trans h);obtain⟨l',h2,rfl⟩:=gU.1 ((gz ..).symm.trans h');rw[h1]at h2;cases h2
  exact V4 l
 ·have w:=zp.N8 (B:=B) (s:=⟨t,[O0,O1,O2,⟨1,0,48,T.map C9,0⟩]⟩) 3 47 51 13 (sz0:=0) rfl (λr hr=>by
   obtain⟨l,_,rfl⟩:=pd.1 hr
   rfl) own2 8
  have g:∀i,fy (T.map wW) i=⟨4,51,13,[],0⟩:=λi=>by unfold fy;rw[Z4];rfl
  show zp B _ ⟨t,[O0,O1,O2,mS 4 (T.map wW),fy (T.map wW) 0,fy (T.map wW) 1,fy (T.map wW) 2,fy (T.map wW) 3,fy (T.map wW) 4,fy (T.map wW) 5,fy (T.map wW) 6,fy (T.map wW) 7]⟩;unfold mS;rw[g,g,g,g,g,g,g,g,<-zxB hT];exact w
def HP(X:List fN):∀k,(qJ X k).length<=k
 |0=>gJ _
 |k+1=>by
  have:=HP X k;unfold qJ;split
  ·split
   ·omega
   ·simp;omega
  ·omega
def lh(X:List fN)(k:Nat):List (List C):=(qJ X k).map λ(n:Nat)=>[I (n:Int)]
def Yz(X:List fN)(k:Nat):(lh X k).length=(qJ X k).length:=gE ..
def YB{X:List fN}{k:Nat}{x:fN}(hx:X[k]?=some x)(ho:Bu x=false):lh X (k+1)=lh X k++[[I k]]:=by
 have:¬x.ops.length<=x.done:=by unfold Bu at ho;simpa using ho
 have e:qJ X (k+1)=qJ X k++[k]:=by
  show(match X[k]? with|some x=>if x.ops.length<=x.done then qJ X k else qJ X k++[k]|none=>qJ X k)=_;rw[hx];exact gu this
 unfold lh;rw[e,rp]
 rfl
def ZV{X:List fN}{k:Nat}{x:fN}(hx:X[k]?=some x)(ho:Bu x=true):lh X (k+1)=lh X k:=by
 have:x.ops.length<=x.done:=by unfold Bu at ho;simpa using ho
 have e:qJ X (k+1)=qJ X k:=by
  show(match X[k]? with|some x=>if x.ops.length<=x.done then qJ X k else qJ X k++[k]|none=>qJ X k)=_;rw[hx];exact gC this
 unfold lh;rw[e]
def ND{X:List fN}{b n:Nat}(h:b+8<=n)(hX:X.length<=8):∀r∈X.mapIdx (qv b),∀c∈r,jg n 9 c=true:=λr hr=>by
 obtain⟨i,hi,rfl⟩:=eJ.1 hr;exact NF b i n _ aw
def YQ{X:List fN}(hX:X.length<=8):zN [3,4,5,6,7,8,9,10,11] (mS 4 X)=mS 1 X:=by
 have e:(X.mapIdx (qv 4)).map (λr=>r.map (xW [3,4,5,6,7,8,9,10,11] 9))=X.mapIdx (qv 1):=by
  refine pL λi=>?_
  rw[gz,pU,pU];cases hx:X[i]? with
  |none=>rfl
  |some x=>
   have:=(gm.1 hx).1;rcases(by omega:i=0\/i=1\/i=2\/i=3\/i=4\/i=5\/i=6\/i=7) with rfl|rfl|rfl|rfl|rfl|rfl|rfl|rfl <;> rfl
 show(⟨1,0,48,(X.mapIdx (qv 4)).map (λr=>r.map (xW [3,4,5,6,7,8,9,10,11] 9)),0⟩:Ob)=_;rw[e]
def XT{X:List fN}(hX:X.length<=8)(n:Nat):zG (jc [3,4,5,6,7,8,9,10,11] n) (mS 1 X)=mS 4 X:=by
 have e:(X.mapIdx (qv 1)).map (λr=>r.map (yP (jc [3,4,5,6,7,8,9,10,11] n) 9))=X.mapIdx (qv 4):=by
  refine pL λi=>?_
  rw[gz,pU,pU];cases hx:X[i]? with
  |none=>rfl
  |some x=>
   have:=(gm.1 hx).1;rcases(by omega:i=0\/i=1\/i=2\/i=3\/i=4\/i=5\/i=6\/i=7) with rfl|rfl|rfl|rfl|rfl|rfl|rfl|rfl <;> rfl
 show(⟨1,0,48,(X.mapIdx (qv 1)).map (λr=>r.map (yP (jc [3,4,5,6,7,8,9,10,11] n) 9)),0⟩:Ob)=_;rw[e]
def NV(b:Nat)(X:List fN):∀r∈X.mapIdx (qv b),∀c∈r,zy c=true:=λr hr=>by
 obtain⟨i,hi,rfl⟩:=eJ.1 hr;exact Xq b i _
def VT(s:fW)(b:Wor×Int)(St:Nat->iE)(hb:tn 30 [] [.agg (qi s)] (.fC [.agg (zU b.1),I b.2]) [])(hn:b.2=0->s.threads.length<=8/\s.zW.length<=4000/\∀p∈s.zW,0<=p/\i64 p)
 (h0:St 0=(b.1,s.threads.map wW,[]))(hs:b.2=0->∀k p,s.zW[k]?=some p->zxk (St k).2.1 (St k).1 (St k).2.2 p (St (k+1))):
  tn 13 [] [.agg (qi s)] (.fC [mf (if b.2=0 then (St s.zW.length).2.2 else []),.agg (zU (if b.2=0 then (St s.zW.length).1 else ⟨0,0,0,[],[],[],[],[]⟩)),I b.2]) []:=by
 have m1:(s.threads.map xf).length=s.threads.length:=gE ..;have m2:(s.zW.map encI).length=s.zW.length:=gE ..;refine ab func13 ?_;refine ah hb ?_;refine⟨λh1=>?_,λh1=>?_⟩
 rotate_left
 ·have e0:b.2=0:=by simpa using h1
  obtain⟨n1,n2,n3⟩:=hn e0;have hs:=hs e0;rw[gC e0,gC e0,e0];refine dd ?_;refine tc ?_
  rw[m1];refine⟨rfl,aw,by show(488:Int)*_<=_;omega,aw,dd ?_⟩;rw[toNat_cast,m1];refine zZ.seq s.threads.length (λk=>(.za::.ref 0 [] 5 0 0:: .za::.ref 1 [] 8 0 0:: .za::.ref 2 [] 8 0 0:: .za::.sl 3 [] 48 0 s.threads.length false:: mC (mC (mC (Dc s.threads::I s.threads.length::I k:: .za::mC (mC (mC (mC (mC (mC ([]))))))))))) (λk=>[⟨1,30,5,[qi s],0⟩,⟨1,38,8,[[I 0,I 0,I 0,.fp 1 0 [],.fp 1 0 [],.fp 1 0 [],.fp 1 0 [],.fp 1 0 []]],0⟩,⟨1,38,8,[zU (b.1)],0⟩,⟨2,97,48,AJ s.threads k,0⟩]) (λ_=>True) ?_ trivial (λk hk _=>?_) (λ_=>?_)
  ·exact cC
  ·have hg:(s.threads.map xf)[k]?=some (xf s.threads[k]):=by rw[gz,gp hk];rfl
   conv=>whnf
   refine uF ?_;(refine td hg ?_)
   refine⟨aw,by rw[toNat_cast];exact hk,dd ?_⟩;rw[show 0+((k:Int)).toNat=k from aj];refine⟨_,Xy hk,rfl,dd ?_⟩;refine .inl ⟨rfl,?_,trivial⟩;rw[zw aw,<-V5 hk];exact cC
  ·refine uD ?_;rw[m2];refine zZ.seq s.zW.length (λk=>(.za::.ref 0 [] 5 0 0:: .za::.ref 1 [] 8 0 0:: .za::.ref 2 [] 8 0 0:: .za::.sl 3 [] 48 0 s.threads.length false:: .za::.za::.gl 12 23 ((St k).2.2.map zS):: .za::.za::.za::.za::mC (mC (mC (mC (lI s.zW::I s.zW.length::I k:: .za::.za::mC (mC (mC (mC ([])))))))))) (λk=>⟨1,30,5,[qi s],0⟩::⟨1,38,8,[[I 0,I 0,I 0,.fp 1 0 [],.fp 1 0 [],.fp 1 0 [],.fp 1 0 [],.fp 1 0 []]],0⟩::⟨1,38,8,[zU ((St k).1)],0⟩::(nT 4 (St k).2.1++[⟨4,55,23,((St k).2.2).map zS,0⟩])) (λk=>(St k).2.1.length=s.threads.length/\(St k).2.2.length<=k) ?_ (by rw[h0];exact⟨gE ..,gJ _⟩) (λk hk hr=>?_) (λhr=>?_)
   ·refine(TG n1 _ _ _).trans ?_;rw[h0];exact(zp.grow 10 55 23 rfl (.inl rfl)).trans (cC)
   ·have hp:s.zW[k]?=some s.zW[k]:=gp hk;have hg:(s.zW.map encI)[k]?=some (encI s.zW[k]):=by rw[gz,hp];rfl
    have h1:=hs k s.zW[k] hp;generalize hS:St k=S at *;obtain⟨w,X,out⟩:=S;obtain⟨hr,ho⟩:=hr;have hr:X.length=s.threads.length:=hr;have ho:out.length<=k:=ho;have hal:=HP X X.length;conv=>whnf
    refine uF ?_;(refine td hg ?_)
    rw[<-hr];refine⟨_,_,RV X 4 false _ _ _ _ _ _ _ _ _ _ _ _ _,uH ?_⟩;refine⟨_,zp.Ac 13 0 3 1 rfl rfl (.inl rfl) rfl rfl,?_⟩
    refine⟨.normal,_,⟨1,30,5,[qi s],0⟩::⟨1,38,8,[[I 0,I 0,I 0,.fp 1 0 [],.fp 1 0 [],.fp 1 0 [],.fp 1 0 [],.fp 1 0 []]],0⟩::⟨1,38,8,[zU (w)],0⟩::mS 4 X::fy X 0::fy X 1::fy X 2::fy X 3::fy X 4::fy X 5::fy X 6::fy X 7::⟨4,55,23,(out).map zS,0⟩::[⟨1,28,1,[[.gl 15 1 (lh X X.length)]],0⟩,⟨1,91,1,[[.sl 3 [] 48 0 X.length false]],0⟩,⟨4,3,1,lh X X.length,0⟩],
     λl r h1 h2 h3 h4 h5=>⟨_,_,r,QY l X 4 false aw _ _ _ _ _ _ _ _ _ _ _ _ (λk=>⟨1,28,1,[[.gl 15 1 (lh X k)]],0⟩) (λk=>[⟨4,3,1,lh X k,0⟩,iD l r _]) (λk x hx ho=>?_) (λk x hx ho=>?_),
     rfl,aZ,rfl,pb _,ba,zp.drop 16 rfl rfl rfl (zJ rfl (zJ rfl (zJ rfl (zJ (qk (ND (b:=4) ar aw)) rfl))))⟩,?_⟩
    ·refine jH.zI (id:=16) rfl h1 h2 h3 h4 h5 rfl rfl rfl ?_;conv=>whnf
     refine⟨rfl,rfl,uH ?_⟩;have hkl:=(gm.1 hx).1;have mal:=Yz X k;have al2:=HP X k;refine⟨rfl,.inr rfl,ay,bb,uH ?_⟩;have e:lh X (k+1)=lh X k++[[I k]]:=YB hx ho;rw[e];exact dg
    ·have e:lh X (k+1)=lh X k:=ZV hx ho;exact⟨by simp only[e],by simp only[e]⟩
    conv=>whnf
    have hp0:=n3 s.zW[k] (gZ hk);have ll:((qJ X X.length).map λ(n:Nat)=>(n:Int)).length=(qJ X X.length).length:=gE ..;have pk:=T9 s.zW[k] ((qJ X X.length).map λ(n:Nat)=>(n:Int)) hp0.2 aw;have el:(((qJ X X.length).map λ(n:Nat)=>(n:Int)).map encI)=lh X X.length:=by unfold lh;rw[rY];rfl
    unfold lI at pk;rw[el]at pk;have h1:=h1.go;rcases h1 with⟨ha,hS2⟩|⟨t,x,e,ha,hx,hX2,ho2,hst⟩
    ·have ep:ym s.zW[k] ((qJ X X.length).map λ(n:Nat)=>(n:Int))=(0,5):=by
      unfold ym;rw[gu aw,gC (by rw[ll];exact rT.2 ha)]
     rw[ep]at pk;refine⟨_,_,pk.frame rfl _,dd ?_⟩;refine tc ?_
     (refine .inr ⟨aj,uH ?_⟩)
     have stay:∀j,k+j<=s.zW.length->St (k+j)=(w,X,out):=λj=>by
      induction j with
      |zero=>intro _;exact hS
      |succ j ih=>
       intro hj;have q:=ih aw;have g:=(hs (k+j) _ (gp aw)).go;rw[q]at g;rcases g with⟨_,g⟩|⟨t,x,e,g,_⟩
       ·exact g
       ·rw[ha]at g;cases g
     have last:=stay (s.zW.length-k) aw;rw[show k+(s.zW.length-k)=s.zW.length from aw]at last;rw[last];refine .inl ⟨⟨false,[1],[2],[]⟩,au,uH ?_⟩;refine hZ ?_
     exact uI
    ·have ep:ym s.zW[k] ((qJ X X.length).map λ(n:Nat)=>(n:Int))=((t:Int),0):=by
      have hne:(qJ X X.length).length≠0:=λz=>by rw[rT.1 z]at ha;cases ha
      unfold ym;rw[gu aw,gu (by rw[ll];exact hne),ll,gz,ha]
      rfl
     rw[ep]at pk;have pk:tn 32 [] [I s.zW[k],.fp 0 1 (lh X X.length)] (.fC [I (t:Int),I 0]) []:=pk;have htl:=(gm.1 hx).1;refine⟨_,_,pk.frame rfl _,dd ?_⟩;refine tc ?_
     refine .inl ⟨⟨true,[],[],[]⟩,au,uH ?_⟩;refine⟨aw,by rw[toNat_cast];exact htl,dd ?_⟩;rw[show 0+((t:Int)).toNat=t from aj];have hX8:(St (k+1)).2.1.length<=8:=aw
     generalize hS':St (k+1)=S' at *;obtain⟨w',X',out'⟩:=S';have hX2:X'.length=X.length:=hX2;have ho2:out'=out++[e]:=ho2;have hst:tn 33 (nT 1 X) [.ref 0 [] 48 t 0,.agg (zU w),I t] (.fC [.agg (zU w'),.agg (zS e)]) (nT 1 X'):=hst;refine Go.Wor.zY [3,4,5,6,7,8,9,10,11] (⟨1,30,5,[qi s],0⟩::⟨1,38,8,[[I 0,I 0,I 0,.fp 1 0 [],.fp 1 0 [],.fp 1 0 [],.fp 1 0 [],.fp 1 0 []]],0⟩::⟨1,38,8,[zU (w)],0⟩::(nT 4 X'++[⟨4,55,23,(out).map zS,0⟩,⟨1,28,1,[[.gl 15 1 (lh X X.length)]],0⟩,⟨1,91,1,[[.sl 3 [] 48 0 X.length false]],0⟩,⟨4,3,1,lh X X.length,0⟩,⟨1,55,23,[[I 0,I 0,I 0,I 0,I 0,Bo false,I 0,Bo false,Bo false,Bo false,I 0,I 0,I 0,I 0,I 0,I 0,I 0,U 0,U 0,U 0,U 0,U 0,U 0]],0⟩])) (rx:=.fC [.agg (zU w'),.agg (zS e)]) hst (zc (zj (NV 1 X')) rfl) (by show zN _ (mS 4 X)::_=_;rw[YQ aw];rfl) rfl rfl rfl (zc rfl (zc rfl (zc rfl (zc (zj (NV 4 X)) rfl)))) (by show _::_::_::zG _ (mS 1 X')::_=_;rw[XT aw];rfl) rfl (dd ?_);have mO:(out.map zS).length=out.length:=gE ..;refine⟨rfl,.inr rfl,by show(out.map zS).length+1<=maxLen;rw[mO];simp[maxLen];omega,by show((((out.map zS).length+1)*168:Nat):Nat)<=_;rw[mO];omega,dd ?_⟩;refine .inl ⟨rfl,?_,hX2,by rw[ho2,gK,rX];omega⟩;have eO:out.map zS++[[I e.zf,I e.op,I e.access,I e.cell,I e.version,Bo e.qt,I e.value,Bo e.qN,Bo e.z5,Bo e.done,I e.answer.kind,I e.answer.version,I e.answer.zg,I e.answer.end_,I e.answer.slot,I e.answer.listen,I e.answer.n,U e.answer.counts.c0,U e.answer.counts.c1,U e.answer.counts.c2,U e.answer.counts.c3,U e.answer.counts.c4,U e.answer.counts.c5]]=out'.map zS:=by rw[ho2,rp];rfl
     rw[zw aw];dsimp only;rw[eO];exact zp.xy 13 hU rfl rfl rfl (zJ rfl (zJ rfl (zJ rfl (zJ (qk (ND (b:=4) ar aw)) rfl)))) rfl
   ·refine uD ?_;refine .inl ⟨⟨false,[1],[2],[]⟩,au,uH ?_⟩;refine hZ ?_
    exact uI
 ·have e0:b.2≠0:=by simpa using h1
  rw[gu e0,gu e0];refine dd ?_;refine tc ?_
  exact⟨.inl rfl,_,(zp.var 1 rfl rfl rfl (.cons (.refl _) (.cons (.refl _) (.cons (.refl _) (.cons (WC.nil 0 1) (.cons (WC.nil 0 5) (.cons (WC.nil 0 4) (.cons (WC.nil 0 1) (.cons (WC.nil 0 3) .nil))))))))).trans (zp.grow 2 55 23 rfl (.inl rfl)),rfl⟩
end Go.Ply
