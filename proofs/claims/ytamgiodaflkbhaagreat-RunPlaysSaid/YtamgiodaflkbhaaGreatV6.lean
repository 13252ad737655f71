import Derived.Test.YtamgiodaflkbhaaGreatVJ
import Derived.Test.YtamgiodaflkbhaaGreatProg
import Derived.Test.YtamgiodaflkbhaaGreatV2
import Derived.Test.YtamgiodaflkbhaaGreatVW
set_option linter.all false
set_option maxRecDepth 100000
set_option maxHeartbeats 4000000
namespace Go.Ply
open Go.Ab Go.Proofs Tryz Go.Hy
def jU{P:Program}{o:Oper}{σ:Operand->Value}{t t':TypeId}{x y:Operand}{k:IntKind}{n m:Int}(ho:o.op=.binOp .rem t x y t')(hx:σ x=.int k n)(hy:σ y=.int k m)(hm:m≠0):
  l9 P (execOp σ o)=some (.value (.int k (n.tmod m))):=by
 have hi:Op.intDiv .rem k n m=pure (.int k (n.tmod m)):=by unfold Op.intDiv;rw[pA hm]
 have hg:eqGuard .rem t x y (σ x) (σ y)=pure ():=rfl
 have hb:binOp .rem t (σ x) (σ y)=pure (.int k (n.tmod m)):=by
  rw[hx,hy];simp only[binOp,hi];exact pA ah
 unfold execOp;rw[ho];dsimp only;rw[hg,hb]
 rfl
def yg(p:Int)(l:List Int):Int×Int:=if p<0 then (0,1) else if l.length=0 then (0,5) else ((l[(p%l.length).toNat]?).getD 0,0)
def SZ(l:List Int):th 45 [] [lI l] (.fn 85 [] [.ref 1 [] 1 0 0,.ref 0 [] 1 0 0]) [⟨1,28,1,[[lI l]],0⟩,⟨1,3,1,[[I (-1)]],0⟩]:=by
 refine zb.zX (fn:=f45) func45 V (uH ?_);exact uJ
def Jp(l:List Int)(i:Int)(x:Int)(h0: -1<=i)(h1:i<1000000000000)(hl:0<l.length)(hl2:l.length<1000000000000)(hx:l[((i+1)%l.length).toNat]?=some x):
  th 85 [⟨1,28,1,[[lI l]],0⟩,⟨1,3,1,[[I (i)]],0⟩] [.ref 1 [] 1 0 0,.ref 0 [] 1 0 0] (I x) [⟨1,28,1,[[lI l]],0⟩,⟨1,3,1,[[I ((i+1)%l.length)]],0⟩]:=by
 have ml:(l.map Go.Hy.encI).length=l.length:=pz ..;have hw:IntKind.i64.wrap (i+1)=i+1:=jF an an;have hn:(((l.map Go.Hy.encI).length:Nat):Int)≠0:=an
 have et:(i+1).tmod (((l.map Go.Hy.encI).length:Nat):Int)=(i+1)%l.length:=aK
 have b0:0<=(i+1)%(l.length:Int):=sP _ an;have hg:(l.map Go.Hy.encI)[((i+1)%(l.length:Int)).toNat]?=some [I x]:=by rw[pw,hx];rfl
 refine zb.zX (fn:=f85) func85 V (uH ?_);rw[hw];split;(rotate_left;(rename_i hno;exact(hno _ (jU V V V hn)).elim));(rename_i v e;cases e.symm.trans (jU rfl rfl rfl hn));refine dd ?_
 rw[et];refine⟨b0,_,hg,dd ?_⟩;exact uJ
def SN(p:Int)(l:List Int)(hp:i64 p)(hl:l.length<1000000000000):th 18 [] [I p,lI l] (.fy [I (yg p l).1,I (yg p l).2]) []:=by
 have ml:(l.map Go.Hy.encI).length=l.length:=pz ..;refine ab func18 ?_;refine⟨λh1=>?_,λh1=>?_⟩
 .have h1:p<0:=by simpa using h1
  have e:yg p l=(0,1):=pD h1;rw[e];exact dB
 have h1:¬p<0:=ai h1
 refine dd ?_;rw[ml];refine⟨λh2=>?_,λh2=>?_⟩
 .have h2:l.length=0:=by have h2:=pC h2;omega
  have e:yg p l=(0,5):=(pA h1).trans (pD h2);rw[e];exact dB
 have h2:l.length≠0:=by have h2:=pB h2;omega
 have e:yg p l=((l[(p%l.length).toNat]?).getD 0,0):=(pA h1).trans (pA h2);rw[e];have b0:0<=p%(l.length:Int):=sP _ an;have b1:p%(l.length:Int)<l.length:=sN _ an;have at_:∀k:Nat,k<l.length->l[k]?=some ((l[k]?).getD 0):=λk hk=>by rw[pq hk];rfl
 have r0:=Jp l (-1) ((l[0]?).getD 0) aj aj an hl (by rw[show(-1+1:Int)%l.length=0 from by rw[show(-1+1:Int)=0 from V];exact Int.zero_emod _];exact at_ 0 an);rw[show(-1+1:Int)%l.length=0 from by rw[show(-1+1:Int)=0 from V];exact Int.zero_emod _]at r0;refine dd ?_;refine ae [] (SZ l) ?_;refine⟨_,_,r0,dd ?_⟩;have hn:(((l.map Go.Hy.encI).length:Nat):Int)≠0:=an
 have et:p.tmod (((l.map Go.Hy.encI).length:Nat):Int)=p%l.length:=aK
 split;(rotate_left;(rename_i hno;exact(hno _ (jU V V V hn)).elim));(rename_i v e;cases e.symm.trans (jU rfl rfl rfl hn));refine dd ?_
 rw[et];obtain⟨N,hN⟩:∃N:Nat,p%(l.length:Int)=N:=⟨(p%(l.length:Int)).toNat,an⟩;rw[hN];rw[hN]at b1;refine zH.seq N (λk=>(I p::(lI l)::.za::.za::I 0::I 0::.fn 85 [] [.ref 1 [] 1 0 0,.ref 0 [] 1 0 0]::I ((l[k]?).getD 0)::mL ([.za,.za,.za,.za,.za,.za,I (N:Int),I k,.za,.za,.za,.za,.za]))) (λk=>[⟨1,28,1,[[lI l]],0⟩,⟨1,3,1,[[I ((k:Int))]],0⟩]) (λk=>True) ?_ trivial (λk hk hr=>?_) (λhr=>?_)
 .exact cC
 .have r1:=Jp l k ((l[k+1]?).getD 0) an an an hl (by rw[ej an an];exact at_ (k+1) an);rw[ej an an]at r1;conv=>whnf
  refine uF ?_;refine⟨_,_,r1,dd ?_⟩;exact pd
 .refine uD ?_;exact uI
end Go.Ply
namespace Go.Ply
open Go.Ab Go.Proofs Tryz Go.Hy Go.Wor
variable{T:List (List fQ)}{X:List ia}{x:ia}
abbrev iX:=Wor×List ia×List fF
structure Yk(X:List ia)(w:Wor)(out:List fF)(p:Int)(s':iX):Prop where
 go:(ql X X.length=[]/\s'=(w,X,out))\/∃(t:Nat) (x:ia) (e:fF),(ql X X.length)[(p%(ql X X.length).length).toNat]?=some t/\X[t]?=some x/\s'.2.1.length=X.length/\s'.2.2=out++[e]/\
  th 19 (nS 1 X) [.ref 0 [] 48 t 0,.agg (xc w),I t] (.fy [.agg (xc s'.1),.agg (jb e)]) (nS 1 s'.2.1)
def Nd:List C:=[I 0,I 0,I 0,I 0,I 0,I 0,I 0,I 0,I 0,U 0,I 0,I 0,I 0,I 0,Bo false]++qY ⟨0,0,0,0,0,0,0,⟨0,0,0,0,0,0⟩⟩++BF ⟨0,0,0,0,0,0⟩
def l8(c:C):List C:=c::I 0::Bo false::([I 0,Tx [],Tx [],Tx [],I 0,I 0,I 0,.fq 1 0 [],.fq 1 0 [],.fq 1 0 []]++Nd++[.fq 1 0 []])
def Au(T:List (List fQ))(k:Nat):List (List C):=(T.take k).map (λl=>l8 (lP l))++List.replicate (T.length-k) (l8 (.fq 1 0 []))
def Wp{k:Nat}(hk:k<T.length):(Au T k)[k]?=some (l8 (.fq 1 0 [])):=by
 unfold Au;have e:((T.take k).map λl=>l8 (lP l)).length=k:=ar
 rw[pR an,e,sM,ua,pD an]
def Vl{k:Nat}(hk:k<T.length):(Au T k).set k (l8 (lP T[k]))=Au T (k+1):=by
 unfold Au;have e:((T.take k).map λl=>l8 (lP l)).length=k:=ar
 have e2:T.length-k=(T.length-(k+1))+1:=an
 rw[eF _ _ an,e,sM,e2,tx,List.set_cons_zero,ru hk,ry,sa]
 rfl
def CH(l:List fQ):List C:=lP l::I 0::Bo false::(vX M3++[.fq 1 0 []])
def Vk(l:List fQ):iI (l8 (lP l)) (CH l):=by
 have r:∀cs:List C,iI cs cs:=λcs=>by
  induction cs with
  |nil=>exact .nil
  |cons c cs ih=>exact .cons (.refl _) ih
 exact .cons (.refl _) (.cons (.refl _) (.cons (.refl _) (.cons (.refl _) (.cons (.refl _) (.cons (.refl _) (.cons (.refl _) (.cons (.refl _) (.cons (.refl _) (.cons (.refl _) (.cons (WC.nil 0 1) (.cons (WC.nil 0 4) (.cons (WC.nil 0 4) (r _)))))))))))))
def XL(T:List (List fQ))(i:Nat):vB (T.map w9) i=[]:=by
 unfold vB;rw[pw];cases T[i]? with
 |none=>rfl
 |some l=>rfl
def Ys(hT:T.length<=8):xY 4 47 13 8 (T.map CH)=(T.map w9).mapIdx (z7 4):=by
 unfold xY;refine rL λi=>?_
 rw[rK,rK,pw,pw];cases hl:T[i]? with
 |none=>rfl
 |some l=>
  have:=(px.1 hl).1;simp only[pL];rw[pD an]
  rfl
def Sp{B:Nat}{t:List C}(hT:T.length<=8)(O0 O1 O2:Ob):zl B ⟨t,[O0,O1,O2,⟨2,66,48,Au T T.length,0⟩]⟩ ⟨t,O0::O1::O2::nS 4 (T.map w9)⟩:=by
 have e:Au T T.length=T.map λl=>l8 (lP l):=by unfold Au;simp
 have own1:∀r∈T.map λl=>l8 (lP l),∀c∈r,zF c=true:=λr hr=>by
  obtain⟨l,_,rfl⟩:=rp.1 hr;have e:(l8 (lP l)).all zF=true:=rfl;exact pG.1 e
 have own2:∀r∈T.map CH,∀c∈r,zF c=true:=λr hr=>by
  obtain⟨l,_,rfl⟩:=rp.1 hr;have e:(CH l).all zF=true:=rfl;exact pG.1 e
 rw[e];refine(zl.Bw (s:=⟨t,[O0,O1,O2,⟨2,66,48,_,0⟩]⟩) 3 V own1).trans ?_;refine(zl.E8 (s:=⟨t,[O0,O1,O2,⟨1,0,48,_,0⟩]⟩) 3 (rows':=T.map CH) V ah (λi r r' h h'=>?_) own1 own2).trans ?_
 .obtain⟨l,h1,rfl⟩:=rq.1 ((pw ..).symm.trans h);obtain⟨l',h2,rfl⟩:=rq.1 ((pw ..).symm.trans h');rw[h1]at h2;cases h2
  exact Vk l
 .have w:=zl.Mj (B:=B) (s:=⟨t,[O0,O1,O2,⟨1,0,48,T.map CH,0⟩]⟩) 3 47 55 13 (sz0:=0) V (λr hr=>by
   obtain⟨l,_,rfl⟩:=rp.1 hr
   rfl) own2 8
  have g:∀i,fA (T.map w9) i=⟨4,55,13,[],0⟩:=λi=>by unfold fA;rw[XL];rfl
  show zl B _ ⟨t,[O0,O1,O2,mw 4 (T.map w9),fA (T.map w9) 0,fA (T.map w9) 1,fA (T.map w9) 2,fA (T.map w9) 3,fA (T.map w9) 4,fA (T.map w9) 5,fA (T.map w9) 6,fA (T.map w9) 7]⟩;unfold mw;rw[g,g,g,g,g,g,g,g,<-Ys hT];exact w
def CU(X:List ia):∀k,(ql X k).length<=k
 |0=>pN _
 |k+1=>by
  have:=CU X k;unfold ql;split
  .split
   .omega
   .simp;omega
  .omega
def iS(X:List ia)(k:Nat):List (List C):=(ql X k).map λ(n:Nat)=>[I (n:Int)]
def L7(X:List ia)(k:Nat):(iS X k).length=(ql X k).length:=pz ..
def L8{k:Nat}(hx:X[k]?=some x)(ho:nO x=false):iS X (k+1)=iS X k++[[I k]]:=by
 have:¬x.ops.length<=x.done:=by unfold nO at ho;simpa using ho
 have e:ql X (k+1)=ql X k++[k]:=by
  show(match X[k]? with|some x=>if x.ops.length<=x.done then ql X k else ql X k++[k]|none=>ql X k)=_;rw[hx];exact pA this
 unfold iS;rw[e,ry]
 rfl
def Mt{k:Nat}(hx:X[k]?=some x)(ho:nO x=true):iS X (k+1)=iS X k:=by
 have:x.ops.length<=x.done:=by unfold nO at ho;simpa using ho
 have e:ql X (k+1)=ql X k:=by
  show(match X[k]? with|some x=>if x.ops.length<=x.done then ql X k else ql X k++[k]|none=>ql X k)=_;rw[hx];exact pD this
 unfold iS;rw[e]
def Lt{b n:Nat}(h:b+8<=n)(hX:X.length<=8):∀r∈X.mapIdx (z7 b),∀c∈r,qE n 9 c=true:=λr hr=>by
 obtain⟨i,hi,rfl⟩:=eK.1 hr;exact Lu b i n _ an
def WE(hX:X.length<=8):zJ [3,4,5,6,7,8,9,10,11] (mw 4 X)=mw 1 X:=by
 have e:(X.mapIdx (z7 4)).map (λr=>r.map (jQ [3,4,5,6,7,8,9,10,11] 9))=X.mapIdx (z7 1):=by
  refine rL λi=>?_
  rw[pw,rK,rK];cases hx:X[i]? with
  |none=>rfl
  |some x=>
   have:=(px.1 hx).1;rcases(by omega:i=0\/i=1\/i=2\/i=3\/i=4\/i=5\/i=6\/i=7) with rfl|rfl|rfl|rfl|rfl|rfl|rfl|rfl <;> rfl
 show(⟨1,0,48,(X.mapIdx (z7 4)).map (λr=>r.map (jQ [3,4,5,6,7,8,9,10,11] 9)),0⟩:Ob)=_;rw[e]
def W6(hX:X.length<=8)(n:Nat):zL (q8 [3,4,5,6,7,8,9,10,11] n) (mw 1 X)=mw 4 X:=by
 have e:(X.mapIdx (z7 1)).map (λr=>r.map (yT (q8 [3,4,5,6,7,8,9,10,11] n) 9))=X.mapIdx (z7 4):=by
  refine rL λi=>?_
  rw[pw,rK,rK];cases hx:X[i]? with
  |none=>rfl
  |some x=>
   have:=(px.1 hx).1;rcases(by omega:i=0\/i=1\/i=2\/i=3\/i=4\/i=5\/i=6\/i=7) with rfl|rfl|rfl|rfl|rfl|rfl|rfl|rfl <;> rfl
 show(⟨1,0,48,(X.mapIdx (z7 1)).map (λr=>r.map (yT (q8 [3,4,5,6,7,8,9,10,11] n) 9)),0⟩:Ob)=_;rw[e]
def L1(b:Nat)(X:List ia):∀r∈X.mapIdx (z7 b),∀c∈r,zF c=true:=λr hr=>by
 obtain⟨i,hi,rfl⟩:=eK.1 hr;exact Vo b i _
def Vc(s:ic)(b:Wor×Int)(St:Nat->iX)(hb:th 8 [] [.agg (vA s)] (.fy [.agg (xc b.1),I b.2]) [])(hn:b.2=0->s.threads.length<=8/\s.zY.length<=4000/\∀p∈s.zY,0<=p/\i64 p)
 (h0:St 0=(b.1,s.threads.map w9,[]))(hs:b.2=0->∀k p,s.zY[k]?=some p->Yk (St k).2.1 (St k).1 (St k).2.2 p (St (k+1))):
  th 6 [] [.agg (vA s)] (.fy [lq (if b.2=0 then (St s.zY.length).2.2 else []),.agg (xc (if b.2=0 then (St s.zY.length).1 else ⟨0,0,0,[],[],[],[],[]⟩)),I b.2]) []:=by
 have m1:(s.threads.map j0).length=s.threads.length:=pz ..;have m2:(s.zY.map Go.Hy.encI).length=s.zY.length:=pz ..;refine ab func6 ?_;refine af hb ?_;refine⟨λh1=>?_,λh1=>?_⟩
 rotate_left
 .have e0:b.2=0:=by simpa using h1
  obtain⟨n1,n2,n3⟩:=hn e0;have hs:=hs e0;rw[pD e0,pD e0,e0];refine zac ?_
  rw[m1];refine⟨rfl,an,by show(488:Int)*_<=_;omega,an,dd ?_⟩;rw[toNat_cast,m1];refine zH.seq s.threads.length (λk=>(.za::.ref 0 [] 5 0 0:: .za::.ref 1 [] 8 0 0:: .za::.ref 2 [] 8 0 0:: .za::.sl 3 [] 48 0 s.threads.length false:: mL (mL (mL (Cz s.threads::I s.threads.length::I k:: .za::mL (jp (mL ([])))))))) (λk=>[oS s,⟨1,38,8,[fW],0⟩,oW b.1,⟨2,66,48,Au s.threads k,0⟩]) (λ_=>True) ?_ trivial (λk hk _=>?_) (λ_=>?_)
  .exact cC
  .have hg:(s.threads.map j0)[k]?=some (j0 s.threads[k]):=by rw[pw,pq hk];rfl
   conv=>whnf
   refine zaD ?_
   refine⟨an,by rw[toNat_cast];exact hk,dd ?_⟩;rw[show 0+((k:Int)).toNat=k from ah];refine⟨_,Wp hk,rfl,dd ?_⟩;refine zap ?_;rw[zk an,<-Vl hk];exact cC
  .refine uD ?_;rw[m2];refine zH.seq s.zY.length (λk=>(.za::.ref 0 [] 5 0 0:: .za::.ref 1 [] 8 0 0:: .za::.ref 2 [] 8 0 0:: .za::.sl 3 [] 48 0 s.threads.length false:: .za::.za::.gl 12 23 ((St k).2.2.map jb):: .za::.za::.za::.za::mL (mL (mL (mL (lI s.zY::I s.zY.length::I k:: .za::.za::mL (mL (mL (mL ([])))))))))) (λk=>(oS s)::⟨1,38,8,[fW],0⟩::(oW ((St k).1))::(nS 4 (St k).2.1++[⟨4,73,23,((St k).2.2).map jb,0⟩])) (λk=>(St k).2.1.length=s.threads.length/\(St k).2.2.length<=k) ?_ (by rw[h0];exact⟨pz ..,pN _⟩) (λk hk hr=>?_) (λhr=>?_)
   .refine(Sp n1 _ _ _).trans ?_;rw[h0];exact(zl.grow 10 73 23 V (.inl V)).trans (cC)
   .have hp:s.zY[k]?=some s.zY[k]:=pq hk;have hg:(s.zY.map Go.Hy.encI)[k]?=some (Go.Hy.encI s.zY[k]):=by rw[pw,hp];rfl
    have h1:=hs k s.zY[k] hp;generalize hS:St k=S at *;obtain⟨w,X,out⟩:=S;obtain⟨hr,ho⟩:=hr;have hr:X.length=s.threads.length:=hr;have ho:out.length<=k:=ho;have hal:=CU X X.length;conv=>whnf
    refine zaD ?_
    rw[<-hr];refine⟨_,_,Qp X 4 false _ _ _ _ _ _ _ _ _ _ _ _ _,uH ?_⟩;refine⟨_,zl.qN 13 0 3 1 V V (.inl V) V V,?_⟩
    refine⟨.normal,_,(oS s)::⟨1,38,8,[fW],0⟩::(oW w)::mw 4 X::fA X 0::fA X 1::fA X 2::fA X 3::fA X 4::fA X 5::fA X 6::fA X 7::⟨4,73,23,(out).map jb,0⟩::[⟨1,28,1,[[.gl 15 1 (iS X X.length)]],0⟩,⟨1,60,1,[[.sl 3 [] 48 0 X.length false]],0⟩,⟨4,3,1,iS X X.length,0⟩],
     λl r h1 h2 h3 h4 h5=>⟨_,_,r,Pg l X 4 false an _ _ _ _ _ _ _ _ _ _ _ _ (λk=>⟨1,28,1,[[.gl 15 1 (iS X k)]],0⟩) (λk=>[⟨4,3,1,iS X k,0⟩,iy l r _]) (λk x hx ho=>?_) (λk x hx ho=>?_),
     rfl,aH,rfl,pW _,aI,zl.drop 16 V V V (zR V (zR V (zR V (zR (qm (Lt (b:=4) aj an)) V))))⟩,?_⟩
    .refine jv.zX (id:=16) V h1 h2 h3 h4 h5 V V V ?_;conv=>whnf
     refine⟨rfl,rfl,uH ?_⟩;have hkl:=(px.1 hx).1;have mal:=L7 X k;have al2:=CU X k;refine⟨rfl,.inr V,aq,aL,uH ?_⟩;have e:iS X (k+1)=iS X k++[[I k]]:=L8 hx ho;rw[e];exact dQ
    .have e:iS X (k+1)=iS X k:=Mt hx ho;exact⟨by simp only[e],by simp only[e]⟩
    conv=>whnf
    have hp0:=n3 s.zY[k] (rj hk);have ll:((ql X X.length).map λ(n:Nat)=>(n:Int)).length=(ql X X.length).length:=pz ..;have pk:=SN s.zY[k] ((ql X X.length).map λ(n:Nat)=>(n:Int)) hp0.2 an;have el:(((ql X X.length).map λ(n:Nat)=>(n:Int)).map Go.Hy.encI)=iS X X.length:=by unfold iS;rw[sJ];rfl
    unfold lI at pk;rw[el]at pk;have h1:=h1.go;rcases h1 with⟨ha,hS2⟩|⟨t,x,e,ha,hx,hX2,ho2,hst⟩
    .have ep:yg s.zY[k] ((ql X X.length).map λ(n:Nat)=>(n:Int))=(0,5):=by
      unfold yg;rw[pA an,pD (by rw[ll];exact sf.2 ha)]
     rw[ep]at pk;refine⟨_,_,pk.frame V _,dd ?_⟩;refine td ?_
     refine zaw ?_
     have stay:∀j,k+j<=s.zY.length->St (k+j)=(w,X,out):=λj=>by
      induction j with
      |zero=>intro _;exact hS
      |succ j ih=>
       intro hj;have q:=ih an;have g:=(hs (k+j) _ (pq an)).go;rw[q]at g;rcases g with⟨_,g⟩|⟨t,x,e,g,_⟩
       .exact g
       .rw[ha]at g;cases g
     have last:=stay (s.zY.length-k) an;rw[show k+(s.zY.length-k)=s.zY.length from an]at last;rw[last];refine zcC ?_
     exact uI
    .have ep:yg s.zY[k] ((ql X X.length).map λ(n:Nat)=>(n:Int))=((t:Int),0):=by
      have hne:(ql X X.length).length≠0:=λz=>by rw[sf.1 z]at ha;cases ha
      unfold yg;rw[pA an,pA (by rw[ll];exact hne),ll,pw,ha]
      rfl
     rw[ep]at pk;have pk:th 18 [] [I s.zY[k],.fq 0 1 (iS X X.length)] (.fy [I (t:Int),I 0]) []:=pk;have htl:=(px.1 hx).1;refine⟨_,_,pk.frame V _,dd ?_⟩;refine td ?_
     refine zaY ?_;refine⟨an,by rw[toNat_cast];exact htl,dd ?_⟩;rw[show 0+((t:Int)).toNat=t from ah];have hX8:(St (k+1)).2.1.length<=8:=an
     generalize hS':St (k+1)=S' at *;obtain⟨w',X',out'⟩:=S';have hX2:X'.length=X.length:=hX2;have ho2:out'=out++[e]:=ho2;have hst:th 19 (nS 1 X) [.ref 0 [] 48 t 0,.agg (xc w),I t] (.fy [.agg (xc w'),.agg (jb e)]) (nS 1 X'):=hst;refine Go.Wor.zU [3,4,5,6,7,8,9,10,11] ((oS s)::⟨1,38,8,[fW],0⟩::(oW w)::(nS 4 X'++[⟨4,73,23,(out).map jb,0⟩,⟨1,28,1,[[.gl 15 1 (iS X X.length)]],0⟩,⟨1,60,1,[[.sl 3 [] 48 0 X.length false]],0⟩,⟨4,3,1,iS X X.length,0⟩,⟨1,73,23,[[I 0,I 0,I 0,I 0,I 0,Bo false,I 0,Bo false,Bo false,Bo false,I 0,I 0,I 0,I 0,I 0,I 0,I 0,U 0,U 0,U 0,U 0,U 0,U 0]],0⟩])) (rx:=.fy [.agg (xc w'),.agg (jb e)]) hst (ze (zf (L1 1 X')) V) (by show zJ _ (mw 4 X)::_=_;rw[WE an];rfl) V V V (ze V (ze V (ze V (ze (zf (L1 4 X)) V)))) (by show _::_::_::zL _ (mw 1 X')::_=_;rw[W6 an];rfl) V (dd ?_);have mO:(out.map jb).length=out.length:=pz ..;refine⟨rfl,.inr V,by show(out.map jb).length+1<=maxLen;rw[mO];simp[maxLen];omega,aM,dd ?_⟩;refine .inl ⟨rfl,?_,hX2,by rw[ho2,rB,r7];omega⟩;have eO:out.map jb++[[I e.zm,I e.op,I e.access,I e.cell,I e.version,Bo e.qH,I e.value,Bo e.yQ,Bo e.jo,Bo e.done,I e.answer.kind,I e.answer.version,I e.answer.zp,I e.answer.end_,I e.answer.slot,I e.answer.listen,I e.answer.n,U e.answer.counts.c0,U e.answer.counts.c1,U e.answer.counts.c2,U e.answer.counts.c3,U e.answer.counts.c4,U e.answer.counts.c5]]=out'.map jb:=by rw[ho2,ry];rfl
     rw[zk an];dsimp only;rw[eO];exact zl.jd 13 ta V V V (zR V (zR V (zR V (zR (qm (Lt (b:=4) aj an)) V)))) V
   .refine uD ?_;refine zcC ?_
    exact uI
 .have e0:b.2≠0:=by simpa using h1
  rw[pA e0,pA e0];refine zac ?_
  exact⟨.inl V,_,(zl.var 1 V V V (.cons (.refl _) (.cons (.refl _) (.cons (.refl _) (.cons (WC.nil 0 1) (.cons (WC.nil 0 5) (.cons (WC.nil 0 4) (.cons (WC.nil 0 1) (.cons (WC.nil 0 3) .nil))))))))).trans (zl.grow 2 73 23 V (.inl V)),rfl⟩
end Go.Ply
