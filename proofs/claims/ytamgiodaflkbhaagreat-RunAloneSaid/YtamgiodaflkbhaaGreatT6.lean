import Derived.Test.YtamgiodaflkbhaaGreatTJ
import Derived.Test.YtamgiodaflkbhaaGreatProg
import Derived.Test.YtamgiodaflkbhaaGreatT2
import Derived.Test.YtamgiodaflkbhaaGreatTW
set_option linter.all false
set_option maxRecDepth 100000
set_option maxHeartbeats 4000000
namespace Go.Ply
open Go.Ab Go.Proofs Tryz Go.Hy
def jV{P:Program}{o:Oper}{σ:Operand->Value}{t t':TypeId}{x y:Operand}{k:IntKind}{n m:Int}(ho:o.op=.binOp .rem t x y t')(hx:σ x=.int k n)(hy:σ y=.int k m)(hm:m≠0):
  lf P (execOp σ o)=some (.value (.int k (n.tmod m))):=by
 have hi:Op.intDiv .rem k n m=pure (.int k (n.tmod m)):=by unfold Op.intDiv;rw[gP hm]
 have hg:eqGuard .rem t x y (σ x) (σ y)=pure ():=rfl
 have hb:binOp .rem t (σ x) (σ y)=pure (.int k (n.tmod m)):=by
  rw[hx,hy];simp only[binOp,hi];exact gP ah
 unfold execOp;rw[ho];dsimp only;rw[hg,hb]
 rfl
def kF(p:Int)(l:List Int):Int×Int:=if p<0 then (0,1) else if l.length=0 then (0,5) else ((l[(p%l.length).toNat]?).getD 0,0)
def R6(l:List Int):th 45 [] [lI l] (.fn 85 [] [.ref 1 [] 1 0 0,.ref 0 [] 1 0 0]) [⟨1,28,1,[[lI l]],0⟩,⟨1,3,1,[[I (-1)]],0⟩]:=by
 refine zb.zZ (fn:=f45) func45 V (uH ?_);exact uJ
def Jl(l:List Int)(i:Int)(x:Int)(h0: -1<=i)(h1:i<1000000000000)(hl:0<l.length)(hl2:l.length<1000000000000)(hx:l[((i+1)%l.length).toNat]?=some x):
  th 85 [⟨1,28,1,[[lI l]],0⟩,⟨1,3,1,[[I (i)]],0⟩] [.ref 1 [] 1 0 0,.ref 0 [] 1 0 0] (I x) [⟨1,28,1,[[lI l]],0⟩,⟨1,3,1,[[I ((i+1)%l.length)]],0⟩]:=by
 have ml:(l.map Hy.encI).length=l.length:=gO ..;have hw:IntKind.i64.wrap (i+1)=i+1:=jB an an;have hn:(((l.map Hy.encI).length:Nat):Int)≠0:=an
 have et:(i+1).tmod (((l.map Hy.encI).length:Nat):Int)=(i+1)%l.length:=by rw[ml];exact so an
 have b0:0<=(i+1)%(l.length:Int):=sB _ an;have hg:(l.map Hy.encI)[((i+1)%(l.length:Int)).toNat]?=some [I x]:=by rw[gM,hx];rfl
 refine zb.zZ (fn:=f85) func85 V (uH ?_);rw[hw];split;(rotate_left;(rename_i hno;exact(hno _ (jV V V V hn)).elim));(rename_i v e;cases e.symm.trans (jV rfl rfl rfl hn));refine dd ?_
 rw[et];refine⟨b0,_,hg,dd ?_⟩;exact uJ
def SJ(p:Int)(l:List Int)(hp:i64 p)(hl:l.length<1000000000000):th 18 [] [I p,lI l] (.eR [I (kF p l).1,I (kF p l).2]) []:=by
 have ml:(l.map Hy.encI).length=l.length:=gO ..;refine ab func18 ?_;refine⟨λh1=>?_,λh1=>?_⟩
 .have h1:p<0:=by simpa using h1
  have e:kF p l=(0,1):=gS h1;rw[e];exact dg
 have h1:¬p<0:=ai h1
 refine dd ?_;rw[ml];refine⟨λh2=>?_,λh2=>?_⟩
 .have h2:l.length=0:=by have h2:=gQ h2;omega
  have e:kF p l=(0,5):=(gP h1).trans (gS h2);rw[e];exact dg
 have h2:l.length≠0:=by have h2:=gR h2;omega
 have e:kF p l=((l[(p%l.length).toNat]?).getD 0,0):=(gP h1).trans (gP h2);rw[e];have b0:0<=p%(l.length:Int):=sB _ an;have b1:p%(l.length:Int)<l.length:=ss _ an;have at_:∀k:Nat,k<l.length->l[k]?=some ((l[k]?).getD 0):=λk hk=>by rw[gL hk];rfl
 have r0:=Jl l (-1) ((l[0]?).getD 0) aj aj an hl (by rw[show(-1+1:Int)%l.length=0 from by rw[show(-1+1:Int)=0 from V];exact Int.zero_emod _];exact at_ 0 an);rw[show(-1+1:Int)%l.length=0 from by rw[show(-1+1:Int)=0 from V];exact Int.zero_emod _]at r0;refine dd ?_;refine ae [] (R6 l) ?_;refine⟨_,_,r0,dd ?_⟩;have hn:(((l.map Hy.encI).length:Nat):Int)≠0:=an
 have et:p.tmod (((l.map Hy.encI).length:Nat):Int)=p%l.length:=by rw[ml];exact so an
 split;(rotate_left;(rename_i hno;exact(hno _ (jV V V V hn)).elim));(rename_i v e;cases e.symm.trans (jV rfl rfl rfl hn));refine dd ?_
 rw[et];obtain⟨N,hN⟩:∃N:Nat,p%(l.length:Int)=N:=⟨(p%(l.length:Int)).toNat,an⟩;rw[hN];rw[hN]at b1;refine zH.seq N (λk=>(I p::(lI l)::.za::.za::I 0::I 0::.fn 85 [] [.ref 1 [] 1 0 0,.ref 0 [] 1 0 0]::I ((l[k]?).getD 0)::mK ([.za,.za,.za,.za,.za,.za,I (N:Int),I k,.za,.za,.za,.za,.za]))) (λk=>[⟨1,28,1,[[lI l]],0⟩,⟨1,3,1,[[I ((k:Int))]],0⟩]) (λk=>True) ?_ trivial (λk hk hr=>?_) (λhr=>?_)
 .exact cC
 .have r1:=Jl l k ((l[k+1]?).getD 0) an an an hl (by rw[uj an an];exact at_ (k+1) an);rw[uj an an]at r1;conv=>whnf
  refine uF ?_;refine⟨_,_,r1,dd ?_⟩;refine zai ?_;rw[zm an];exact cC
 .refine uD ?_;exact uI
end Go.Ply
namespace Go.Ply
open Go.Ab Go.Proofs Tryz Go.Hy Go.Wor
variable{T:List (List ft)}{X:List fE}{x:fE}
abbrev iP:=Wor×List fE×List e7
structure WZ(X:List fE)(w:Wor)(out:List e7)(p:Int)(s':iP):Prop where
 go:(qL X X.length=[]/\s'=(w,X,out))\/∃(t:Nat) (x:fE) (e:e7),(qL X X.length)[(p%(qL X X.length).length).toNat]?=some t/\X[t]?=some x/\s'.2.1.length=X.length/\s'.2.2=out++[e]/\
  th 19 (m9 1 X) [.ref 0 [] 48 t 0,.agg (xk w),I t] (.eR [.agg (xk s'.1),.agg (jY e)]) (m9 1 s'.2.1)
def XY:List C:=[I 0,I 0,I 0,I 0,I 0,I 0,I 0,I 0,I 0,U 0,I 0,I 0,I 0,I 0,Bo false]++jr ⟨0,0,0,0,0,0,0,⟨0,0,0,0,0,0⟩⟩++oX ⟨0,0,0,0,0,0⟩
def ou(c:C):List C:=c::I 0::Bo false::([I 0,Tx [],Tx [],Tx [],I 0,I 0,I 0,.eM 1 0 [],.eM 1 0 [],.eM 1 0 []]++XY++[.eM 1 0 []])
def oJ(T:List (List ft))(k:Nat):List (List C):=(T.take k).map (λl=>ou (lP l))++List.replicate (T.length-k) (ou (.eM 1 0 []))
def VR{k:Nat}(hk:k<T.length):(oJ T k)[k]?=some (ou (.eM 1 0 [])):=by
 unfold oJ;have e:((T.take k).map λl=>ou (lP l)).length=k:=ar
 rw[pq an,e,r7,sU,gS an]
def Uz{k:Nat}(hk:k<T.length):(oJ T k).set k (ou (lP T[k]))=oJ T (k+1):=by
 unfold oJ;have e:((T.take k).map λl=>ou (lP l)).length=k:=ar
 have e2:T.length-k=(T.length-(k+1))+1:=an
 rw[uv _ _ an,e,r7,e2,sS,List.set_cons_zero,pP hk,pZ,rL]
 rfl
def BY(l:List ft):List C:=lP l::I 0::Bo false::(lp My++[.eM 1 0 []])
def Uy(l:List ft):iq (ou (lP l)) (BY l):=by
 have r:∀cs:List C,iq cs cs:=λcs=>by
  induction cs with
  |nil=>exact .nil
  |cons c cs ih=>exact .cons (.refl _) ih
 exact .cons (.refl _) (.cons (.refl _) (.cons (.refl _) (.cons (.refl _) (.cons (.refl _) (.cons (.refl _) (.cons (.refl _) (.cons (.refl _) (.cons (.refl _) (.cons (.refl _) (.cons (WC.nil 0 1) (.cons (WC.nil 0 4) (.cons (WC.nil 0 4) (r _)))))))))))))
def W6(T:List (List ft))(i:Nat):vi (T.map iW) i=[]:=by
 unfold vi;rw[gM];cases T[i]? with
 |none=>rfl
 |some l=>rfl
def XM(hT:T.length<=8):xQ 4 47 13 8 (T.map BY)=(T.map iW).mapIdx (qe 4):=by
 unfold xQ;refine rh λi=>?_
 rw[rb,rb,gM,gM];cases hl:T[i]? with
 |none=>rfl
 |some l=>
  have:=(gN.1 hl).1;simp only[g9];rw[gS an]
  rfl
def Qr{B:Nat}{t:List C}(hT:T.length<=8)(O0 O1 O2:Ob):zk B ⟨t,[O0,O1,O2,⟨2,66,48,oJ T T.length,0⟩]⟩ ⟨t,O0::O1::O2::m9 4 (T.map iW)⟩:=by
 have e:oJ T T.length=T.map λl=>ou (lP l):=by unfold oJ;simp
 have own1:∀r∈T.map λl=>ou (lP l),∀c∈r,zG c=true:=λr hr=>by
  obtain⟨l,_,rfl⟩:=pO.1 hr;have e:(ou (lP l)).all zG=true:=rfl;exact gV.1 e
 have own2:∀r∈T.map BY,∀c∈r,zG c=true:=λr hr=>by
  obtain⟨l,_,rfl⟩:=pO.1 hr;have e:(BY l).all zG=true:=rfl;exact gV.1 e
 rw[e];refine(zk.BO (s:=⟨t,[O0,O1,O2,⟨2,66,48,_,0⟩]⟩) 3 V own1).trans ?_;refine(zk.Xw (s:=⟨t,[O0,O1,O2,⟨1,0,48,_,0⟩]⟩) 3 (rows':=T.map BY) V ah (λi r r' h h'=>?_) own1 own2).trans ?_
 .obtain⟨l,h1,rfl⟩:=pN.1 ((gM ..).symm.trans h);obtain⟨l',h2,rfl⟩:=pN.1 ((gM ..).symm.trans h');rw[h1]at h2;cases h2
  exact Uy l
 .have w:=zk.LI (B:=B) (s:=⟨t,[O0,O1,O2,⟨1,0,48,T.map BY,0⟩]⟩) 3 47 55 13 (sz0:=0) V (λr hr=>by
   obtain⟨l,_,rfl⟩:=pO.1 hr
   rfl) own2 8
  have g:∀i,eS (T.map iW) i=⟨4,55,13,[],0⟩:=λi=>by unfold eS;rw[W6];rfl
  show zk B _ ⟨t,[O0,O1,O2,lK 4 (T.map iW),eS (T.map iW) 0,eS (T.map iW) 1,eS (T.map iW) 2,eS (T.map iW) 3,eS (T.map iW) 4,eS (T.map iW) 5,eS (T.map iW) 6,eS (T.map iW) 7]⟩;unfold lK;rw[g,g,g,g,g,g,g,g,<-XM hT];exact w
def FH(X:List fE):∀k,(qL X k).length<=k
 |0=>pj _
 |k+1=>by
  have:=FH X k;unfold qL;split
  .split
   .omega
   .simp;omega
  .omega
def iy(X:List fE)(k:Nat):List (List C):=(qL X k).map λ(n:Nat)=>[I (n:Int)]
def VC(X:List fE)(k:Nat):(iy X k).length=(qL X k).length:=gO ..
def VD{k:Nat}(hx:X[k]?=some x)(ho:Ar x=false):iy X (k+1)=iy X k++[[I k]]:=by
 have:¬x.ops.length<=x.done:=by unfold Ar at ho;simpa using ho
 have e:qL X (k+1)=qL X k++[k]:=by
  show(match X[k]? with|some x=>if x.ops.length<=x.done then qL X k else qL X k++[k]|none=>qL X k)=_;rw[hx];exact gP this
 unfold iy;rw[e,pZ]
 rfl
def W2{k:Nat}(hx:X[k]?=some x)(ho:Ar x=true):iy X (k+1)=iy X k:=by
 have:x.ops.length<=x.done:=by unfold Ar at ho;simpa using ho
 have e:qL X (k+1)=qL X k:=by
  show(match X[k]? with|some x=>if x.ops.length<=x.done then qL X k else qL X k++[k]|none=>qL X k)=_;rw[hx];exact gS this
 unfold iy;rw[e]
def KR{b n:Nat}(h:b+8<=n)(hX:X.length<=8):∀r∈X.mapIdx (qe b),∀c∈r,qE n 9 c=true:=λr hr=>by
 obtain⟨i,hi,rfl⟩:=uz.1 hr;exact KS b i n _ an
def WA(hX:X.length<=8):zJ [3,4,5,6,7,8,9,10,11] (lK 4 X)=lK 1 X:=by
 have e:(X.mapIdx (qe 4)).map (λr=>r.map (jK [3,4,5,6,7,8,9,10,11] 9))=X.mapIdx (qe 1):=by
  refine rh λi=>?_
  rw[gM,rb,rb];cases hx:X[i]? with
  |none=>rfl
  |some x=>
   have:=(gN.1 hx).1;rcases(by omega:i=0\/i=1\/i=2\/i=3\/i=4\/i=5\/i=6\/i=7) with rfl|rfl|rfl|rfl|rfl|rfl|rfl|rfl <;> rfl
 show(⟨1,0,48,(X.mapIdx (qe 4)).map (λr=>r.map (jK [3,4,5,6,7,8,9,10,11] 9)),0⟩:Ob)=_;rw[e]
def Wm(hX:X.length<=8)(n:Nat):zM (q6 [3,4,5,6,7,8,9,10,11] n) (lK 1 X)=lK 4 X:=by
 have e:(X.mapIdx (qe 1)).map (λr=>r.map (yG (q6 [3,4,5,6,7,8,9,10,11] n) 9))=X.mapIdx (qe 4):=by
  refine rh λi=>?_
  rw[gM,rb,rb];cases hx:X[i]? with
  |none=>rfl
  |some x=>
   have:=(gN.1 hx).1;rcases(by omega:i=0\/i=1\/i=2\/i=3\/i=4\/i=5\/i=6\/i=7) with rfl|rfl|rfl|rfl|rfl|rfl|rfl|rfl <;> rfl
 show(⟨1,0,48,(X.mapIdx (qe 1)).map (λr=>r.map (yG (q6 [3,4,5,6,7,8,9,10,11] n) 9)),0⟩:Ob)=_;rw[e]
def Ln(b:Nat)(X:List fE):∀r∈X.mapIdx (qe b),∀c∈r,zG c=true:=λr hr=>by
 obtain⟨i,hi,rfl⟩:=uz.1 hr;exact U4 b i _
def Tj(s:ia)(b:Wor×Int)(St:Nat->iP)(hb:th 8 [] [.agg (BE s)] (.eR [.agg (xk b.1),I b.2]) [])(hn:b.2=0->s.threads.length<=8/\s.qT.length<=4000/\∀p∈s.qT,0<=p/\i64 p)
 (h0:St 0=(b.1,s.threads.map iW,[]))(hs:b.2=0->∀k p,s.qT[k]?=some p->WZ (St k).2.1 (St k).1 (St k).2.2 p (St (k+1))):
  th 6 [] [.agg (BE s)] (.eR [mX (if b.2=0 then (St s.qT.length).2.2 else []),.agg (xk (if b.2=0 then (St s.qT.length).1 else ⟨0,0,0,[],[],[],[],[]⟩)),I b.2]) []:=by
 have m1:(s.threads.map wo).length=s.threads.length:=gO ..;have m2:(s.qT.map Go.Hy.encI).length=s.qT.length:=gO ..;refine ab func6 ?_;refine af hb ?_;refine⟨λh1=>?_,λh1=>?_⟩
 rotate_left
 .have e0:b.2=0:=by simpa using h1
  obtain⟨n1,n2,n3⟩:=hn e0;have hs:=hs e0;rw[gS e0,gS e0,e0];refine zac ?_
  rw[m1];refine⟨rfl,an,by show(488:Int)*_<=_;omega,an,dd ?_⟩;rw[toNat_cast,m1];refine zH.seq s.threads.length (λk=>(.za::.ref 0 [] 5 0 0:: .za::.ref 1 [] 8 0 0:: .za::.ref 2 [] 8 0 0:: .za::.sl 3 [] 48 0 s.threads.length false:: mK (mK (mK (De s.threads::I s.threads.length::I k:: .za::mK (jp (mK ([])))))))) (λk=>[oS s,⟨1,38,8,[fB],0⟩,oW b.1,⟨2,66,48,oJ s.threads k,0⟩]) (λ_=>True) ?_ trivial (λk hk _=>?_) (λ_=>?_)
  .exact cC
  .have hg:(s.threads.map wo)[k]?=some (wo s.threads[k]):=by rw[gM,gL hk];rfl
   conv=>whnf
   refine zay ?_
   refine⟨an,by rw[toNat_cast];exact hk,dd ?_⟩;rw[show 0+((k:Int)).toNat=k from ah];refine⟨_,VR hk,rfl,dd ?_⟩;refine zai ?_;rw[zm an,<-Uz hk];exact cC
  .refine uD ?_;rw[m2];refine zH.seq s.qT.length (λk=>(.za::.ref 0 [] 5 0 0:: .za::.ref 1 [] 8 0 0:: .za::.ref 2 [] 8 0 0:: .za::.sl 3 [] 48 0 s.threads.length false:: .za::.za::.gl 12 23 ((St k).2.2.map jY):: .za::.za::.za::.za::mK (mK (mK (mK (lI s.qT::I s.qT.length::I k:: .za::.za::mK (mK (mK (mK ([])))))))))) (λk=>(oS s)::⟨1,38,8,[fB],0⟩::(oW ((St k).1))::(m9 4 (St k).2.1++[⟨4,73,23,((St k).2.2).map jY,0⟩])) (λk=>(St k).2.1.length=s.threads.length/\(St k).2.2.length<=k) ?_ (by rw[h0];exact⟨gO ..,pj _⟩) (λk hk hr=>?_) (λhr=>?_)
   .refine(Qr n1 _ _ _).trans ?_;rw[h0];exact(zk.grow 10 73 23 V (.inl V)).trans (cC)
   .have hp:s.qT[k]?=some s.qT[k]:=gL hk;have hg:(s.qT.map Go.Hy.encI)[k]?=some (Go.Hy.encI s.qT[k]):=by rw[gM,hp];rfl
    have h1:=hs k s.qT[k] hp;generalize hS:St k=S at *;obtain⟨w,X,out⟩:=S;obtain⟨hr,ho⟩:=hr;have hr:X.length=s.threads.length:=hr;have ho:out.length<=k:=ho;have hal:=FH X X.length;conv=>whnf
    refine zay ?_
    rw[<-hr];refine⟨_,_,OR X 4 false _ _ _ _ _ _ _ _ _ _ _ _ _,uH ?_⟩;refine⟨_,zk.qM 13 0 3 1 V V (.inl V) V V,?_⟩
    refine⟨.normal,_,(oS s)::⟨1,38,8,[fB],0⟩::(oW w)::lK 4 X::eS X 0::eS X 1::eS X 2::eS X 3::eS X 4::eS X 5::eS X 6::eS X 7::⟨4,73,23,(out).map jY,0⟩::[⟨1,28,1,[[.gl 15 1 (iy X X.length)]],0⟩,⟨1,60,1,[[.sl 3 [] 48 0 X.length false]],0⟩,⟨4,3,1,iy X X.length,0⟩],
     λl r h1 h2 h3 h4 h5=>⟨_,_,r,NS l X 4 false an _ _ _ _ _ _ _ _ _ _ _ _ (λk=>⟨1,28,1,[[.gl 15 1 (iy X k)]],0⟩) (λk=>[⟨4,3,1,iy X k,0⟩,fQ l r _]) (λk x hx ho=>?_) (λk x hx ho=>?_),
     rfl,aE,rfl,pC _,aF,zk.drop 16 V V V (zS V (zS V (zS V (zS (qi (KR (b:=4) aj an)) V))))⟩,?_⟩
    .refine jn.zZ (id:=16) V h1 h2 h3 h4 h5 V V V ?_;conv=>whnf
     refine⟨rfl,rfl,uH ?_⟩;have hkl:=(gN.1 hx).1;have mal:=VC X k;have al2:=FH X k;refine⟨rfl,.inr V,aq,aH,uH ?_⟩;have e:iy X (k+1)=iy X k++[[I k]]:=VD hx ho;rw[e];exact dw
    .have e:iy X (k+1)=iy X k:=W2 hx ho;exact⟨by simp only[e],by simp only[e]⟩
    conv=>whnf
    have hp0:=n3 s.qT[k] (pH hk);have ll:((qL X X.length).map λ(n:Nat)=>(n:Int)).length=(qL X X.length).length:=gO ..;have pk:=SJ s.qT[k] ((qL X X.length).map λ(n:Nat)=>(n:Int)) hp0.2 an;have el:(((qL X X.length).map λ(n:Nat)=>(n:Int)).map Go.Hy.encI)=iy X X.length:=by unfold iy;rw[sd];rfl
    unfold lI at pk;rw[el]at pk;have h1:=h1.go;rcases h1 with⟨ha,hS2⟩|⟨t,x,e,ha,hx,hX2,ho2,hst⟩
    .have ep:kF s.qT[k] ((qL X X.length).map λ(n:Nat)=>(n:Int))=(0,5):=by
      unfold kF;rw[gP an,gS (by rw[ll];exact rZ.2 ha)]
     rw[ep]at pk;refine⟨_,_,pk.frame V _,dd ?_⟩;refine td ?_
     refine zap ?_
     have stay:∀j,k+j<=s.qT.length->St (k+j)=(w,X,out):=λj=>by
      induction j with
      |zero=>intro _;exact hS
      |succ j ih=>
       intro hj;have q:=ih an;have g:=(hs (k+j) _ (gL an)).go;rw[q]at g;rcases g with⟨_,g⟩|⟨t,x,e,g,_⟩
       .exact g
       .rw[ha]at g;cases g
     have last:=stay (s.qT.length-k) an;rw[show k+(s.qT.length-k)=s.qT.length from an]at last;rw[last];refine .inl ⟨⟨false,[1],[2],[]⟩,ak,uH ?_⟩;refine tc ?_
     exact uI
    .have ep:kF s.qT[k] ((qL X X.length).map λ(n:Nat)=>(n:Int))=((t:Int),0):=by
      have hne:(qL X X.length).length≠0:=λz=>by rw[rZ.1 z]at ha;cases ha
      unfold kF;rw[gP an,gP (by rw[ll];exact hne),ll,gM,ha]
      rfl
     rw[ep]at pk;have pk:th 18 [] [I s.qT[k],.eM 0 1 (iy X X.length)] (.eR [I (t:Int),I 0]) []:=pk;have htl:=(gN.1 hx).1;refine⟨_,_,pk.frame V _,dd ?_⟩;refine td ?_
     refine zaL ?_;refine⟨an,by rw[toNat_cast];exact htl,dd ?_⟩;rw[show 0+((t:Int)).toNat=t from ah];have hX8:(St (k+1)).2.1.length<=8:=an
     generalize hS':St (k+1)=S' at *;obtain⟨w',X',out'⟩:=S';have hX2:X'.length=X.length:=hX2;have ho2:out'=out++[e]:=ho2;have hst:th 19 (m9 1 X) [.ref 0 [] 48 t 0,.agg (xk w),I t] (.eR [.agg (xk w'),.agg (jY e)]) (m9 1 X'):=hst;refine Go.Wor.zW [3,4,5,6,7,8,9,10,11] ((oS s)::⟨1,38,8,[fB],0⟩::(oW w)::(m9 4 X'++[⟨4,73,23,(out).map jY,0⟩,⟨1,28,1,[[.gl 15 1 (iy X X.length)]],0⟩,⟨1,60,1,[[.sl 3 [] 48 0 X.length false]],0⟩,⟨4,3,1,iy X X.length,0⟩,⟨1,73,23,[[I 0,I 0,I 0,I 0,I 0,Bo false,I 0,Bo false,Bo false,Bo false,I 0,I 0,I 0,I 0,I 0,I 0,I 0,U 0,U 0,U 0,U 0,U 0,U 0]],0⟩])) (rx:=.eR [.agg (xk w'),.agg (jY e)]) hst (ze (zf (Ln 1 X')) V) (by show zJ _ (lK 4 X)::_=_;rw[WA an];rfl) V V V (ze V (ze V (ze V (ze (zf (Ln 4 X)) V)))) (by show _::_::_::zM _ (lK 1 X')::_=_;rw[Wm an];rfl) V (dd ?_);have mO:(out.map jY).length=out.length:=gO ..;refine⟨rfl,.inr V,by show(out.map jY).length+1<=maxLen;rw[mO];simp[maxLen];omega,by show((((out.map jY).length+1)*168:Nat):Nat)<=_;rw[mO];omega,dd ?_⟩;refine .inl ⟨rfl,?_,hX2,by rw[ho2,pW,rW];omega⟩;have eO:out.map jY++[[I e.zl,I e.op,I e.access,I e.cell,I e.version,Bo e.qF,I e.value,Bo e.yE,Bo e.jj,Bo e.done,I e.answer.kind,I e.answer.version,I e.answer.zp,I e.answer.end_,I e.answer.slot,I e.answer.listen,I e.answer.n,U e.answer.counts.c0,U e.answer.counts.c1,U e.answer.counts.c2,U e.answer.counts.c3,U e.answer.counts.c4,U e.answer.counts.c5]]=out'.map jY:=by rw[ho2,pZ];rfl
     rw[zm an];dsimp only;rw[eO];exact zk.jq 13 ta V V V (zS V (zS V (zS V (zS (qi (KR (b:=4) aj an)) V)))) V
   .refine uD ?_;refine .inl ⟨⟨false,[1],[2],[]⟩,ak,uH ?_⟩;refine tc ?_
    exact uI
 .have e0:b.2≠0:=by simpa using h1
  rw[gP e0,gP e0];refine zac ?_
  exact⟨.inl V,_,(zk.var 1 V V V (.cons (.refl _) (.cons (.refl _) (.cons (.refl _) (.cons (WC.nil 0 1) (.cons (WC.nil 0 5) (.cons (WC.nil 0 4) (.cons (WC.nil 0 1) (.cons (WC.nil 0 3) .nil))))))))).trans (zk.grow 2 73 23 V (.inl V)),rfl⟩
end Go.Ply
