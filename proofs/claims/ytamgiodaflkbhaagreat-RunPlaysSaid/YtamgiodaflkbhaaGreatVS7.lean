import Derived.Test.YtamgiodaflkbhaaGreatVS6
import Derived.Test.YtamgiodaflkbhaaGreatV9
set_option linter.all false
set_option maxRecDepth 100000
set_option maxHeartbeats 4000000
namespace Go.Ply
open Go.Ab Go.Proofs Tryz Go.Hy Go.Wor
variable{T:List (List fQ)}
structure Yl(X:List ia)(w:Wor)(out:List fF)(p:Int)(s':iX):Prop where
 go:(ql X X.length=[]/\s'=(w,X,out))\/∃(t:Nat) (x:ia) (o:fQ) (w':Wor) (m':fx) (e:fF),(ql X X.length)[(p%(ql X X.length).length).toNat]?=some t/\X[t]?=some x/\x.ops[x.done]?=some o/\
  x.given.length<=1000/\x.done<=1000/\nB w (Bd x t o) (w',m',e)/\s'=(w',X.set t (yh x m'),out++[BC e x])
def o8(T:List (List fQ))(k:Nat):List (List C):=(T.take k).map λl=>l8 (lP l)
def UE{k:Nat}(h:k<=T.length):(o8 T k).length=k:=by unfold o8;simp;omega
def SF{k:Nat}(h:k<T.length):o8 T (k+1)=o8 T k++[l8 (lP T[k])]:=by unfold o8;rw[ru h,ry];rfl
def UF(T:List (List fQ))(k:Nat):((o8 T k).all λx=>x.all zF)=true:=by
 rw[pG];intro r hr;obtain⟨x,_,rfl⟩:=rp.1 hr
 rfl
def Vj(l:List fQ):iI (l8 (lP l)) (jl (w9 l)):=by
 have r:∀(cs:List C) {a b:C},WC a b->iI (cs++[a]) (cs++[b]):=λcs a b h=>by
  induction cs with
  |nil=>exact .cons h .nil
  |cons c cs ih=>exact .cons (.refl _) ih
 exact .cons (.refl _) (.cons (.refl _) (.cons (.refl _) (.cons (.refl _) (.cons (.refl _) (.cons (.refl _) (.cons (.refl _) (.cons (.refl _) (.cons (.refl _) (.cons (.refl _) (.cons (WC.nil 0 1) (.cons (WC.nil 0 4) (.cons (WC.nil 0 4) (r Nd (WC.nil 0 13))))))))))))))
def QN{B:Nat}{t:List C}(O0 O1 O2:Ob)(ty:TypeId):zl B ⟨t,[O0,O1,O2,⟨2,ty,48,o8 T T.length,0⟩]⟩ ⟨t,[O0,O1,O2,⟨1,0,48,(T.map w9).map jl,0⟩]⟩:=by
 have e:o8 T T.length=T.map λl=>l8 (lP l):=by unfold o8;rw[pQ]
 have own1:∀r∈T.map λl=>l8 (lP l),∀c∈r,zF c=true:=λr hr=>by
  obtain⟨l,_,rfl⟩:=rp.1 hr;have e:(l8 (lP l)).all zF=true:=rfl;exact pG.1 e
 have own2:∀r∈(T.map w9).map jl,∀c∈r,zF c=true:=λr hr c hc=>(shut_map (enc:=jl) (λ_=>V) _ r hr c hc).2
 rw[e];refine(zl.Bw (s:=⟨t,[O0,O1,O2,⟨2,ty,48,_,0⟩]⟩) 3 V own1).trans ?_;refine zl.E8 (s:=⟨t,[O0,O1,O2,⟨1,0,48,_,0⟩]⟩) 3 (rows':=(T.map w9).map jl) V ah (λi r r' h h'=>?_) own1 own2;obtain⟨l,h1,rfl⟩:=rq.1 ((pw ..).symm.trans h);rw[sJ]at h';obtain⟨l',h2,rfl⟩:=rq.1 ((pw ..).symm.trans h');rw[h1]at h2;cases h2
 exact Vj l
def LP{l:List (List C)}{t:Nat}{a b:List C}(h:iI a b):∀(i:Nat) (r r':List C),(l.set t a)[i]?=some r->(l.set t b)[i]?=some r'->iI r r':=λi r r' h1 h2=>by
 have lt:=(px.1 h1).1;rw[sF]at lt;by_cases e:t=i
 .subst e;rw[pH lt]at h1 h2;cases h1
  cases h2
  exact h
 .rw[rC e]at h1 h2;rw[h1]at h2;cases h2
  exact .refl _
def SH(s:ic)(b:Wor×Int)(St:Nat->iX)(hb:th 9 [] [.agg (vA s)] (.fy [.agg (xc b.1),I b.2]) [])(hn:b.2=0->1<=s.threads.length/\s.threads.length<=8/\s.zY.length<=4000/\∀p∈s.zY,0<=p)
 (h0:St 0=(b.1,s.threads.map w9,[]))(hs:b.2=0->∀k p,s.zY[k]?=some p->Yl (St k).2.1 (St k).1 (St k).2.2 p (St (k+1))):
  th 7 [] [.agg (vA s)] (.fy [lq (if b.2=0 then (St s.zY.length).2.2 else []),.agg (xc (if b.2=0 then (St s.zY.length).1 else ⟨0,0,0,[],[],[],[],[]⟩)),I b.2]) []:=by
 have m1:(s.threads.map j0).length=s.threads.length:=pz ..;have m2:(s.zY.map Go.Hy.encI).length=s.zY.length:=pz ..;refine ab func7 ?_;refine af hb ?_;refine⟨λh1=>?_,λh1=>?_⟩
 .have e0:b.2≠0:=by simpa using h1
  rw[pA e0,pA e0];refine zac ?_
  exact⟨.inl V,_,(zl.var 1 V V V (.cons (.refl _) (.cons (.refl _) (.cons (.refl _) (.cons (WC.nil 0 1) (.cons (WC.nil 0 5) (.cons (WC.nil 0 4) (.cons (WC.nil 0 1) (.cons (WC.nil 0 3) .nil))))))))).trans (zl.grow 2 73 23 V (.inl V)),rfl⟩
 have e0:b.2=0:=ai h1
 obtain⟨n0,n1,n2,n3⟩:=hn e0;have hs:=hs e0;rw[pD e0,pD e0,e0];refine zac ?_
 refine zH.inv (λi t1 H1=>∃k:Nat,k+i=s.threads.length/\((k=0/\t1=(.za::.ref 0 [] 5 0 0:: .fq 1 0 []:: .ref 1 [] 8 0 0::I 0:: .ref 2 [] 8 0 0:: .za::.fq 1 48 []::I k:: .za::.za::mL (jp (jp (jp (jp (mL ([])))))))/\H1=[oS s,⟨1,38,8,[fW],0⟩,oW b.1])\/(k≠0/\t1=(.za::.ref 0 [] 5 0 0:: .fq 1 0 []:: .ref 1 [] 8 0 0::I 0:: .ref 2 [] 8 0 0:: .za::.sl 3 [] 48 0 k false::I k:: .za::.za::mL (jp (jp (jp (jp (mL ([])))))))/\H1=[oS s,⟨1,38,8,[fW],0⟩,oW b.1,⟨2,78,48,o8 s.threads k,0⟩]))) s.threads.length ?_ ?_
 .exact⟨_,_,cC,0,ah,.inl ⟨rfl,rfl,rfl⟩⟩
 rintro i _ _ ⟨k,hk,hst⟩;by_cases hi:i=0
 .have hkl:k=s.threads.length:=by omega
  subst hkl;rcases hst with⟨h1,rfl,rfl⟩|⟨h1,rfl,rfl⟩
  .omega
  conv=>whnf
  rw[m1];refine zcd ?_;refine zaW ?_;refine zH.seq s.zY.length (λk=>(.za::.ref 0 [] 5 0 0:: .fq 1 0 []:: .ref 1 [] 8 0 0::I 0:: .ref 2 [] 8 0 0:: .za::.sl 3 [] 48 0 s.threads.length false:: .za::.gl 4 23 (((St k).2.2).map jb)::I k:: mL (jp (jp (jp (jp (mL ([])))))))) (λk=>[oS s,⟨1,38,8,[fW],0⟩,oW ((St k).1),⟨1,0,48,(St k).2.1.map jl,0⟩,⟨4,73,23,((St k).2.2).map jb,0⟩]) (λk=>(St k).2.1.length=s.threads.length/\(St k).2.2.length<=k) ?_ (by rw[h0];exact⟨pz ..,pN _⟩) (λk hk hr=>?_) (λhr=>?_)
  .refine(QN _ _ _ _).trans ?_;rw[h0];exact(zl.grow 9 73 23 V (.inl V)).trans (cC)
  .have hp:s.zY[k]?=some s.zY[k]:=pq hk;have hg:(s.zY.map Go.Hy.encI)[k]?=some (Go.Hy.encI s.zY[k]):=by rw[pw,hp];rfl
   have h1:=hs k s.zY[k] hp;generalize hS:St k=S at *;obtain⟨w,X,out⟩:=S;obtain⟨hr,ho⟩:=hr;have hr:X.length=s.threads.length:=hr;have ho:out.length<=k:=ho;have hal:=CU X X.length;conv=>whnf
   rw[m2];refine uF ?_;have ownX:∀r∈X.map jl,∀c∈r,zF c=true:=λr hr c hc=>(shut_map (enc:=jl) (λ_=>V) _ r hr c hc).2
   have lowX:∀n,0<=n->qj n [⟨1,0,48,X.map jl,0⟩]=true:=λn _=>qi λr hr c hc=>by obtain⟨x,_,rfl⟩:=rp.1 hr;exact pG.1 (show(jl x).all (qE n 9)=true from V) c hc
   have ha:=Qx X an;have pk:=Rb s.zY[k] ((ql X X.length).map λ(n:Nat)=>(n:Int)) ar;refine .inl ⟨⟨true,[1,4],[0],[]⟩,ak,uH ?_⟩;refine zbR ?_
   rw[<-hr];refine Go.Wor.zU [3] [oS s,⟨1,38,8,[fW],0⟩,oW w,⟨1,0,48,X.map jl,0⟩,⟨4,73,23,(out).map jb,0⟩] (rx:=lI ((ql X X.length).map λ(n:Nat)=>(n:Int))) ha (ze (zf ownX) V) (by show zJ _ ⟨1,0,48,_,0⟩::_=_;rw[Mn (enc:=jl) (λ_=>V)];rfl) V V V (ze V (ze V (ze V (ze (zf ownX) V)))) (by show _::_::_::zL _ ⟨1,0,48,_,0⟩::_=_;rw[Lw (enc:=jl) (λ_=>V)];rfl) V (dd ?_);refine tc ?_
   have hp0:=n3 s.zY[k] (rj hk);have ll:((ql X X.length).map λ(n:Nat)=>(n:Int)).length=(ql X X.length).length:=pz ..;rcases h1.go with⟨ha,hS2⟩|⟨t,x,o,w',m',e,ha,hx,hox,hgn,hdn,hst,hS2⟩
   .have ep:yg s.zY[k] ((ql X X.length).map λ(n:Nat)=>(n:Int))=(0,5):=by
     unfold yg;rw[pA an,pD (by rw[ll];exact sf.2 ha)]
    rw[ep]at pk;have pk:th 20 [] [I s.zY[k],lI ((ql X X.length).map λ(n:Nat)=>(n:Int))] (.fy [I 0,I 5]) []:=pk;refine af pk ?_;refine tc ?_
    refine td ?_
    have stay:∀j,k+j<=s.zY.length->St (k+j)=(w,X,out):=λj=>by
     induction j with
     |zero=>intro _;exact hS
     |succ j ih=>
      intro hj;have q:=ih an;have g:=(hs (k+j) _ (pq an)).go;rw[q]at g;rcases g with⟨_,g⟩|⟨t,x,o,w',m',e,g,_⟩
      .exact g
      .rw[ha]at g;cases g
    have last:=stay (s.zY.length-k) an;rw[show k+(s.zY.length-k)=s.zY.length from an]at last;rw[last];refine zcC ?_
    refine zaw ?_
    exact uI
   .have ep:yg s.zY[k] ((ql X X.length).map λ(n:Nat)=>(n:Int))=((t:Int),0):=by
     have hne:(ql X X.length).length≠0:=λz=>by rw[sf.1 z]at ha;cases ha
     unfold yg;rw[pA an,pA (by rw[ll];exact hne),ll,pw,ha]
     rfl
    rw[ep]at pk;have pk:th 20 [] [I s.zY[k],lI ((ql X X.length).map λ(n:Nat)=>(n:Int))] (.fy [I (t:Int),I 0]) []:=pk;refine af pk ?_;refine tc ?_
    have htl:=(px.1 hx).1;have hX8:(St (k+1)).2.1.length=X.length:=by rw[hS2];exact sF
    have ho8:(St (k+1)).2.2.length<=k+1:=by rw[hS2];show(out++[BC e x]).length<=_;rw[rB,r7];omega
    rw[hS2];obtain⟨ops,dn,on,m,given⟩:=x;have hgx:(X.map jl)[t]?=some (jl ⟨ops,dn,on,m,given⟩):=by rw[pw,hx];rfl
    have hox:ops[dn]?=some o:=hox;have hgn:given.length<=1000:=hgn;have hdn:dn<=1000:=hdn;refine td ?_
    refine⟨an,by rw[toNat_cast];exact htl,dd ?_⟩;rw[show 0+((t:Int)).toNat=t from ah];refine⟨_,hgx,(by show 2+1<=48;decide),dd ?_⟩;have own1:∀(m1:fx) (r:List C),r∈(X.map jl).set t (lP ops::I (dn:Int)::Bo true::(vX (m1)++[lA given]))->∀c∈r,zF c=true:=λm1=>zE (enc:=jl) (λ_=>V) V _ _
    have gm:∀m1:fx,((X.map jl).set t (lP ops::I (dn:Int)::Bo true::(vX (m1)++[lA given])))[t]?=some (lP ops::I (dn:Int)::Bo true::(vX (m1)++[lA given])):=λm1=>pH (ai htl)
    have gs:∀r:List C,((X.map jl).set t r)[t]?=some r:=λr=>pH (ai htl)
    have low1:∀(m1:fx) (n:Nat),qj n [⟨1,0,48,(X.map jl).set t (lP ops::I (dn:Int)::Bo true::(vX (m1)++[lA given])),0⟩]=true:=λm1 n=>qi (zE (enc:=jl) (p:=qE n 9) (λ_=>V) V _ _)
    have hF0:∀on2,m'.done=false->(X.set t (yh ⟨ops,dn,on2,m,given⟩ m')).map jl=(X.map jl).set t (lP ops::I (dn:Int)::Bo true::(vX (m')++[lA given])):=λon2 q=>by rw[sA];unfold Wor.yh;rw[pA tU];rfl
    have mg:(given.map qY).length=given.length:=pz ..;have ew:IntKind.i64.wrap ((dn:Int)+1)=((dn+1:Nat):Int):=by rw[zk an]
    have low2:∀(n:Nat),qj n [⟨1,0,48,(X.map jl).set t (lP ops::I (IntKind.i64.wrap ((dn:Int)+1))::Bo false::(vX m'++[.fq 0 13 (given.map qY++[qY m'.answer])])),0⟩]=true:=λn=>qi (zE (enc:=jl) (p:=qE n 9) (λ_=>V) V _ _)
    have hF1:∀on2,m'.done=true->(X.set t (yh ⟨ops,dn,on2,m,given⟩ m')).map jl=(X.map jl).set t (lP ops::I (IntKind.i64.wrap ((dn:Int)+1))::Bo false::(vX m'++[.fq 0 13 (given.map qY++[qY m'.answer])])):=λon2 q=>by rw[sA,ew];unfold Wor.yh;rw[pD q];unfold jl;rw[show lA (given++[m'.answer])=.fq 0 13 (given.map qY++[qY m'.answer]) from by unfold lA;rw[ry];rfl]
    have hO:∀x:ia,(out++[BC e x]).map jb=out.map jb++[jb (BC e x)]:=λx=>by rw[ry];rfl
    have mO:(out.map jb).length=out.length:=pz ..;have rl:∀m1:fx,(lP ops::I (dn:Int)::Bo true::(vX (m1)++[lA given])).length=48:=λ_=>rfl
    cases on
    .have hst:nB w (Beg.xS t o given) (w',m',e):=hst;have hgo:(ops.map yB)[dn]?=some (yB o):=by rw[pw,hox];rfl
     (first|((refine ya (dd ?_)))|((refine yb (dd ?_))))
     refine td ?_
     refine .inl ⟨⟨true,[],[],[16]⟩,ak,uH ?_⟩;refine⟨_,hgx,(by show 0+1<=48;decide),dd ?_⟩;refine⟨_,hgx,aO,dd ?_⟩;refine te hgo ?_;refine⟨_,hgx,aP,dd ?_⟩;refine af (Beg.PH t o given an) ?_;refine⟨_,hgx,rfl,dd ?_⟩;refine⟨_,pH (ai htl),rfl,?_⟩;refine dd ?_;rw[rb];refine .inr ⟨⟨[0,4,5],[2,3],true⟩,ak,λ_=>(show qL _=true by (repeat' (first|(exact V)|(exact zf (own1 _))|(refine ze ?_ ?_)))),_,?_,λt2 H2 h=>h⟩;(conv=>whnf);(refine⟨_,gm (Beg.xS t o given),aQ,uH ?_⟩);(refine⟨_,ag [] (hst),uH (uH ?_)⟩);((repeat' (first|(refine And.intro V (uH ?_))|(refine And.intro (uH ?_) trivial)|(refine And.intro (show qL _=true by (repeat' (first|(exact V)|(exact zf (own1 _))|(refine ze ?_ ?_)))) ?_;(conv=>whnf))|(refine And.intro ?_ ?_ <;> (conv=>whnf)))));(all_goals ((refine⟨_,_,.refl _,uH ?_⟩)));(all_goals ((refine⟨_,gs _,rfl,?_⟩);(refine dd ?_);(rw[rb]);(refine⟨_,gs _,aO,?_⟩);(refine dd ?_);(refine⟨rfl,.inr V,c8,aM,?_⟩);(refine dd ?_)))
     all_goals
      refine⟨λhd=>?_,λhd=>?_⟩
      rotate_left
      ·(refine dd ?_);(refine .inl ⟨rfl,?_,c9,da⟩);(rw[zk an]);(dsimp only);(rw[hF0 _ hd,hO]);exact zl.jd 5 ta V V V (by (repeat' (first|(exact V)|(exact low1 _ _)|(refine qc ?_ ?_)))) V
      .refine dd ?_;refine zcn ?_;(refine dd ?_)
       ((refine .inl ⟨.inl V,.inr V,db,by show(0+(given.map qY).length)*104<=_;rw[mg];omega,?_⟩);(refine dd ?_);(refine⟨rfl,.inr V,dc,by show((given.map qY).length+1)*104<=_;rw[mg];omega,?_⟩);(refine dd ?_);(refine⟨_,gs _,rfl,?_⟩);(refine dd ?_);(rw[rb]));(refine .inl ⟨rfl,?_,c9,da⟩);(rw[zk an]);(dsimp only);refine zbE ?_;(exact zl.jd 5 ta V V V (by (repeat' (first|(exact V)|(exact low2 _)|(refine qc ?_ ?_)))) V)
    .have hst:nB w m (w',m',e):=hst;(first|((refine ya (dd ?_)))|((refine yb (dd ?_))))
     refine td ?_
     rw[(vK _ _ hgx:_=X.map jl).symm];refine .inr ⟨⟨[0,4,5],[2,3],true⟩,ak,λ_=>(show qL _=true by (repeat' (first|(exact V)|(exact zf (own1 _))|(refine ze ?_ ?_)))),_,?_,λt2 H2 h=>h⟩;(conv=>whnf);(refine⟨_,gm m,aQ,uH ?_⟩);(refine⟨_,ag [] (hst),uH (uH ?_)⟩);((repeat' (first|(refine And.intro V (uH ?_))|(refine And.intro (uH ?_) trivial)|(refine And.intro (show qL _=true by (repeat' (first|(exact V)|(exact zf (own1 _))|(refine ze ?_ ?_)))) ?_;(conv=>whnf))|(refine And.intro ?_ ?_ <;> (conv=>whnf)))));(all_goals ((refine⟨_,_,.refl _,uH ?_⟩)));(all_goals ((refine⟨_,gs _,rfl,?_⟩);(refine dd ?_);(rw[rb]);(refine⟨_,gs _,aO,?_⟩);(refine dd ?_);(refine⟨rfl,.inr V,c8,aM,?_⟩);(refine dd ?_)))
     all_goals
      refine⟨λhd=>?_,λhd=>?_⟩
      rotate_left
      ·(refine dd ?_);(refine .inl ⟨rfl,?_,c9,da⟩);(rw[zk an]);(dsimp only);(rw[hF0 _ hd,hO]);exact zl.jd 5 ta V V V (by (repeat' (first|(exact V)|(exact low1 _ _)|(refine qc ?_ ?_)))) V
      .refine dd ?_;refine zcn ?_;(refine dd ?_)
       ((refine .inl ⟨.inl V,.inr V,db,by show(0+(given.map qY).length)*104<=_;rw[mg];omega,?_⟩);(refine dd ?_);(refine⟨rfl,.inr V,dc,by show((given.map qY).length+1)*104<=_;rw[mg];omega,?_⟩);(refine dd ?_);(refine⟨_,gs _,rfl,?_⟩);(refine dd ?_);(rw[rb]));(refine .inl ⟨rfl,?_,c9,da⟩);(rw[zk an]);(dsimp only);refine zbE ?_;(exact zl.jd 5 ta V V V (by (repeat' (first|(exact V)|(exact low2 _)|(refine qc ?_ ?_)))) V)
  .conv=>whnf
   rw[m2];refine zaf ?_;refine zcC ?_
   exact uI
 .have ft:k<s.threads.length:=by omega
  have hg:(s.threads.map j0)[k]?=some (j0 s.threads[k]):=by rw[pw,pq ft];rfl
  have eR:=SF ft;have lR:=UE (T:=s.threads) (k:=k) an;rcases hst with⟨h1,rfl,rfl⟩|⟨h1,rfl,rfl⟩
  .subst h1;conv=>whnf
   rw[m1];(refine⟨λ_=>dd ?_,λh=>absurd (pB h) an⟩)
   refine zbR ?_
   refine .inr ⟨.inl V,aj,aj,dd ?_⟩;refine .inl ⟨rfl,i-1,_,_,an,?_,1,an,.inr ⟨aj,rfl,rfl⟩⟩;rw[zk an,eR];exact cE 4
  .conv=>whnf
   rw[m1];refine zaD ?_
   refine⟨lR,UF _ _,aq,by show _*488<=_;simp;omega,dd ?_⟩;refine .inl ⟨rfl,i-1,_,_,an,?_,k+1,an,.inr ⟨an,rfl,rfl⟩⟩;rw[zk an,eR];exact(zl.fD [0,1,2,4] [1,2,3,4,5,7,8] _ _ V V V V).trans (cC)
end Go.Ply
