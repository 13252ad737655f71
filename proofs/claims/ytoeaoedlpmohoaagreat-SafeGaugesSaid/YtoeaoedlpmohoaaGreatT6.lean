import Derived.Test.YtoeaoedlpmohoaaGreatTJ
import Derived.Test.YtoeaoedlpmohoaaGreatProg
import Derived.Test.YtoeaoedlpmohoaaGreatT2
import Derived.Test.YtoeaoedlpmohoaaGreatTW
set_option linter.all false
set_option maxRecDepth 100000
set_option maxHeartbeats 4000000
namespace Go.Ply
open Go.Ab Go.Proofs Tryz Go.Hy
def yq{P:Program}{o:Oper}{σ:Operand->Value}{t t':TypeId}{x y:Operand}{k:IntKind}{n m:Int}(ho:o.op=.binOp .rem t x y t')(hx:σ x=.int k n)(hy:σ y=.int k m)(hm:m≠0):
  mE P (execOp σ o)=some (.value (.int k (n.tmod m))):=by
 have hi:Op.intDiv .rem k n m=pure (.int k (n.tmod m)):=by unfold Op.intDiv;rw[dZ hm]
 have hg:eqGuard .rem t x y (σ x) (σ y)=pure ():=rfl
 have hb:binOp .rem t (σ x) (σ y)=pure (.int k (n.tmod m)):=by
  rw[hx,hy];simp only[binOp,hi];exact dZ aj
 unfold execOp;rw[ho];dsimp only;rw[hg,hb]
 rfl
def yx(p:Int)(l:List Int):Int×Int:=if p<0 then (0,1) else if l.length=0 then (0,5) else ((l[(p%l.length).toNat]?).getD 0,0)
def Ut(l:List Int):tj 61 [] [lI l] (.fn 91 [] [.ref 1 [] 1 0 0,.ref 0 [] 1 0 0]) [⟨1,28,1,[[lI l]],0⟩,⟨1,3,1,[[I (-1)]],0⟩]:=by
 refine zb.zL (fn:=f61) func61 J (uH ?_);exact uJ
def Lm(l:List Int)(i:Int)(x:Int)(h0: -1<=i)(h1:i<1000000000000)(hl:0<l.length)(hl2:l.length<1000000000000)(hx:l[((i+1)%l.length).toNat]?=some x):
  tj 91 [⟨1,28,1,[[lI l]],0⟩,⟨1,3,1,[[I (i)]],0⟩] [.ref 1 [] 1 0 0,.ref 0 [] 1 0 0] (I x) [⟨1,28,1,[[lI l]],0⟩,⟨1,3,1,[[I ((i+1)%l.length)]],0⟩]:=by
 have ml:(l.map encI).length=l.length:=gu ..;have hw:IntKind.i64.wrap (i+1)=i+1:=jx aw aw;have hn:(((l.map encI).length:Nat):Int)≠0:=aw
 have et:(i+1).tmod (((l.map encI).length:Nat):Int)=(i+1)%l.length:=by rw[ml];exact sg aw
 have b0:0<=(i+1)%(l.length:Int):=sG _ aw;have hg:(l.map encI)[((i+1)%(l.length:Int)).toNat]?=some [I x]:=by rw[gf,hx];rfl
 refine zb.zL (fn:=f91) func91 J (uH ?_);rw[hw];split;(rotate_left;(rename_i hno;exact(hno _ (yq J J J hn)).elim));(rename_i v e;cases e.symm.trans (yq rfl rfl rfl hn));refine dd ?_
 rw[et];refine⟨b0,_,hg,dd ?_⟩;exact uJ
def U1(p:Int)(l:List Int)(hp:i64 p)(hl:l.length<1000000000000):tj 32 [] [I p,lI l] (.fq [I (yx p l).1,I (yx p l).2]) []:=by
 have ml:(l.map encI).length=l.length:=gu ..;refine ab func32 ?_;refine⟨λh1=>?_,λh1=>?_⟩
 ·have h1:p<0:=by simpa using h1
  have e:yx p l=(0,1):=gh h1;rw[e];exact dk
 have h1:¬p<0:=aq h1
 refine dd ?_;rw[ml];refine⟨λh2=>?_,λh2=>?_⟩
 ·have h2:l.length=0:=by have h2:=gJ h2;omega
  have e:yx p l=(0,5):=(dZ h1).trans (gh h2);rw[e];exact dk
 have h2:l.length≠0:=by have h2:=ru h2;omega
 have e:yx p l=((l[(p%l.length).toNat]?).getD 0,0):=(dZ h1).trans (dZ h2);rw[e];have b0:0<=p%(l.length:Int):=sG _ aw;have b1:p%(l.length:Int)<l.length:=sH _ aw;have at_:∀k:Nat,k<l.length->l[k]?=some ((l[k]?).getD 0):=λk hk=>by rw[dX hk];rfl
 have r0:=Lm l (-1) ((l[0]?).getD 0) ar ar aw hl (by rw[show(-1+1:Int)%l.length=0 from by rw[show(-1+1:Int)=0 from J];exact Int.zero_emod _];exact at_ 0 aw);rw[show(-1+1:Int)%l.length=0 from by rw[show(-1+1:Int)=0 from J];exact Int.zero_emod _]at r0;refine dd ?_;refine af [] (Ut l) ?_;refine⟨_,_,r0,dd ?_⟩;have hn:(((l.map encI).length:Nat):Int)≠0:=aw
 have et:p.tmod (((l.map encI).length:Nat):Int)=p%l.length:=by rw[ml];exact sg aw
 split;(rotate_left;(rename_i hno;exact(hno _ (yq J J J hn)).elim));(rename_i v e;cases e.symm.trans (yq rfl rfl rfl hn));refine dd ?_
 rw[et];obtain⟨N,hN⟩:∃N:Nat,p%(l.length:Int)=N:=⟨(p%(l.length:Int)).toNat,aw⟩;rw[hN];rw[hN]at b1;refine qe.seq N (λk=>(I p::(lI l)::.za::.za::I 0::I 0::.fn 91 [] [.ref 1 [] 1 0 0,.ref 0 [] 1 0 0]::I ((l[k]?).getD 0)::tZ ([.za,.za,.za,.za,.za,.za,I (N:Int),I k,.za,.za,.za,.za,.za]))) (λk=>[⟨1,28,1,[[lI l]],0⟩,⟨1,3,1,[[I ((k:Int))]],0⟩]) (λk=>True) ?_ trivial (λk hk hr=>?_) (λhr=>?_)
 ·exact cC
 ·have r1:=Lm l k ((l[k+1]?).getD 0) aw aw aw hl (by rw[Int.emod_eq_of_lt aw aw];exact at_ (k+1) aw);rw[Int.emod_eq_of_lt aw aw]at r1;conv=>whnf
  refine uF ?_;refine⟨_,_,r1,dd ?_⟩;refine .inl ⟨rfl,?_,trivial⟩;rw[zw aw];exact cC
 ·refine uD ?_;exact uI
end Go.Ply
namespace Go.Ply
open Go.Ab Go.Proofs Tryz Go.Hy Go.Wor
abbrev iu:=Wor×List fB×List fk
structure zyu(X:List fB)(w:Wor)(out:List fk)(p:Int)(s':iu):Prop where
 go:(qJ X X.length=[]/\s'=(w,X,out))\/∃(t:Nat) (x:fB) (e:fk),(qJ X X.length)[(p%(qJ X X.length).length).toNat]?=some t/\X[t]?=some x/\s'.2.1.length=X.length/\s'.2.2=out++[e]/\
  tj 33 (oy 1 X) [.ref 0 [] 48 t 0,.agg (vC w),I t] (.fq [.agg (vC s'.1),.agg (jO e)]) (oy 1 s'.2.1)
def zyZ:List C:=[I 0,I 0,I 0,I 0,I 0,I 0,I 0,I 0,I 0,U 0,I 0,I 0,I 0,I 0,Bo false]++xk ⟨0,0,0,0,0,0,0,⟨0,0,0,0,0,0⟩⟩++BW ⟨0,0,0,0,0,0⟩
def AT(c:C):List C:=c::I 0::Bo false::([I 0,Tx [],Tx [],Tx [],I 0,I 0,I 0,.fh 1 0 [],.fh 1 0 [],.fh 1 0 []]++zyZ++[.fh 1 0 []])
def Bl(T:List (List fJ))(k:Nat):List (List C):=(T.take k).map (λl=>AT (lP l))++List.replicate (T.length-k) (AT (.fh 1 0 []))
def Yd{T:List (List fJ)}{k:Nat}(hk:k<T.length):(Bl T k)[k]?=some (AT (.fh 1 0 [])):=by
 unfold Bl;have e:((T.take k).map λl=>AT (lP l)).length=k:=aA
 rw[gG aw,e,rK,sE,gh aw]
def W5{T:List (List fJ)}{k:Nat}(hk:k<T.length):(Bl T k).set k (AT (lP T[k]))=Bl T (k+1):=by
 unfold Bl;have e:((T.take k).map λl=>AT (lP l)).length=k:=aA
 have e2:T.length-k=(T.length-(k+1))+1:=aw
 rw[sQ _ _ aw,e,rK,e2,sC,sb,pS hk,pE,rG]
 rfl
def Dy(l:List fJ):List C:=lP l::I 0::Bo false::(mC PM++[.fh 1 0 []])
def W4(l:List fJ):iL (AT (lP l)) (Dy l):=by
 have r:∀cs:List C,iL cs cs:=λcs=>by
  induction cs with
  |nil=>exact .nil
  |cons c cs ih=>exact .cons (.refl _) ih
 exact .cons (.refl _) (.cons (.refl _) (.cons (.refl _) (.cons (.refl _) (.cons (.refl _) (.cons (.refl _) (.cons (.refl _) (.cons (.refl _) (.cons (.refl _) (.cons (.refl _) (.cons (WC.nil 0 1) (.cons (WC.nil 0 4) (.cons (WC.nil 0 4) (r _)))))))))))))
def zxK(T:List (List fJ))(i:Nat):vK (T.map iV) i=[]:=by
 unfold vK;rw[gf];cases T[i]? with
 |none=>rfl
 |some l=>rfl
def zyK{T:List (List fJ)}(hT:T.length<=8):yi 4 47 13 8 (T.map Dy)=(T.map iV).mapIdx (qw 4):=by
 unfold yi;refine pq λi=>?_
 rw[pD,pD,gf,gf];cases hl:T[i]? with
 |none=>rfl
 |some l=>
  have:=(dW.1 hl).1;simp only[gF];rw[gh aw]
  rfl
def SX{B:Nat}{t:List C}{T:List (List fJ)}(hT:T.length<=8)(O0 O1 O2:Ob):zq B ⟨t,[O0,O1,O2,⟨2,97,48,Bl T T.length,0⟩]⟩ ⟨t,O0::O1::O2::oy 4 (T.map iV)⟩:=by
 have e:Bl T T.length=T.map λl=>AT (lP l):=by unfold Bl;simp
 have own1:∀r∈T.map λl=>AT (lP l),∀c∈r,zx c=true:=λr hr=>by
  obtain⟨l,_,rfl⟩:=gR.1 hr;have e:(AT (lP l)).all zx=true:=rfl;exact gz.1 e
 have own2:∀r∈T.map Dy,∀c∈r,zx c=true:=λr hr=>by
  obtain⟨l,_,rfl⟩:=gR.1 hr;have e:(Dy l).all zx=true:=rfl;exact gz.1 e
 rw[e];refine(zq.Da (s:=⟨t,[O0,O1,O2,⟨2,97,48,_,0⟩]⟩) 3 J own1).trans ?_;refine(zq.zza (s:=⟨t,[O0,O1,O2,⟨1,0,48,_,0⟩]⟩) 3 (rows':=T.map Dy) J aj (λi r r' h h'=>?_) own1 own2).trans ?_
 ·obtain⟨l,h1,rfl⟩:=gM.1 ((gf ..).symm.trans h);obtain⟨l',h2,rfl⟩:=gM.1 ((gf ..).symm.trans h');rw[h1]at h2;cases h2
  exact W4 l
 ·have w:=zq.OZ (B:=B) (s:=⟨t,[O0,O1,O2,⟨1,0,48,T.map Dy,0⟩]⟩) 3 47 51 13 (sz0:=0) J (λr hr=>by
   obtain⟨l,_,rfl⟩:=gR.1 hr
   rfl) own2 8
  have g:∀i,fm (T.map iV) i=⟨4,51,13,[],0⟩:=λi=>by unfold fm;rw[zxK];rfl
  show zq B _ ⟨t,[O0,O1,O2,mX 4 (T.map iV),fm (T.map iV) 0,fm (T.map iV) 1,fm (T.map iV) 2,fm (T.map iV) 3,fm (T.map iV) 4,fm (T.map iV) 5,fm (T.map iV) 6,fm (T.map iV) 7]⟩;unfold mX;rw[g,g,g,g,g,g,g,g,<-zyK hT];exact w
def Im(X:List fB):∀k,(qJ X k).length<=k
 |0=>gC _
 |k+1=>by
  have:=Im X k;unfold qJ;split
  ·split
   ·omega
   ·simp;omega
  ·omega
def ly(X:List fB)(k:Nat):List (List C):=(qJ X k).map λ(n:Nat)=>[I (n:Int)]
def Ze(X:List fB)(k:Nat):(ly X k).length=(qJ X k).length:=gu ..
def Zf{X:List fB}{k:Nat}{x:fB}(hx:X[k]?=some x)(ho:BP x=false):ly X (k+1)=ly X k++[[I k]]:=by
 have:¬x.ops.length<=x.done:=by unfold BP at ho;simpa using ho
 have e:qJ X (k+1)=qJ X k++[k]:=by
  show(match X[k]? with|some x=>if x.ops.length<=x.done then qJ X k else qJ X k++[k]|none=>qJ X k)=_;rw[hx];exact dZ this
 unfold ly;rw[e,pE]
 rfl
def zxA{X:List fB}{k:Nat}{x:fB}(hx:X[k]?=some x)(ho:BP x=true):ly X (k+1)=ly X k:=by
 have:x.ops.length<=x.done:=by unfold BP at ho;simpa using ho
 have e:qJ X (k+1)=qJ X k:=by
  show(match X[k]? with|some x=>if x.ops.length<=x.done then qJ X k else qJ X k++[k]|none=>qJ X k)=_;rw[hx];exact gh this
 unfold ly;rw[e]
def NP{X:List fB}{b n:Nat}(h:b+8<=n)(hX:X.length<=8):∀r∈X.mapIdx (qw b),∀c∈r,qX n 9 c=true:=λr hr=>by
 obtain⟨i,hi,rfl⟩:=ud.1 hr;exact NQ b i n _ aw
def ZD{X:List fB}(hX:X.length<=8):zK [3,4,5,6,7,8,9,10,11] (mX 4 X)=mX 1 X:=by
 have e:(X.mapIdx (qw 4)).map (λr=>r.map (xO [3,4,5,6,7,8,9,10,11] 9))=X.mapIdx (qw 1):=by
  refine pq λi=>?_
  rw[gf,pD,pD];cases hx:X[i]? with
  |none=>rfl
  |some x=>
   have:=(dW.1 hx).1;rcases(by omega:i=0\/i=1\/i=2\/i=3\/i=4\/i=5\/i=6\/i=7) with rfl|rfl|rfl|rfl|rfl|rfl|rfl|rfl <;> rfl
 show(⟨1,0,48,(X.mapIdx (qw 4)).map (λr=>r.map (xO [3,4,5,6,7,8,9,10,11] 9)),0⟩:Ob)=_;rw[e]
def YD{X:List fB}(hX:X.length<=8)(n:Nat):zG (jf [3,4,5,6,7,8,9,10,11] n) (mX 1 X)=mX 4 X:=by
 have e:(X.mapIdx (qw 1)).map (λr=>r.map (vn (jf [3,4,5,6,7,8,9,10,11] n) 9))=X.mapIdx (qw 4):=by
  refine pq λi=>?_
  rw[gf,pD,pD];cases hx:X[i]? with
  |none=>rfl
  |some x=>
   have:=(dW.1 hx).1;rcases(by omega:i=0\/i=1\/i=2\/i=3\/i=4\/i=5\/i=6\/i=7) with rfl|rfl|rfl|rfl|rfl|rfl|rfl|rfl <;> rfl
 show(⟨1,0,48,(X.mapIdx (qw 1)).map (λr=>r.map (vn (jf [3,4,5,6,7,8,9,10,11] n) 9)),0⟩:Ob)=_;rw[e]
def OB(b:Nat)(X:List fB):∀r∈X.mapIdx (qw b),∀c∈r,zx c=true:=λr hr=>by
 obtain⟨i,hi,rfl⟩:=ud.1 hr;exact X4 b i _
def WX(s:fR)(b:Wor×Int)(St:Nat->iu)(hb:tj 30 [] [.agg (wi s)] (.fq [.agg (vC b.1),I b.2]) [])(hn:b.2=0->s.threads.length<=8/\s.zQ.length<=4000/\∀p∈s.zQ,0<=p/\i64 p)
 (h0:St 0=(b.1,s.threads.map iV,[]))(hs:b.2=0->∀k p,s.zQ[k]?=some p->zyu (St k).2.1 (St k).1 (St k).2.2 p (St (k+1))):
  tj 13 [] [.agg (wi s)] (.fq [iK (if b.2=0 then (St s.zQ.length).2.2 else []),.agg (vC (if b.2=0 then (St s.zQ.length).1 else ⟨0,0,0,[],[],[],[],[]⟩)),I b.2]) []:=by
 have m1:(s.threads.map vJ).length=s.threads.length:=gu ..;have m2:(s.zQ.map encI).length=s.zQ.length:=gu ..;refine ab func13 ?_;refine ah hb ?_;refine⟨λh1=>?_,λh1=>?_⟩
 rotate_left
 ·have e0:b.2=0:=by simpa using h1
  obtain⟨n1,n2,n3⟩:=hn e0;have hs:=hs e0;rw[gh e0,gh e0,e0];refine dd ?_;refine hZ ?_
  rw[m1];refine⟨rfl,aw,by show(488:Int)*_<=_;omega,aw,dd ?_⟩;rw[toNat_cast,m1];refine qe.seq s.threads.length (λk=>(.za::.ref 0 [] 5 0 0:: .za::.ref 1 [] 8 0 0:: .za::.ref 2 [] 8 0 0:: .za::.sl 3 [] 48 0 s.threads.length false:: tZ (tZ (tZ (Dt s.threads::I s.threads.length::I k:: .za::tZ (jp (tZ ([])))))))) (λk=>[oS s,⟨1,38,8,[[I 0,I 0,I 0,.fh 1 0 [],.fh 1 0 [],.fh 1 0 [],.fh 1 0 [],.fh 1 0 []]],0⟩,oW b.1,⟨2,97,48,Bl s.threads k,0⟩]) (λ_=>True) ?_ trivial (λk hk _=>?_) (λ_=>?_)
  ·exact cC
  ·have hg:(s.threads.map vJ)[k]?=some (vJ s.threads[k]):=by rw[gf,dX hk];rfl
   conv=>whnf
   refine uF ?_;(refine tc hg ?_)
   refine⟨aw,by rw[toNat_cast];exact hk,dd ?_⟩;rw[show 0+((k:Int)).toNat=k from aj];refine⟨_,Yd hk,rfl,dd ?_⟩;refine .inl ⟨rfl,?_,trivial⟩;rw[zw aw,<-W5 hk];exact cC
  ·refine uD ?_;rw[m2];refine qe.seq s.zQ.length (λk=>(.za::.ref 0 [] 5 0 0:: .za::.ref 1 [] 8 0 0:: .za::.ref 2 [] 8 0 0:: .za::.sl 3 [] 48 0 s.threads.length false:: .za::.za::.gl 12 23 ((St k).2.2.map jO):: .za::.za::.za::.za::tZ (tZ (tZ (tZ (lI s.zQ::I s.zQ.length::I k:: .za::.za::tZ (tZ (tZ (tZ ([])))))))))) (λk=>(oS s)::⟨1,38,8,[[I 0,I 0,I 0,.fh 1 0 [],.fh 1 0 [],.fh 1 0 [],.fh 1 0 [],.fh 1 0 []]],0⟩::(oW ((St k).1))::(oy 4 (St k).2.1++[⟨4,55,23,((St k).2.2).map jO,0⟩])) (λk=>(St k).2.1.length=s.threads.length/\(St k).2.2.length<=k) ?_ (by rw[h0];exact⟨gu ..,gC _⟩) (λk hk hr=>?_) (λhr=>?_)
   ·refine(SX n1 _ _ _).trans ?_;rw[h0];exact(zq.grow 10 55 23 J (.inl J)).trans (cC)
   ·have hp:s.zQ[k]?=some s.zQ[k]:=dX hk;have hg:(s.zQ.map encI)[k]?=some (encI s.zQ[k]):=by rw[gf,hp];rfl
    have h1:=hs k s.zQ[k] hp;generalize hS:St k=S at *;obtain⟨w,X,out⟩:=S;obtain⟨hr,ho⟩:=hr;have hr:X.length=s.threads.length:=hr;have ho:out.length<=k:=ho;have hal:=Im X X.length;conv=>whnf
    refine uF ?_;(refine tc hg ?_)
    rw[<-hr];refine⟨_,_,Sj X 4 false _ _ _ _ _ _ _ _ _ _ _ _ _,uH ?_⟩;refine⟨_,zq.Bf 13 0 3 1 J J (.inl J) J J,?_⟩
    refine⟨.normal,_,(oS s)::⟨1,38,8,[[I 0,I 0,I 0,.fh 1 0 [],.fh 1 0 [],.fh 1 0 [],.fh 1 0 [],.fh 1 0 []]],0⟩::(oW w)::mX 4 X::fm X 0::fm X 1::fm X 2::fm X 3::fm X 4::fm X 5::fm X 6::fm X 7::⟨4,55,23,(out).map jO,0⟩::[⟨1,28,1,[[.gl 15 1 (ly X X.length)]],0⟩,⟨1,91,1,[[.sl 3 [] 48 0 X.length false]],0⟩,⟨4,3,1,ly X X.length,0⟩],
     λl r h1 h2 h3 h4 h5=>⟨_,_,r,Rx l X 4 false aw _ _ _ _ _ _ _ _ _ _ _ _ (λk=>⟨1,28,1,[[.gl 15 1 (ly X k)]],0⟩) (λk=>[⟨4,3,1,ly X k,0⟩,iy l r _]) (λk x hx ho=>?_) (λk x hx ho=>?_),
     rfl,aZ,rfl,gV _,ba,zq.drop 16 J J J (zJ J (zJ J (zJ J (zJ (qm (NP (b:=4) ar aw)) J))))⟩,?_⟩
    ·refine jI.zL (id:=16) J h1 h2 h3 h4 h5 J J J ?_;conv=>whnf
     refine⟨rfl,rfl,uH ?_⟩;have hkl:=(dW.1 hx).1;have mal:=Ze X k;have al2:=Im X k;refine⟨rfl,.inr J,ay,bc,uH ?_⟩;have e:ly X (k+1)=ly X k++[[I k]]:=Zf hx ho;rw[e];exact cZ
    ·have e:ly X (k+1)=ly X k:=zxA hx ho;exact⟨by simp only[e],by simp only[e]⟩
    conv=>whnf
    have hp0:=n3 s.zQ[k] (gU hk);have ll:((qJ X X.length).map λ(n:Nat)=>(n:Int)).length=(qJ X X.length).length:=gu ..;have pk:=U1 s.zQ[k] ((qJ X X.length).map λ(n:Nat)=>(n:Int)) hp0.2 aw;have el:(((qJ X X.length).map λ(n:Nat)=>(n:Int)).map encI)=ly X X.length:=by unfold ly;rw[rA];rfl
    unfold lI at pk;rw[el]at pk;have h1:=h1.go;rcases h1 with⟨ha,hS2⟩|⟨t,x,e,ha,hx,hX2,ho2,hst⟩
    ·have ep:yx s.zQ[k] ((qJ X X.length).map λ(n:Nat)=>(n:Int))=(0,5):=by
      unfold yx;rw[dZ aw,gh (by rw[ll];exact rh.2 ha)]
     rw[ep]at pk;refine⟨_,_,pk.frame J _,dd ?_⟩;refine hZ ?_
     (refine .inr ⟨aj,uH ?_⟩)
     have stay:∀j,k+j<=s.zQ.length->St (k+j)=(w,X,out):=λj=>by
      induction j with
      |zero=>intro _;exact hS
      |succ j ih=>
       intro hj;have q:=ih aw;have g:=(hs (k+j) _ (dX aw)).go;rw[q]at g;rcases g with⟨_,g⟩|⟨t,x,e,g,_⟩
       ·exact g
       ·rw[ha]at g;cases g
     have last:=stay (s.zQ.length-k) aw;rw[show k+(s.zQ.length-k)=s.zQ.length from aw]at last;rw[last];refine .inl ⟨⟨false,[1],[2],[]⟩,au,uH ?_⟩;refine hU ?_
     exact uI
    ·have ep:yx s.zQ[k] ((qJ X X.length).map λ(n:Nat)=>(n:Int))=((t:Int),0):=by
      have hne:(qJ X X.length).length≠0:=λz=>by rw[rh.1 z]at ha;cases ha
      unfold yx;rw[dZ aw,dZ (by rw[ll];exact hne),ll,gf,ha]
      rfl
     rw[ep]at pk;have pk:tj 32 [] [I s.zQ[k],.fh 0 1 (ly X X.length)] (.fq [I (t:Int),I 0]) []:=pk;have htl:=(dW.1 hx).1;refine⟨_,_,pk.frame J _,dd ?_⟩;refine hZ ?_
     refine .inl ⟨⟨true,[],[],[]⟩,au,uH ?_⟩;refine⟨aw,by rw[toNat_cast];exact htl,dd ?_⟩;rw[show 0+((t:Int)).toNat=t from aj];have hX8:(St (k+1)).2.1.length<=8:=aw
     generalize hS':St (k+1)=S' at *;obtain⟨w',X',out'⟩:=S';have hX2:X'.length=X.length:=hX2;have ho2:out'=out++[e]:=ho2;have hst:tj 33 (oy 1 X) [.ref 0 [] 48 t 0,.agg (vC w),I t] (.fq [.agg (vC w'),.agg (jO e)]) (oy 1 X'):=hst;refine Go.Wor.zZ [3,4,5,6,7,8,9,10,11] ((oS s)::⟨1,38,8,[[I 0,I 0,I 0,.fh 1 0 [],.fh 1 0 [],.fh 1 0 [],.fh 1 0 [],.fh 1 0 []]],0⟩::(oW w)::(oy 4 X'++[⟨4,55,23,(out).map jO,0⟩,⟨1,28,1,[[.gl 15 1 (ly X X.length)]],0⟩,⟨1,91,1,[[.sl 3 [] 48 0 X.length false]],0⟩,⟨4,3,1,ly X X.length,0⟩,⟨1,55,23,[[I 0,I 0,I 0,I 0,I 0,Bo false,I 0,Bo false,Bo false,Bo false,I 0,I 0,I 0,I 0,I 0,I 0,I 0,U 0,U 0,U 0,U 0,U 0,U 0]],0⟩])) (rx:=.fq [.agg (vC w'),.agg (jO e)]) hst (zc (zj (OB 1 X')) J) (by show zK _ (mX 4 X)::_=_;rw[ZD aw];rfl) J J J (zc J (zc J (zc J (zc (zj (OB 4 X)) J)))) (by show _::_::_::zG _ (mX 1 X')::_=_;rw[YD aw];rfl) J (dd ?_);have mO:(out.map jO).length=out.length:=gu ..;refine⟨rfl,.inr J,by show(out.map jO).length+1<=maxLen;rw[mO];simp[maxLen];omega,by show((((out.map jO).length+1)*168:Nat):Nat)<=_;rw[mO];omega,dd ?_⟩;refine .inl ⟨rfl,?_,hX2,by rw[ho2,pj,rH];omega⟩;have eO:out.map jO++[[I e.zf,I e.op,I e.access,I e.cell,I e.version,Bo e.zW,I e.value,Bo e.q8,Bo e.qY,Bo e.done,I e.answer.kind,I e.answer.version,I e.answer.zg,I e.answer.end_,I e.answer.slot,I e.answer.listen,I e.answer.n,U e.answer.counts.c0,U e.answer.counts.c1,U e.answer.counts.c2,U e.answer.counts.c3,U e.answer.counts.c4,U e.answer.counts.c5]]=out'.map jO:=by rw[ho2,pE];rfl
     rw[zw aw];dsimp only;rw[eO];exact zq.xG 13 hC J J J (zJ J (zJ J (zJ J (zJ (qm (NP (b:=4) ar aw)) J)))) J
   ·refine uD ?_;refine .inl ⟨⟨false,[1],[2],[]⟩,au,uH ?_⟩;refine hU ?_
    exact uI
 ·have e0:b.2≠0:=by simpa using h1
  rw[dZ e0,dZ e0];refine dd ?_;refine hZ ?_
  exact⟨.inl J,_,(zq.var 1 J J J (.cons (.refl _) (.cons (.refl _) (.cons (.refl _) (.cons (WC.nil 0 1) (.cons (WC.nil 0 5) (.cons (WC.nil 0 4) (.cons (WC.nil 0 1) (.cons (WC.nil 0 3) .nil))))))))).trans (zq.grow 2 55 23 J (.inl J)),rfl⟩
end Go.Ply
