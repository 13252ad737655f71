import Derived.Test.YtoeaoedlpmohoaaGreatSF
import Derived.Test.YtoeaoedlpmohoaaGreatSS
import Derived.Test.YtoeaoedlpmohoaaGreatST
set_option linter.all false
set_option maxRecDepth 100000
set_option maxHeartbeats 4000000
namespace Go.Wor
open Go.Ab Go.Proofs Tryz Go.Hy Go.Gat Go.Nam Go.Hos Go.Con Go.Sna
def Ck(l:List lH)(n:Int):lH:=if 0<=n/\n<l.length then (l[n.toNat]?).getD [] else []
def wH(l:List mG)(n:Int):lH:=if 0<=n/\n<l.length then ((l[n.toNat]?).map (·.name)).getD [] else []
def DP(s:Sna)(r:AD):BQ:=⟨Ck s.zf r.listen,r.host,r.path,wH s.zm r.zi⟩
def Ax(s:Sna):mL:=⟨s.zf,s.rules.map (DP s),s.zm⟩
def kq(s:Sna):Bool:=(qy (Ax s)).1 == 0
structure Dx(s:Sna):Prop where
 zf:s.zf.length<1000000000000/\∀x∈s.zf,x.length<4000000000000000000
 rules:s.rules.length<1000000000000/\∀r∈s.rules,r.host.length<1000000000000000/\r.path.length<1000000000000000
 zm:s.zm.length<1000000000000/\∀x∈s.zm,x.name.length<4000000000000000000/\x.zE.length<4000000000000000000
def Dx.cfg{s:Sna}(h:Dx s):yX (Ax s):=by
 refine⟨h.zf,⟨by simpa [Ax] using h.rules.1,λr hr=>?_⟩,h.zm⟩;simp only[Ax,pZ]at hr;obtain⟨q,hq,rfl⟩:=hr;refine⟨?_,(h.rules.2 q hq).1,(h.rules.2 q hq).2,?_⟩
 ·show(Ck s.zf q.listen).length<_;unfold Ck;split
  ·cases hx:s.zf[q.listen.toNat]? with
   |none=>simp
   |some x=>exact h.zf.2 x (pq hx)
  ·simp
 ·show(wH s.zm q.zi).length<_;unfold wH;split
  ·cases hx:s.zm[q.zi.toNat]? with
   |none=>simp
   |some x=>exact(h.zm.2 x (pq hx)).1
  ·simp
def zm0(s:Sna)(hs:Dx s):tp 146 [] [Cs s] (Cf (Ax s)) []:=by
 have m1:(s.rules.map kP).length=s.rules.length:=pB ..;have m2:(s.zf.map qG).length=s.zf.length:=pB ..;have m3:(s.zm.map y6).length=s.zm.length:=pB ..;have hl:=hs.rules.1;refine ab func146 ?_;rw[m1];refine zW.seq s.rules.length (λk=>(.za::.ref 0 [] 3 0 0:: .ref 1 [] 3 0 0:: .ref 2 [] 3 0 0:: .za::mF (o7 s.rules::I s.rules.length::I k:: .za::.za::.za::.za::.za::mF (jp (mF ([])))))) (λk=>[⟨1,66,3,[encS s],0⟩,⟨1,26,3,[[.lq 1 0 [],.lq 1 0 [],.lq 1 0 []]],0⟩,⟨1,26,3,[[lT s.zf,.gl 3 4 (((s.rules.take k).map (DP s)).map oA),lC s.zm]],0⟩,⟨4,135,4,((s.rules.take k).map (DP s)).map oA,0⟩]) (λk=>True) ?_ trivial (λk hk hr=>?_) (λhr=>?_)
 ·refine zt.trans (zt.DC 2 1 135 4 O O (.inl O) O O) ?_;exact cC
 ·obtain⟨r,hx⟩:∃r,r=s.rules[k]:=⟨_,rfl⟩;have hg:(s.rules.map kP)[k]?=some (kP r):=by rw[pj,pa hk,hx];rfl
  have hlg:(((s.rules.take k).map (DP s)).map oA).length=k:=aA
  have eg:((s.rules.take (k+1)).map (DP s)).map oA=((s.rules.take k).map (DP s)).map oA++[oA (DP s r)]:=bS
  have hv:∀a b,a=Ck s.zf r.listen->b=wH s.zm r.zi->oA ⟨a,r.host,r.path,b⟩=oA (DP s r):=λa b h1 h2=>by rw[h1,h2];rfl
  conv=>whnf
  refine uF ?_;(refine tj hg ?_)
  refine⟨λh1=>?_,λh1=>?_⟩
  rotate_left
  ·refine dd ?_;refine tf ?_
   refine⟨λq1=>?_,λq1=>?_⟩;rotate_left;(focus (refine dd ?_;refine tf ?_;(refine⟨rfl,.inr O,bT,cU,dd ?_⟩);(refine .inl ⟨rfl,?_,trivial⟩);(rw[zy aw,eg,<-hv _ _ cV cW]);exact cE 4));refine dd ?_;(rw[m3]);refine⟨λq2=>?_,λq2=>?_⟩;rotate_left;(focus (refine dd ?_;refine tf ?_;(refine⟨rfl,.inr O,bT,cU,dd ?_⟩);(refine .inl ⟨rfl,?_,trivial⟩);(rw[zy aw,eg,<-hv _ _ cV cX]);exact cE 4));(have q3:r.zi.toNat<s.zm.length:=by simp at q1 q2;omega);(have gq:(s.zm.map y6)[r.zi.toNat]?=some (y6 s.zm[r.zi.toNat]):=by rw[pj,pa q3];rfl);refine dd ?_;refine tf ?_;(refine⟨bX,_,gq,dd ?_⟩);(refine⟨rfl,.inr O,bT,cU,dd ?_⟩);(refine .inl ⟨rfl,?_,trivial⟩);(rw[zy aw,eg,<-hv _ _ cV (by unfold wH;rw[pA (by simp at q1 q2;omega),pa q3])]);exact cE 4
  refine dd ?_;rw[m2];refine⟨λh2=>?_,λh2=>?_⟩
  rotate_left
  ·refine dd ?_;refine tf ?_
   refine⟨λq1=>?_,λq1=>?_⟩;rotate_left;(focus (refine dd ?_;refine tf ?_;(refine⟨rfl,.inr O,bT,cU,dd ?_⟩);(refine .inl ⟨rfl,?_,trivial⟩);(rw[zy aw,eg,<-hv _ _ cY cW]);exact cE 4));refine dd ?_;(rw[m3]);refine⟨λq2=>?_,λq2=>?_⟩;rotate_left;(focus (refine dd ?_;refine tf ?_;(refine⟨rfl,.inr O,bT,cU,dd ?_⟩);(refine .inl ⟨rfl,?_,trivial⟩);(rw[zy aw,eg,<-hv _ _ cY cX]);exact cE 4));(have q3:r.zi.toNat<s.zm.length:=by simp at q1 q2;omega);(have gq:(s.zm.map y6)[r.zi.toNat]?=some (y6 s.zm[r.zi.toNat]):=by rw[pj,pa q3];rfl);refine dd ?_;refine tf ?_;(refine⟨bX,_,gq,dd ?_⟩);(refine⟨rfl,.inr O,bT,cU,dd ?_⟩);(refine .inl ⟨rfl,?_,trivial⟩);(rw[zy aw,eg,<-hv _ _ cY (by unfold wH;rw[pA (by simp at q1 q2;omega),pa q3])]);exact cE 4
  have h3:r.listen.toNat<s.zf.length:=cH
  have gl:(s.zf.map qG)[r.listen.toNat]?=some (qG s.zf[r.listen.toNat]):=by rw[pj,pa h3];rfl
  refine dd ?_;refine tf ?_
  refine⟨cI,_,gl,dd ?_⟩;refine⟨λq1=>?_,λq1=>?_⟩;rotate_left;(focus (refine dd ?_;refine tf ?_;(refine⟨rfl,.inr O,bT,cU,dd ?_⟩);(refine .inl ⟨rfl,?_,trivial⟩);(rw[zy aw,eg,<-hv _ _ (by unfold Ck;rw[pA cH,pa h3]) cW]);exact cE 4));refine dd ?_;(rw[m3]);refine⟨λq2=>?_,λq2=>?_⟩;rotate_left;(focus (refine dd ?_;refine tf ?_;(refine⟨rfl,.inr O,bT,cU,dd ?_⟩);(refine .inl ⟨rfl,?_,trivial⟩);(rw[zy aw,eg,<-hv _ _ (by unfold Ck;rw[pA cH,pa h3]) cX]);exact cE 4));(have q3:r.zi.toNat<s.zm.length:=by simp at q1 q2;omega);(have gq:(s.zm.map y6)[r.zi.toNat]?=some (y6 s.zm[r.zi.toNat]):=by rw[pj,pa q3];rfl);refine dd ?_;refine tf ?_;(refine⟨bX,_,gq,dd ?_⟩);(refine⟨rfl,.inr O,bT,cU,dd ?_⟩);(refine .inl ⟨rfl,?_,trivial⟩);(rw[zy aw,eg,<-hv _ _ (by unfold Ck;rw[pA cH,pa h3]) (by unfold wH;rw[pA (by simp at q1 q2;omega),pa q3])]);exact cE 4
 ·refine uD ?_;rw[rj];exact uI
def RP(s:Sna)(hs:Dx s):tp 117 [] [Cs s] (Bo (kq s)) []:=by
 refine ab func117 ?_;refine ah (zm0 s hs) ?_;refine ah (check_sound (Ax s) hs.cfg) ?_;refine⟨λh=>?_,λh=>?_⟩
 ·refine dd ?_
  (exact⟨.inl O,_,.refl _,uN (by unfold kq;exact h.symm)⟩)
 ·refine dd ?_
  (exact⟨.inl O,_,.refl _,uN (by unfold kq;exact h.symm)⟩)
end Go.Wor
namespace Go.Wor
open Go.Ab Go.Proofs Tryz Go.Hy Go.Gat Go.Nam Go.Hos Go.Con Go.Sna
open Go.Slp (C1 Rx)
def EO{f:Nat->Int}{n:Nat}(h:(xD f n).1=0):∀j,j<n->f j=0:=λj hj=>by
 unfold xD at h;split at h
 ·rename_i i hi;rw[List.find?_range_eq_some]at hi;exact absurd h (aq hi.1)
 ·rename_i hn;rw[ic]at hn;simpa using hn j hj
structure LJ(x:mG):Prop where
 name:yH x.name=true
 xq:x.xq=1\/x.xq=2
 yP:1<=x.yP/\x.yP<=4
 zE:1<=x.zE.length/\x.zE.length<=4
structure Cn(s:Sna):Prop where
 zf:1<=s.zf.length/\s.zf.length<=4
 rules:1<=s.rules.length/\s.rules.length<=8
 zm:1<=s.zm.length/\s.zm.length<=4
 all:∀x∈s.zm,LJ x
def xh{s:Sna}(h:kq s=true):Cn s:=by
 unfold kq at h;have h:(qy (Ax s)).1=0:=aq h
 unfold qy at h;split at h
 ·contradiction
 rename_i h1;split at h
 ·contradiction
 rename_i h2;split at h
 ·contradiction
 rename_i h3;have h1:(kT (Ax s)).1=0:=aq h1
 unfold kT at h1;split at h1
 ·cases h1
 rename_i h4;have e:(Ax s).zS.length=s.rules.length:=by simp[Ax]
 rw[e]at h4;simp only[show(Ax s).zf=s.zf from O,show(Ax s).zm=s.zm from O]at h4;have b:∀n:Nat,∀m:Int,¬(decide (1<=(n:Int)) && decide ((n:Int)<=m))=false->1<=n/\(n:Int)<=m:=λn m hh=>by simp at hh;omega
 have q1:=b s.zf.length 4 λhh=>h4 (.inl (.inl hh))
 have q2:=b s.rules.length 8 λhh=>h4 (.inl (.inr hh))
 have q3:=b s.zm.length 4 λhh=>h4 (.inr hh)
 refine⟨aw,aw,aw,λx hx=>?_⟩;obtain⟨i,hi,rfl⟩:=rP.1 hx;have h5:=EO (f:=B6 s.zm) (n:=s.zm.length) (Decidable.of_not_not h3) i hi;unfold B6 at h5;rw[pa hi]at h5;dsimp only at h5;split at h5
 ·cases h5
 rename_i p1;split at h5
 ·cases h5
 split at h5
 ·cases h5
 rename_i p2;split at h5
 ·cases h5
 rename_i p3;split at h5
 ·cases h5
 rename_i p4;refine⟨aq p1,?_,?_,?_⟩
 ·by_cases a:s.zm[i].xq=1
  ·exact .inl a
  ·by_cases a2:s.zm[i].xq=2
   ·exact .inr a2
   ·exact absurd ⟨a,a2⟩ p2
 ·simp at p3;omega
 ·simp at p4;omega
abbrev yE(x:mG):En:=(C1 x.yP).1
def zxr{x:mG}(h:LJ x):C1 x.yP=(yE x,0):=by
 have:=h.yP;unfold yE C1;rw[pw aw]
def o6(x:mG):Gr:=⟨0,List.replicate x.zE.length (yE x)⟩
abbrev Z4:Sna:=⟨[],[],[]⟩
abbrev LH:lJ:=⟨Z4,[],false⟩
def qM(s:Sna):lJ×Int:=if kq s then (⟨s,s.zm.map o6,false⟩,0) else (LH,1)
abbrev Cv(v:lJ):C:=.agg (zJ v)
abbrev tV(r:lJ×Int):C:=.lK [Cv r.1,I r.2]
def R6(s:Sna)(hs:Dx s):tp 85 [] [Cs s] (tV (qM s)) []:=by
 have m1:(s.zm.map y6).length=s.zm.length:=pB ..;refine ab func85 ?_;refine ah (RP s hs) ?_;refine⟨λh1=>?_,λh1=>?_⟩
 rotate_left
 ·have e:qM s=(LH,1):=by unfold qM;rw[pw ba]
  rw[e];refine dd ?_;refine tf ?_
  exact⟨.inl O,_,zt.var 1 O O O (.cons (WC.nil 0 1) (.cons (WC.nil 0 4) (.cons (WC.nil 0 4) (.cons (WC.nil 0 2) (.cons (.refl _) .nil))))),rfl⟩
 have e:qM s=(⟨s,s.zm.map o6,false⟩,0):=by unfold qM;rw[pA h1]
 have hg:=xh h1;rw[e];refine dd ?_;refine tf ?_
 rw[m1];refine zW.seq s.zm.length (λk=>(.za::.ref 0 [] 3 0 0::.ref 1 [] 5 0 0::I 0::.ref 2 [] 5 0 0::mF (.za::.za::.za::.za::(lC s.zm)::I s.zm.length::I k::mF (mF (mF (mF ([.za]))))))) (λk=>[⟨1,66,3,[encS s],0⟩,⟨1,69,5,[[.lq 1 0 [],.lq 1 0 [],.lq 1 0 [],.lq 1 0 [],Bo false]],0⟩,⟨1,69,5,[encS s++[.gl 3 2 (((s.zm.take k).map o6).map zI),Bo false]],0⟩,⟨4,72,2,((s.zm.take k).map o6).map zI,0⟩]) (λk=>True) ?_ trivial (λk hk hr=>?_) (λhr=>?_)
 ·refine zt.trans (zt.DC 2 3 72 2 O O (.inl O) O O) ?_;exact cC
 ·obtain⟨x,hx⟩:∃x,x=s.zm[k]:=⟨_,rfl⟩;have hgx:(s.zm.map y6)[k]?=some (y6 x):=by rw[pj,pa hk,hx];rfl
  have hgood:=hg.all x tK;have hc4:=hg.zm.2;have h4:=hgood.zE.2;have hlg:(((s.zm.take k).map o6).map zI).length=k:=aA
  have eg:((s.zm.take (k+1)).map o6).map zI=((s.zm.take k).map o6).map zI++[zI (o6 x)]:=bS
  have mh:(x.zE.map kX).length=x.zE.length:=pB ..
  have fs:tp 118 [] [I x.yP] (.lK [.agg (zF (yE x)),I 0]) []:=by
   have:=Rx x.yP;rw[zxr hgood]at this;exact gh
  conv=>whnf
  refine uF ?_;(refine tj hgx ?_)
  rw[mh];refine zW.seq x.zE.length (λj=>(.za::.ref 0 [] 3 0 0::.ref 1 [] 5 0 0::I 0::.ref 2 [] 5 0 0::.za::.ref 4 [] 4 0 0::.ref 5 [] 2 0 0::mF (.za::(lC s.zm)::I s.zm.length::I k::.za::.za::.za::.za::.za::I x.zE.length::I j::mF (mF (mF ([.za,.za])))))) (λj=>[⟨1,66,3,[encS s],0⟩,⟨1,69,5,[[.lq 1 0 [],.lq 1 0 [],.lq 1 0 [],.lq 1 0 [],Bo false]],0⟩,⟨1,69,5,[encS s++[.gl 3 2 (((s.zm.take k).map o6).map zI),Bo false]],0⟩,⟨4,72,2,((s.zm.take k).map o6).map zI,0⟩,oC x,⟨1,72,2,[[U 0,.gl 6 3 ((List.replicate j (yE x)).map zF)]],0⟩,⟨4,74,3,((List.replicate j (yE x)).map zF),0⟩]) (λk=>True) ?_ trivial (λj hj hr=>?_) (λhr=>?_)
  ·refine zt.trans (zt.DC 5 1 74 3 O O (.inl O) O O) ?_;exact cC
  ·have hle:(((List.replicate j (yE x)).map zF)).length=j:=by simp
   have ee:((List.replicate (j+1) (yE x)).map zF)=((List.replicate j (yE x)).map zF)++[zF (yE x)]:=by rw[iH,rD];rfl
   conv=>whnf
   refine uF ?_;refine ah fs ?_;refine tf ?_
   refine⟨rfl,.inr O,by rw[hle];simp[maxLen];omega,by rw[hle];show(j+1)*40<=_;omega,dd ?_⟩;refine .inl ⟨rfl,?_,trivial⟩;rw[zy aw,ee];exact cE 7
  ·refine uD ?_;refine⟨rfl,.inr O,bT,by rw[hlg];show(k+1)*32<=_;omega,dd ?_⟩;refine .inl ⟨rfl,?_,trivial⟩;rw[zy aw,eg];exact cE 4
 ·refine uD ?_;rw[rj];exact uI
def C5(n:Int):List (List Int)×Int:=if n<1\/8<n then ([],1) else (List.replicate n.toNat [0,0,0,0,0,0],0)
abbrev Xr(r:List (List Int)×Int):C:=.lK [mQ r.1,I r.2]
def Fw(c:List (List Int)):Bool:=c.all (λr=>r.length == 6) && decide (1<=c.length) && decide (c.length<=8)
def Vu{rows:List (List C)}(h:(rows.all λr=>r.all λc=>jE c && zB c)=true):∀r∈rows,∀c∈r,jE c=true/\zB c=true:=λr hr c hc=>by
 have:=pH.1 (pH.1 h r hr) c hc;simpa using this
def shut_map{α:Type}{enc:α->List C}(h:∀x,(enc x).all (λc=>jE c && zB c)=true)(l:List α):∀r∈l.map enc,∀c∈r,jE c=true/\zB c=true:=
 Vu (by rw[List.all_map];exact pH.2 λx _=>h x)
def vn{n ty sz fz:Nat}{rows:List (List C)}(h:∀r∈rows,∀c∈r,jv n 9 c=true):qf n [⟨1,ty,sz,rows,fz⟩]=true:=by
 unfold qf;simp only[uq,fI,eJ];simp;exact h
def YJ{α:Type}(a b:α){k n:Nat}(h:k<n):(List.replicate k a++List.replicate (n-k) b).set k a=List.replicate (k+1) a++List.replicate (n-(k+1)) b:=by
 rw[eG _ _ aj];have e:n-k=(n-(k+1))+1:=aw
 simp only[ft,sY];rw[e,fc,u9,iH,rR]
 rfl
def YI{α:Type}(a b:α){k n:Nat}(h:k<n):(List.replicate k a++List.replicate (n-k) b)[k]?=some b:=by
 rw[pT aj];simp only[ft,sY];have e:n-k=(n-(k+1))+1:=aw
 rw[e,fc]
 rfl
def zkR(n:Int):tp 86 [] [I n] (Xr (C5 n)) []:=by
 refine ab func86 ?_;refine⟨λh1=>?_,λh1=>?_⟩
 ·have e:C5 n=([],1):=by unfold C5;rw[pA cI]
  rw[e];refine dd ?_;refine tf ?_
  exact dP
 refine dd ?_;refine⟨λh2=>?_,λh2=>?_⟩
 ·have e:C5 n=([],1):=by unfold C5;rw[pA aZ]
  rw[e];refine dd ?_;refine tf ?_
  exact dP
 have b1:1<=n/\n<=8:=cH
 have e:C5 n=(List.replicate n.toNat [0,0,0,0,0,0],0):=by unfold C5;rw[pw aw]
 rw[e];refine dd ?_;refine⟨rfl,aw,by show(24:Int)*n<=_;omega,aw,dd ?_⟩;refine zW.seq n.toNat (λk=>(I n::.za::.lq 1 0 []::I 0::.sl 0 [] 1 0 n.toNat false::mF (.za::.za::I n.toNat::I k::mF ([])))) (λk=>[⟨1,0,1,(List.replicate k [lU [0,0,0,0,0,0]]++List.replicate (n.toNat-k) [C.lq 1 0 []]),0⟩]) (λk=>True) ?_ trivial (λk hk hr=>?_) (λhr=>?_)
 ·refine zt.trans (zt.GR 0 O (by intro r hr c hc;rw[rM hr]at hc;rw[pP.1 hc];rfl)) ?_;exact cC
 ·conv=>whnf
  refine uF ?_;refine⟨rfl,ar,by show(8:Int)*6<=_;decide,ar,dd ?_⟩;refine⟨aw,aA,dd ?_⟩;have e1:0+(k:Int).toNat=k:=aj
  rw[e1];refine⟨_,YI _ _ hk,rfl,dd ?_⟩;refine .inl ⟨rfl,?_,trivial⟩;refine zt.trans (zt.qa 0 k 0 (r:=[.sl 1 [] 1 0 6 false]) O (by rw[pK,pA O,pA aA];rfl) O O (.inr O) O O ?_ ?_) ?_
  ·exact Vu (rows:=List.replicate 6 [U 0]) O
  ·intro r hr c hc;rcases rC hr with hr|rfl
   ·rcases pV.1 hr with hr|hr <;> (rw[rM hr]at hc;rw[pP.1 hc];rfl)
   ·rw[pP.1 hc];rfl
  ·have e3:(List.replicate k [lU [0,0,0,0,0,0]]++List.replicate (n.toNat-k) [C.lq 1 0 []]).set k [lU [0,0,0,0,0,0]]=(List.replicate (k+1) [lU [0,0,0,0,0,0]]++List.replicate (n.toNat-(k+1)) [C.lq 1 0 []]):=YJ _ _ hk;rw[rz,<-e3,zy aw];refine zt.yi 1 tc O O O (vn (rows:=(List.replicate k [lU [0,0,0,0,0,0]]++List.replicate (n.toNat-k) [C.lq 1 0 []]).set k [lU [0,0,0,0,0,0]]) λr hr c hc=>?_) O;rw[e3]at hr;rcases pV.1 hr with hr|hr <;> (rw[rM hr]at hc;rw[pP.1 hc];rfl)
 ·refine uD ?_;have e4:(List.replicate n.toNat [(0:Int),0,0,0,0,0]).map zT=(List.replicate n.toNat [lU [0,0,0,0,0,0]]++List.replicate (n.toNat-n.toNat) [C.lq 1 0 []]):=by rw[iR,sY,List.replicate_zero,rK];rfl
  have sh:∀r∈(List.replicate n.toNat [lU [0,0,0,0,0,0]]++List.replicate (n.toNat-n.toNat) [C.lq 1 0 []]),∀c∈r,jE c=true/\zB c=true:=by
   rw[sY,List.replicate_zero,rK];intro r hr c hc;rw[rM hr]at hc;rw[pP.1 hc];exact gD
  refine⟨.inl O,_,zt.MZ 2 O O (.inl O) aj sh,?_⟩;rw[<-e4]
  rfl
def zlt(c:List (List Int))(hc:c.length<4000000000000000000):tp 248 [] [mQ c] (Bo (Fw c)) []:=by
 have m1:(c.map zT).length=c.length:=pB ..;refine ab func248 ?_;rw[m1];refine zW.seq c.length (λk=>((mQ c)::.za::Bo false::.za::.za::(mQ c)::I c.length::I k::mF ([.za,.za,.za,.za,.za,.za,.za]))) (λk=>[]) (λk=>∀j,(h:j<c.length)->j<k->(c[j].length == 6)=true) ?_ aj (λk hk hr=>?_) (λhr=>?_)
 ·exact cC
 ·obtain⟨x,hx⟩:∃x,x=c[k]:=⟨_,rfl⟩;have hg:(c.map zT)[k]?=some (zT x):=by rw[pj,pa hk,hx];rfl
  have mx:(x.map xy).length=x.length:=pB ..;conv=>whnf
  refine uF ?_;(refine tj hg ?_)
  rw[mx];refine⟨λh1=>?_,λh1=>?_⟩
  ·have hf:c.all (λr=>r.length == 6)=false:=by
    rw[eM];exact⟨x,bQ,by simp at h1 ⊢;omega⟩
   have e:Fw c=false:=by unfold Fw;rw[hf];rfl
   rw[e];refine dd ?_;(refine .inr ⟨aj,uH ?_⟩)
   exact uI
  ·refine dd ?_;refine .inl ⟨rfl,?_,λj hj hjk=>?_⟩
   ·rw[zy aw];exact cE 0
   ·by_cases e:j=k
    ·subst e;rw[<-hx];simp at h1 ⊢;omega
    ·exact hr j hj aw
 ·have ht:c.all (λr=>r.length == 6)=true:=by
   rw[pH];intro r hr';obtain⟨j,hj,rfl⟩:=rP.1 hr';exact hr j hj hj
  have e:Fw c=(decide (1<=c.length) && decide (c.length<=8)):=by unfold Fw;rw[ht];rfl
  rw[e];refine uD ?_;rw[m1];refine⟨λh1=>?_,λh1=>?_⟩
  ·refine dd ?_;rw[m1];refine⟨λh2=>?_,λh2=>?_⟩
   ·refine dd ?_;refine tf ?_
    (exact⟨.inl O,_,.refl _,uN (by symm;simp at h1 h2 ⊢;omega)⟩)
   ·refine dd ?_;refine tf ?_
    (exact⟨.inl O,_,.refl _,uN (by symm;simp at h1 h2 ⊢;omega)⟩)
  ·refine dd ?_;refine tf ?_
   (exact⟨.inl O,_,.refl _,uN (by symm;simp at h1 ⊢;omega)⟩)
abbrev Cw(w:Wor):C:=.agg (kY w)
abbrev tW(r:Wor×Int):C:=.lK [Cw r.1,I r.2]
abbrev FM:Wor:=⟨0,0,0,[],[],[],[],[]⟩
def ko(s:lH):mj:=⟨s,false,0,false⟩
def GK(l:List lH)(i:Nat):Bool:=match l[i]? with
 |some s=>yH s && decide (zD ((l.take i).map ko) s<0)
 |none=>true
def Fu(l:List lH):Bool:=(List.range l.length).all (GK l)
def nZ(s:Sna)(l:List lH)(n:Int):Wor×Int:=
 if kq s=false\/n<1\/8<n\/Fu l=false then (FM,1)
 else (⟨0,0,0,List.replicate n.toNat 0,[(qM s).1],l.map ko,List.replicate n.toNat [0,0,0,0,0,0],[]⟩,0)
def zvy(s:Sna)(l:List lH)(n:Int)(hs:Dx s)(hl:l.length<1000000000/\∀x∈l,x.length<4000000000000000000):tp 57 [] [Cs s,lT l,I n] (tW (nZ s l n)) []:=by
 have m1:(l.map qG).length=l.length:=pB ..;have cs:=R6 s hs;refine ab func57 ?_;by_cases h0:kq s=true
 rotate_left
 ·have e:nZ s l n=(FM,1):=by unfold nZ;rw[pA (.inl (aq h0))]
  have e2:qM s=(LH,1):=by unfold qM;rw[pw h0]
  rw[e2]at cs;have cs:tp 85 [] [Cs s] (.lK [Cv LH,I 1]) []:=cs;rw[e];refine ah cs ?_;refine tf ?_
  exact dq
 have e2:qM s=((qM s).1,0):=by unfold qM;rw[pA h0]
 rw[e2]at cs;have cs:tp 85 [] [Cs s] (.lK [Cv (qM s).1,I 0]) []:=cs;have hn:=zkR n;refine ah cs ?_;refine tf ?_
 by_cases h1:n<1\/8<n
 ·have e:nZ s l n=(FM,1):=by unfold nZ;rw[pA aw]
  have e3:C5 n=([],1):=by unfold C5;rw[pA h1]
  rw[e3]at hn;have hn:tp 86 [] [I n] (.lK [mQ [],I 1]) []:=hn;rw[e];refine ah hn ?_;refine tf ?_
  exact dq
 have e3:C5 n=(List.replicate n.toNat [0,0,0,0,0,0],0):=by unfold C5;rw[pw h1]
 rw[e3]at hn;have hn:tp 86 [] [I n] (.lK [mQ (List.replicate n.toNat [0,0,0,0,0,0]),I 0]) []:=hn;refine ah hn ?_;refine tf ?_
 refine .inl ⟨⟨false,[0,3],[2],[]⟩,au,uH ?_⟩;refine⟨rfl,aw,by show(8:Int)*n<=_;omega,aw,dd ?_⟩;refine td ?_
 rw[m1];have hb:Fu l=false->nZ s l n=(FM,1):=λh=>by unfold nZ;rw[pA (.inr (.inr (.inr h)))]
 refine zW.seq l.length (λk=>(.za::.za::.za::.ref 0 [] 3 0 0:: .za::.za::.ref 1 [] 8 0 0::I 0:: .za::.za::.za::.ref 3 [] 8 0 0:: .za::.za::mF (mF (mF (lT l::I l.length::I k:: .za::.za::.za::.za::.za::.za::.za::mF (mF ([]))))))) (λk=>[⟨1,66,3,[encS s],0⟩,⟨1,38,8,[[I 0,I 0,I 0,.lq 1 0 [],.lq 1 0 [],.lq 1 0 [],.lq 1 0 [],.lq 1 0 []]],0⟩,⟨1,69,5,[zJ (qM s).1],0⟩,⟨1,38,8,[[I 0,I 0,I 0,.lq 0 1 (List.replicate n.toNat [I 0]),.lq 1 5 [zJ (qM s).1],.gl 4 4 (((l.take k).map ko).map ji),mQ (List.replicate n.toNat [0,0,0,0,0,0]),.lq 1 0 []]],0⟩,⟨4,76,4,((l.take k).map ko).map ji,0⟩]) (λk=>∀j,j<k->GK l j=true) ?_ aj (λk hk hr=>?_) (λhr=>?_)
 ·refine zt.trans (zt.DC 3 5 76 4 O O (.inl O) O O) ?_;exact cC
 ·obtain⟨x,hx⟩:∃x,x=l[k]:=⟨_,rfl⟩;have hx2:l[k]?=some x:=by rw[pa hk,hx]
  have hg:(l.map qG)[k]?=some (qG x):=by rw[pj,hx2];rfl
  have hxm:x∈l:=bQ
  have hno:GK l k=(yH x && decide (zD ((l.take k).map ko) x<0)):=by unfold GK;rw[hx2]
  have bad:GK l k=false->nZ s l n=(FM,1):=λh=>hb (by unfold Fu;rw[eM];exact⟨k,aq hk,aI⟩)
  have hlg:(((l.take k).map ko).map ji).length=k:=aA
  have eg:((l.take (k+1)).map ko).map ji=((l.take k).map ko).map ji++[ji (ko x)]:=bS
  conv=>whnf
  refine uF ?_;(refine tj hg ?_)
  refine ah (vN x (by have:=hl.2 x hxm;omega)) ?_;refine⟨λh2=>?_,λh2=>?_⟩
  rotate_left
  ·rw[bad (by rw[hno,h2];rfl)];refine dd ?_;refine tf ?_
   (refine .inr ⟨aj,uH ?_⟩)
   exact dq
  refine dd ?_;refine ah (JP ((l.take k).map ko) x aA) ?_;refine⟨λh3=>?_,λh3=>?_⟩
  ·rw[bad (by rw[hno,show decide (zD ((l.take k).map ko) x<0)=false from by simp at h3 ⊢;omega,eQ])];refine dd ?_;refine tf ?_
   (refine .inr ⟨aj,uH ?_⟩)
   exact dq
  refine dd ?_;refine tf ?_
  refine⟨rfl,.inr O,bT,by rw[hlg];show(k+1)*40<=_;omega,dd ?_⟩;refine .inl ⟨rfl,?_,λj hj=>?_⟩
  ·rw[zy aw,eg];exact cE 5
  ·by_cases e:j=k
   ·subst e;rw[hno,h2];simp at h3 ⊢;omega
   ·exact hr j aw
 ·have qj:Fu l=true:=by
   unfold Fu;rw[pH];intro i hi;exact hr i (aq hi)
  have e:nZ s l n=(⟨0,0,0,List.replicate n.toNat 0,[(qM s).1],l.map ko,List.replicate n.toNat [0,0,0,0,0,0],[]⟩,0):=by unfold nZ;rw[pw (by simp only[h0,qj];simp;omega)]
  rw[e];refine uD ?_;rw[rj];refine⟨.inl O,_,zt.var 1 O O O (.cons (.refl _) (.cons (.refl _) (.cons (.refl _) (.cons (.refl _) (.cons (WC.share 1 5 _) (.cons (.refl _) (.cons (.refl _) (.cons (WC.nil 0 3) .nil)))))))),?_⟩
  have e9:kY ⟨0,0,0,List.replicate n.toNat 0,[(qM s).1],l.map ko,List.replicate n.toNat [0,0,0,0,0,0],[]⟩=[I 0,I 0,I 0,.lq 0 1 (List.replicate n.toNat [I 0]),.lq 0 5 [zJ (qM s).1],lL (l.map ko),mQ (List.replicate n.toNat [0,0,0,0,0,0]),.lq 0 3 []]:=by
   have e8:(List.replicate n.toNat (0:Int)).map encI=List.replicate n.toNat [I 0]:=iR;show [I 0,I 0,I 0,C.lq 0 1 ((List.replicate n.toNat (0:Int)).map encI),_,_,_,_]=_;rw[e8]
   rfl
  show _=some (C.lK [C.agg (kY ⟨0,0,0,List.replicate n.toNat 0,[(qM s).1],l.map ko,List.replicate n.toNat [0,0,0,0,0,0],[]⟩),I 0]);rw[e9]
  rfl
end Go.Wor
namespace Go.Wor
open Go.Ab Go.Proofs Tryz Go.Hy Go.Gat Go.Nam Go.Hos Go.Con Go.Sna
def xO{F:List (List C)}{z:List C}{k n:Nat}(hF:F.length=n)(h:k<n):(F.take k++(List.replicate n z).drop k)[k]?=some z:=by
 rw[pT aA,u5,sr,u3,pA aw]
def jB{F:List (List C)}{x z:List C}{k n:Nat}(hx:F[k]?=some x)(hn:k<n):(F.take k++(List.replicate n z).drop k).set k x=F.take (k+1)++(List.replicate n z).drop (k+1):=by
 obtain⟨hk,rfl⟩:=gZ.1 hx;have e1:(F.take k).length=k:=aA
 rw[eG _ _ aw,e1,sY,List.drop_replicate,List.drop_replicate,rS hk,rR];have e2:n-k=(n-(k+1))+1:=aw
 rw[e2,fc]
 rfl
def kQ{F:List (List C)}{z:List C}{n:Nat}(hF:F.length=n):F.take n++(List.replicate n z).drop n=F:=by
 rw[um aw,List.drop_of_length_le aj,rK]
def UG(x:Int)(l:List Int)(hl:l.length<1000000000):tp 198 [] [lI (x::l)] (.sl 0 [] 1 0 (x::l).length false) [⟨2,3,1,(x::l).map encI,0⟩]:=by
 have e:0+((l.map encI).length+1)=(x::l).length:=aj
 rw[<-e];refine zc.zM (fn:=f198) func198 O (uH ?_);refine⟨aj,uH ?_⟩;refine .inr ⟨.inl O,ay,bf,uH ?_⟩;exact uJ
def k8(l:List Int)(hl:l.length<1000000000):tp 198 [] [lI l] (lI l) []:=by
 cases l with
 |nil=>
  refine ab func198 ?_;refine⟨?_,?_⟩
  ·refine dd ?_;exact dP
  ·refine dd ?_;refine .inr ⟨rfl,dd ?_⟩;exact⟨.inl O,_,zt.cell 2 O ((WC.none 1 1 1).trans (WC.share 1 1 [])),rfl⟩
 |cons x l=>
  have hl3:l.length+1<1000000000:=aq hl
  refine ab func198 ?_;refine⟨aj,uH ?_⟩;refine .inr ⟨.inl O,ay,bf,uH ?_⟩;exact dS
def zwX(x:Int)(l:List Int)(hl:l.length<1000000000):tp 241 [] [lU (x::l)] (.sl 0 [] 1 0 (x::l).length false) [⟨2,48,1,(x::l).map xy,0⟩]:=by
 have e:0+((l.map xy).length+1)=(x::l).length:=aj
 rw[<-e];refine zc.zM (fn:=f241) func241 O (uH ?_);refine⟨aj,uH ?_⟩;refine .inr ⟨.inl O,ay,bf,uH ?_⟩;exact uJ
def zwY(l:List Int)(hl:l.length<1000000000):tp 241 [] [lU l] (lU l) []:=by
 cases l with
 |nil=>
  refine ab func241 ?_;refine⟨?_,?_⟩
  ·refine dd ?_;exact dP
  ·refine dd ?_;refine .inr ⟨rfl,dd ?_⟩;exact⟨.inl O,_,zt.cell 2 O ((WC.none 1 1 1).trans (WC.share 1 1 [])),rfl⟩
 |cons x l=>
  have hl3:l.length+1<1000000000:=aq hl
  refine ab func241 ?_;refine⟨aj,uH ?_⟩;refine .inr ⟨.inl O,ay,bf,uH ?_⟩;exact dS
def zwW(x:mj)(l:List mj)(hl:l.length<1000000000):tp 201 [] [lL (x::l)] (.sl 0 [] 4 0 (x::l).length false) [⟨2,76,4,(x::l).map ji,0⟩]:=by
 have e:0+((l.map ji).length+1)=(x::l).length:=aj
 rw[<-e];refine zc.zM (fn:=f201) func201 O (uH ?_);refine⟨aj,uH ?_⟩;refine .inr ⟨.inl O,ay,by show _*40<=_;simp;omega,uH ?_⟩;exact uJ
def Ex(l:List mj)(hl:l.length<1000000000):tp 201 [] [lL l] (lL l) []:=by
 cases l with
 |nil=>
  refine ab func201 ?_;refine⟨?_,?_⟩
  ·refine dd ?_;exact⟨.inl O,_,zt.cell 2 O (WC.nil 0 4),rfl⟩
  ·refine dd ?_;refine .inr ⟨rfl,dd ?_⟩;exact⟨.inl O,_,zt.cell 2 O ((WC.none 1 4 4).trans (WC.share 1 4 [])),rfl⟩
 |cons x l=>
  have hl3:l.length+1<1000000000:=aq hl
  refine ab func201 ?_;refine⟨aj,uH ?_⟩;refine .inr ⟨.inl O,ay,by show _*40<=_;simp;omega,uH ?_⟩;exact dS
def UH(x:mw)(l:List mw)(hl:l.length<1000000000):tp 204 [] [lR (x::l)] (.sl 0 [] 3 0 (x::l).length false) [⟨2,254,3,(x::l).map yB,0⟩]:=by
 have e:0+((l.map yB).length+1)=(x::l).length:=aj
 rw[<-e];refine zc.zM (fn:=f204) func204 O (uH ?_);refine⟨aj,uH ?_⟩;refine .inr ⟨.inl O,ay,by show _*24<=_;simp;omega,uH ?_⟩;exact uJ
def Gu(l:List mw)(hl:l.length<1000000000):tp 204 [] [lR l] (lR l) []:=by
 cases l with
 |nil=>
  refine ab func204 ?_;refine⟨?_,?_⟩
  ·refine dd ?_;exact⟨.inl O,_,zt.cell 2 O (WC.nil 0 3),rfl⟩
  ·refine dd ?_;refine .inr ⟨rfl,dd ?_⟩;exact⟨.inl O,_,zt.cell 2 O ((WC.none 1 3 3).trans (WC.share 1 3 [])),rfl⟩
 |cons x l=>
  have hl3:l.length+1<1000000000:=aq hl
  refine ab func204 ?_;refine⟨aj,uH ?_⟩;refine .inr ⟨.inl O,ay,by show _*24<=_;simp;omega,uH ?_⟩;exact dS
def S9(e:En)(he:e.next.length<1000000000):tp 254 [] [.agg [],.agg (zF e)] (.agg (zF e)) []:=by
 refine ab func254 ?_;refine ah (k8 e.next he) ?_;exact uI
def zzS(l:List En)(hl:l.length<1000000000)(hp:∀x∈l,tp 254 [] [.agg [],.agg (zF x)] (.agg (zF x)) []):tp 253 [] [lE l,.fn 254 [] [],.agg []] (.sl 0 [] 3 0 l.length false) [⟨2,74,3,l.map zF,0⟩]:=by
 have m1:(l.map zF).length=l.length:=pB ..;refine zc.zM (fn:=f253) func253 O (uH ?_);rw[m1];refine⟨rfl,aw,by show(40:Int)*_<=_;omega,aw,dd ?_⟩;rw[m1,toNat_cast];refine zW.seq l.length (λk=>((lE l)::.fn 254 [] []::.za::.za::.za::.ref 0 [] 0 0 0::.lq 1 0 []::.sl 1 [] 3 0 l.length false::.za::.za::.za::.za::.za::(lE l)::I l.length::I k::mF ([.za,.za,.za,.za,.za]))) (λk=>[⟨1,283,0,[[]],0⟩,⟨2,74,3,(l.map zF).take k++(List.replicate l.length [U 0,.lq 1 0 [],I 0]).drop k,0⟩]) (λk=>True) ?_ trivial (λk hk hr=>?_) (λhr=>?_)
 ·exact cC
 ·obtain⟨x,hx⟩:∃x,x=l[k]:=⟨_,rfl⟩;have hx2:l[k]?=some x:=by rw[pa hk,hx]
  have hg:(l.map zF)[k]?=some (zF x):=by rw[pj,hx2];rfl
  conv=>whnf
  refine uF ?_;(refine tj hg ?_)
  refine ah (hp x tK) ?_;refine⟨aw,aA,dd ?_⟩;have e1:0+(k:Int).toNat=k:=aj
  rw[e1];refine⟨_,xO aj hk,rfl,dd ?_⟩;refine .inl ⟨rfl,?_,trivial⟩;have e2:=jB (z:=[U 0,.lq 1 0 [],I 0]) (n:=l.length) hg hk;rw[zy aw,<-e2];exact cE 2
 ·exact dR
def qk{r:List C}(h:r.all zB=true):∀q∈[r],∀c∈q,zB c=true:=λq hq c hc=>by
 rw[pP.1 hq]at hc;exact pH.1 h c hc
def MB(g:Gr):Prop:=g.ends.length<1000000000/\∀e∈g.ends,e.next.length<1000000000
def LP(v:lJ):Prop:=v.zp.length<1000000000/\∀g∈v.zp,MB g
structure jF(w:Wor):Prop where
 pins:w.pins.length<1000000000
 zd:w.zd.length<1000000000/\∀v∈w.zd,LP v
 zf:w.zf.length<1000000000
 counts:w.counts.length<1000000000/\∀r∈w.counts,r.length<1000000000
 zr:w.zr.length<1000000000
def RZ(g:Gr)(hg:MB g):tp 240 [] [.agg [],.agg (zI g)] (.agg (zI g)) []:=by
 refine ab func240 ?_;refine af [] (zzS g.ends hg.1 λe he=>S9 e (hg.2 e he)) ?_;exact⟨.inl O,_,zt.qa 2 0 1 O O O O (.inr O) O aj (shut_map (enc:=zF) (λ_=>O) g.ends) (qk O),rfl⟩
def zzU(l:List Gr)(hl:l.length<1000000000)(hp:∀x∈l,tp 240 [] [.agg [],.agg (zI x)] (.agg (zI x)) []):tp 239 [] [lG l,.fn 240 [] [],.agg []] (.sl 0 [] 2 0 l.length false) [⟨2,72,2,l.map zI,0⟩]:=by
 have m1:(l.map zI).length=l.length:=pB ..;refine zc.zM (fn:=f239) func239 O (uH ?_);rw[m1];refine⟨rfl,aw,by show(32:Int)*_<=_;omega,aw,dd ?_⟩;rw[m1,toNat_cast];refine zW.seq l.length (λk=>((lG l)::.fn 240 [] []::.za::.za::.za::.ref 0 [] 0 0 0::.lq 1 0 []::.sl 1 [] 2 0 l.length false::.za::.za::.za::.za::.za::(lG l)::I l.length::I k::mF ([.za,.za,.za,.za,.za]))) (λk=>[⟨1,283,0,[[]],0⟩,⟨2,72,2,(l.map zI).take k++(List.replicate l.length ([U 0,.lq 1 0 []]:List C)).drop k,0⟩]) (λk=>True) ?_ trivial (λk hk hr=>?_) (λhr=>?_)
 ·exact cC
 ·obtain⟨x,hx⟩:∃x,x=l[k]:=⟨_,rfl⟩;have hx2:l[k]?=some x:=by rw[pa hk,hx]
  have hg:(l.map zI)[k]?=some (zI x):=by rw[pj,hx2];rfl
  conv=>whnf
  refine uF ?_;(refine tj hg ?_)
  refine ah (hp x tK) ?_;refine⟨aw,aA,dd ?_⟩;have e1:0+(k:Int).toNat=k:=aj
  rw[e1];refine⟨_,xO aj hk,rfl,dd ?_⟩;refine .inl ⟨rfl,?_,trivial⟩;have e2:=jB (z:=([U 0,.lq 1 0 []]:List C)) (n:=l.length) hg hk;rw[zy aw,<-e2];exact cE 2
 ·exact dR
def xr(v:lJ)(hv:LP v):tp 200 [] [.agg [],.agg (zJ v)] (.agg (zJ v)) []:=by
 refine ab func200 ?_;refine af [] (zzU v.zp hv.1 λg hg=>RZ g (hv.2 g hg)) ?_;exact⟨.inl O,_,zt.qa 2 0 3 O O O O (.inr O) O aj (shut_map (enc:=zI) (λ_=>O) v.zp) (qk O),rfl⟩
def EI(l:List lJ)(hl:l.length<1000000000)(hp:∀x∈l,tp 200 [] [.agg [],.agg (zJ x)] (.agg (zJ x)) []):tp 199 [] [lV l,.fn 200 [] [],.agg []] (.sl 0 [] 5 0 l.length false) [⟨2,69,5,l.map zJ,0⟩]:=by
 have m1:(l.map zJ).length=l.length:=pB ..;refine zc.zM (fn:=f199) func199 O (uH ?_);rw[m1];refine⟨rfl,aw,by show(104:Int)*_<=_;omega,aw,dd ?_⟩;rw[m1,toNat_cast];refine zW.seq l.length (λk=>((lV l)::.fn 200 [] []::.za::.za::.za::.ref 0 [] 0 0 0::.lq 1 0 []::.sl 1 [] 5 0 l.length false::.za::.za::.za::.za::.za::(lV l)::I l.length::I k::mF ([.za,.za,.za,.za,.za]))) (λk=>[⟨1,283,0,[[]],0⟩,⟨2,69,5,(l.map zJ).take k++(List.replicate l.length ([.lq 1 0 [],.lq 1 0 [],.lq 1 0 [],.lq 1 0 [],Bo false]:List C)).drop k,0⟩]) (λk=>True) ?_ trivial (λk hk hr=>?_) (λhr=>?_)
 ·exact cC
 ·obtain⟨x,hx⟩:∃x,x=l[k]:=⟨_,rfl⟩;have hx2:l[k]?=some x:=by rw[pa hk,hx]
  have hg:(l.map zJ)[k]?=some (zJ x):=by rw[pj,hx2];rfl
  conv=>whnf
  refine uF ?_;(refine tj hg ?_)
  refine ah (hp x tK) ?_;refine⟨aw,aA,dd ?_⟩;have e1:0+(k:Int).toNat=k:=aj
  rw[e1];refine⟨_,xO aj hk,rfl,dd ?_⟩;refine .inl ⟨rfl,?_,trivial⟩;have e2:=jB (z:=([.lq 1 0 [],.lq 1 0 [],.lq 1 0 [],.lq 1 0 [],Bo false]:List C)) (n:=l.length) hg hk;rw[zy aw,<-e2];exact cE 2
 ·exact dR
def vg(r:List Int)(hr:r.length<1000000000):tp 203 [] [.agg [],lU r] (lU r) []:=by
 refine ab func203 ?_;refine ah (zwY r hr) ?_;exact uI
def Th(H':zo)(ρ:Nat->Nat):∀(i:Nat) (K:zo),CA [] H' ρ i K=K
 |_,[]=>rfl
 |i,ob::K=>by unfold CA;rw[Th H' ρ (i+1) K];rfl
def D1{P:Program}{f:FuncId}{args:List C}{r:C}{H':zo}(h:zc P f [] args r H')(hR:qC H'=true)(ha:args.map (yq [] 9)=args)(H:zo)(hf:qC H=true):
  zc P f H args (kb (jz [] H.length) 9 r) (H++H'.map (zL (jz [] H.length))):=by
 have:=h.part [] hR (K:=H) O ha O O hf;have e:nR [] H H'=H++H'.map (zL (jz [] H.length)):=by unfold nR;rw[Th];rfl
 rwa [e]at this
def UT{α:Type}{enc:α->List C}{f:C->C}(hf:∀x,(enc x).map f=enc x)(l:List α)(v:Nat)(row:List C):(((l.map enc).set v row).map λr=>r.map f)=(l.map enc).set v (row.map f):=by
 rw[r6,sM]
 congr 1
 exact sG λx _=>hf x
def xz{n:Nat}{x:Ob}{H:zo}(h1:qf n [x]=true)(h2:qf n H=true):qf n (x::H)=true:=by
 unfold qf at *;exact gf
def ze{x:Ob}{H:zo}(h1:qC [x]=true)(h2:qC H=true):qC (x::H)=true:=by
 unfold qC at *;exact gf
def zl{ty sz fz:Nat}{rows:List (List C)}(h:∀r∈rows,∀c∈r,zB c=true):qC [⟨1,ty,sz,rows,fz⟩]=true:=by
 unfold qC;simp only[uq,fI,eJ];rw[pH]
 exactλr hr=>pH.2 λc hc=>h r hr c hc
def zC{α:Type}{enc:α->List C}{p:C->Bool}(h:∀x,(enc x).all p=true){row:List C}(hr:row.all p=true)(l:List α)(v:Nat):∀r∈(l.map enc).set v row,∀c∈r,p c=true:=λr hm c hc=>by
 rcases rC hm with hm|rfl
 ·obtain⟨x,_,rfl⟩:=pZ.1 hm;exact pH.1 (h x) c hc
 ·exact pH.1 hr c hc
def Ey{α:Type}{enc:α->List C}{p:C->Bool}(h:∀x,(enc x).all p=true){row z:List C}(hz:z.all p=true)(l:List α){v k:Nat}(n:Nat)(hr:k<=v\/row.all p=true):∀r∈((l.map enc).set v row).take k++(List.replicate n z).drop k,∀c∈r,p c=true:=λr hm c hc=>by
 rcases pV.1 hm with hm|hm
 ·rcases hr with hr|hr
  ·rw[List.take_set_of_le hr]at hm;obtain⟨x,_,rfl⟩:=pZ.1 (sT hm);exact pH.1 (h x) c hc
  ·exact zC h hr l v r (sT hm) c hc
 ·rw[rM (uy hm)]at hc;exact pH.1 hz c hc
def zrk(e0:En)(x:Int)(l:List Int)(he:e0.next=x::l)(hl:l.length<1000000000):tp 254 [] [.agg [],.agg (zF e0)] (.agg [U e0.head,C.sl 0 [] 1 0 e0.next.length false,I e0.zj]) [⟨2,3,1,e0.next.map encI,0⟩]:=by
 have h1:tp 254 [] [.agg [],.agg (zF e0)] (.agg [U e0.head,C.sl 3 [] 1 0 e0.next.length false,I e0.zj]) [⟨1,283,0,[[]],0⟩,⟨1,74,3,[[U e0.head,C.sl 3 [] 1 0 e0.next.length false,I e0.zj]],0⟩,⟨1,74,3,[[U e0.head,C.sl 3 [] 1 0 e0.next.length false,I e0.zj]],0⟩,⟨2,3,1,e0.next.map encI,0⟩]:=by
  have hc:=UG x l hl;rw[<-he]at hc;refine zc.zM (fn:=f254) func254 O (uH ?_);refine af [] (hc) ?_;exact uJ
 exact h1.B4 (λB h _=>zt.lQ [3] [0] _ _ tN O O O) (rk _)
def zxe(e0:En)(x:Int)(l:List Int)(he:e0.next=x::l)(hl:l.length<1000000000)(H:zo)(hf:qC H=true):tp 254 H [.agg [],.agg (zF e0)] (.agg ([U e0.head,C.sl H.length [] 1 0 e0.next.length false,I e0.zj])) (H++[⟨2,3,1,e0.next.map encI,0⟩]):=
 D1 (zrk e0 x l he hl) O O H hf
def zN{α:Type}{enc:α->List C}{sel:List Nat}(hf:∀x,(enc x).map (yq sel 9)=enc x)(l:List α)(v:Nat)(row:List C)(ty sz fz:Nat):zR sel ⟨1,ty,sz,(l.map enc).set v row,fz⟩=⟨1,ty,sz,(l.map enc).set v (row.map (yq sel 9)),fz⟩:=by
 show(⟨1,ty,sz,((l.map enc).set v row).map (λr=>r.map (yq sel 9)),fz⟩:Ob)=_;rw[UT hf]
def zH{α:Type}{enc:α->List C}{ρ:Nat->Nat}(hf:∀x,(enc x).map (kb ρ 9)=enc x)(l:List α)(v:Nat)(row:List C)(ty sz fz:Nat):zL ρ ⟨1,ty,sz,(l.map enc).set v row,fz⟩=⟨1,ty,sz,(l.map enc).set v (row.map (kb ρ 9)),fz⟩:=by
 show(⟨1,ty,sz,((l.map enc).set v row).map (λr=>r.map (kb ρ 9)),fz⟩:Ob)=_;rw[UT hf]
def zw8(l:List En)(e:Nat)(e0:En)(hv:l[e]?=some e0)(hl:l.length<1000000000)(hp:∀x∈l,tp 254 [] [.agg [],.agg (zF x)] (.agg (zF x)) [])
 (hA:∀H,qC H=true->tp 254 H [.agg [],.agg (zF e0)] (.agg ([U e0.head,C.sl H.length [] 1 0 e0.next.length false,I e0.zj])) (H++[⟨2,3,1,e0.next.map encI,0⟩])):
  tp 253 [] [lE l,.fn 254 [] [],.agg []] (.sl 0 [] 3 0 l.length false) [⟨1,0,3,(l.map zF).set e ([U e0.head,C.sl 1 [] 1 0 e0.next.length false,I e0.zj]),0⟩,⟨2,3,1,e0.next.map encI,0⟩]:=by
 have m1:(l.map zF).length=l.length:=pB ..;have hvl:=(gZ.1 hv).1
 have h1:tp 253 [] [lE l,.fn 254 [] [],.agg []] (.sl 1 [] 3 0 l.length false) [⟨1,283,0,[[]],0⟩,⟨1,0,3,(l.map zF).set e ([U e0.head,C.sl 3 [] 1 0 e0.next.length false,I e0.zj]),0⟩,oD e0,⟨2,3,1,e0.next.map encI,0⟩]:=by
  refine zc.zM (fn:=f253) func253 O (uH ?_);rw[m1];refine⟨rfl,aw,by show(40:Int)*_<=_;omega,aw,dd ?_⟩;rw[m1,toNat_cast];have ZZ:List C:=([U 0,.lq 1 0 [],I 0]:List C);refine zW.seq l.length (λk=>((lE l)::.fn 254 [] []::.za::.za::.za::.ref 0 [] 0 0 0::.lq 1 0 []::.sl 1 [] 3 0 l.length false::.za::.za::.za::.za::.za::(lE l)::I l.length::I k::mF ([.za,.za,.za,.za,.za]))) (λk=>if k<=e then [⟨1,283,0,[[]],0⟩,⟨1,0,3,((l.map zF).set e ([U e0.head,C.sl 3 [] 1 0 e0.next.length false,I e0.zj])).take k++(List.replicate l.length ([U 0,.lq 1 0 [],I 0]:List C)).drop k,0⟩] else [⟨1,283,0,[[]],0⟩,⟨1,0,3,((l.map zF).set e ([U e0.head,C.sl 3 [] 1 0 e0.next.length false,I e0.zj])).take k++(List.replicate l.length ([U 0,.lq 1 0 [],I 0]:List C)).drop k,0⟩,oD e0,⟨2,3,1,e0.next.map encI,0⟩]) (λk=>True) ?_ trivial (λk hk hr=>?_) (λhr=>?_)
  ·rw[pA (rk _)];refine zt.trans (zt.GR 1 O λr hr c hc=>?_) (cC);rw[rM hr]at hc;exact pH.1 (rfl:([U 0,.lq 1 0 [],I 0]:List C).all zB=true) c hc
  ·obtain⟨x,hx⟩:∃x,x=l[k]:=⟨_,rfl⟩;have hx2:l[k]?=some x:=by rw[pa hk,hx]
   have hxm:x∈l:=bQ
   have hg:(l.map zF)[k]?=some (zF x):=by rw[pj,hx2];rfl
   have e1:0+(k:Int).toNat=k:=aj
   have low:∀n j,j<=e\/3<n->∀r∈((l.map zF).set e ([U e0.head,C.sl 3 [] 1 0 e0.next.length false,I e0.zj])).take j++(List.replicate l.length ([U 0,.lq 1 0 [],I 0]:List C)).drop j,∀c∈r,jv n 9 c=true:=λn j h=>Ey (enc:=zF) (λ_=>O) O l l.length (h.imp_right λh=>by simp[jv,encS];omega)
   have own:∀j,∀r∈((l.map zF).set e ([U e0.head,C.sl 3 [] 1 0 e0.next.length false,I e0.zj])).take j++(List.replicate l.length ([U 0,.lq 1 0 [],I 0]:List C)).drop j,∀c∈r,zB c=true:=λj=>Ey (enc:=zF) (λ_=>O) O l l.length (.inr O)
   by_cases hkv:k=e
   ·subst hkv;obtain rfl:e0=x:=by rw[hv]at hx2;exact pz hx2
    have hF:((l.map zF).set k ([U e0.head,C.sl 3 [] 1 0 e0.next.length false,I e0.zj]))[k]?=some ([U e0.head,C.sl 3 [] 1 0 e0.next.length false,I e0.zj]):=by rw[pK,pA O,pA (aq hk)]
    rw[pA (pI _),pw aw];conv=>whnf
    refine uF ?_;(refine tj hg ?_)
    refine⟨_,_,hA _ (ze O (ze (zl (own k)) O)),dd ?_⟩;exact dG
   ·have hF:((l.map zF).set e ([U e0.head,C.sl 3 [] 1 0 e0.next.length false,I e0.zj]))[k]?=some (zF x):=by rw[pX (λh=>hkv h.symm)];exact hg
    by_cases lu:k<e
    ·rw[pA aw,pA aw];conv=>whnf
     refine uF ?_;(refine tj hg ?_)
     refine ah (hp x hxm) ?_;refine⟨aw,aA,dd ?_⟩;rw[e1];refine⟨_,xO aj hk,rfl,dd ?_⟩;refine .inl ⟨rfl,?_,trivial⟩;rw[zy aw,<-jB hF hk];refine zt.yi 2 tc O O O (xz O (vn ?_)) O;have lw:=low 2 (k+1) (.inl aw);rw[<-jB (z:=([U 0,.lq 1 0 [],I 0]:List C)) (n:=l.length) hF hk]at lw;exact lw
    ·rw[pw aw,pw aw];conv=>whnf
     refine uF ?_;(refine tj hg ?_)
     refine ah (hp x hxm) ?_;refine⟨aw,aA,dd ?_⟩;rw[e1];refine⟨_,xO aj hk,rfl,dd ?_⟩;refine .inl ⟨rfl,?_,trivial⟩;rw[zy aw,<-jB hF hk];refine zt.yi 4 tc O O O (xz O (xz (vn ?_) (xz O O))) O;have lw:=low 4 (k+1) (.inr aw);rw[<-jB (z:=([U 0,.lq 1 0 [],I 0]:List C)) (n:=l.length) hF hk]at lw;exact lw
  ·exact gY
 refine h1.B4 (λB h _=>?_) (rk _);have hw:=zt.lQ (B:=B) [1,3] [0] [.sl 1 [] 3 0 l.length false] [⟨1,283,0,[[]],0⟩,⟨1,0,3,(l.map zF).set e ([U e0.head,C.sl 3 [] 1 0 e0.next.length false,I e0.zj]),0⟩,oD e0,⟨2,3,1,e0.next.map encI,0⟩] tN O O (ze O (ze (zl (zC (enc:=zF) (λ_=>O) O l e)) (ze O O)))
 have e:x7 [1,3] [⟨1,283,0,[[]],0⟩,⟨1,0,3,(l.map zF).set e ([U e0.head,C.sl 3 [] 1 0 e0.next.length false,I e0.zj]),0⟩,oD e0,⟨2,3,1,e0.next.map encI,0⟩]=[⟨1,0,3,(l.map zF).set e ([U e0.head,C.sl 1 [] 1 0 e0.next.length false,I e0.zj]),0⟩,⟨2,3,1,e0.next.map encI,0⟩]:=by
  show zR [1,3] ⟨1,0,3,(l.map zF).set e ([U e0.head,C.sl 3 [] 1 0 e0.next.length false,I e0.zj]),0⟩::_=_;rw[zN (enc:=zF) (λ_=>O)]
  rfl
 rw[e]at hw;exact hw
structure LN(g0:Gr)(e:Nat)(e0:En):Prop where
 sm:MB g0
 at_:g0.ends[e]?=some e0
 ne:e0.next≠[]
def zzR{g0:Gr}{e:Nat}{e0:En}(h:LN g0 e e0)(H:zo)(hf:qC H=true):tp 253 H [lE g0.ends,.fn 254 [] [],.agg []] (.sl H.length [] 3 0 g0.ends.length false) (H++[⟨1,0,3,(g0.ends.map zF).set e ([U e0.head,C.sl (H.length+1) [] 1 0 e0.next.length false,I e0.zj]),0⟩,⟨2,3,1,e0.next.map encI,0⟩]):=by
 obtain⟨x,l,hx⟩:∃x l,e0.next=x::l:=by
  cases hh:e0.next with
  |nil=>exact absurd hh h.ne
  |cons x l=>exact⟨x,l,rfl⟩
 have hlen:l.length<1000000000:=by
  have:=h.sm.2 e0 (pq h.at_);rw[hx]at this;exact dB
 have:=D1 (zw8 g0.ends e e0 h.at_ h.sm.1 (λy hy=>S9 y (h.sm.2 y hy)) (zxe e0 x l hx hlen)) (ze (zl (zC (enc:=zF) (λ_=>O) O _ _)) O) O H hf
 have e9:[(⟨1,0,3,(g0.ends.map zF).set e ([U e0.head,C.sl 1 [] 1 0 e0.next.length false,I e0.zj]),0⟩:Ob),⟨2,3,1,e0.next.map encI,0⟩].map (zL (jz [] H.length))=[⟨1,0,3,(g0.ends.map zF).set e ([U e0.head,C.sl (H.length+1) [] 1 0 e0.next.length false,I e0.zj]),0⟩,⟨2,3,1,e0.next.map encI,0⟩]:=by
  show zL _ ⟨1,0,3,_,0⟩::_=_;rw[zH (enc:=zF) (λ_=>O)]
  rfl
 rw[e9]at this;exact gh
def znk{g0:Gr}{e:Nat}{e0:En}(h:LN g0 e e0):tp 240 [] [.agg [],.agg (zI g0)] (.agg [U g0.zx,C.sl 0 [] 3 0 g0.ends.length false]) [⟨1,0,3,(g0.ends.map zF).set e ([U e0.head,C.sl 1 [] 1 0 e0.next.length false,I e0.zj]),0⟩,⟨2,3,1,e0.next.map encI,0⟩]:=by
 have own:∀i,∀r∈(g0.ends.map zF).set e ([U e0.head,C.sl i [] 1 0 e0.next.length false,I e0.zj]),∀c∈r,zB c=true:=λi=>zC (enc:=zF) (λ_=>O) O _ _
 have h1:tp 240 [] [.agg [],.agg (zI g0)] (.agg [U g0.zx,C.sl 3 [] 3 0 g0.ends.length false]) [⟨1,283,0,[[]],0⟩,⟨1,72,2,[[U g0.zx,C.sl 3 [] 3 0 g0.ends.length false]],0⟩,⟨1,72,2,[[U g0.zx,C.sl 3 [] 3 0 g0.ends.length false]],0⟩,⟨1,0,3,(g0.ends.map zF).set e ([U e0.head,C.sl 4 [] 1 0 e0.next.length false,I e0.zj]),0⟩,⟨2,3,1,e0.next.map encI,0⟩]:=by
  refine zc.zM (fn:=f240) func240 O (uH ?_);refine⟨_,_,zzR h _ O,dd ?_⟩;exact uJ
 refine h1.B4 (λB hB _=>?_) (rk _);have hw:=zt.lQ (B:=B) [3,4] [0] [.agg [U g0.zx,C.sl 3 [] 3 0 g0.ends.length false]] [⟨1,283,0,[[]],0⟩,⟨1,72,2,[[U g0.zx,C.sl 3 [] 3 0 g0.ends.length false]],0⟩,⟨1,72,2,[[U g0.zx,C.sl 3 [] 3 0 g0.ends.length false]],0⟩,⟨1,0,3,(g0.ends.map zF).set e ([U e0.head,C.sl 4 [] 1 0 e0.next.length false,I e0.zj]),0⟩,⟨2,3,1,e0.next.map encI,0⟩] (by rw[show B=0 from aq hB];rfl) O O (ze O (ze O (ze O (ze (zl (own 4)) O))))
 have e:x7 [3,4] [⟨1,283,0,[[]],0⟩,⟨1,72,2,[[U g0.zx,C.sl 3 [] 3 0 g0.ends.length false]],0⟩,⟨1,72,2,[[U g0.zx,C.sl 3 [] 3 0 g0.ends.length false]],0⟩,⟨1,0,3,(g0.ends.map zF).set e ([U e0.head,C.sl 4 [] 1 0 e0.next.length false,I e0.zj]),0⟩,⟨2,3,1,e0.next.map encI,0⟩]=[⟨1,0,3,(g0.ends.map zF).set e ([U e0.head,C.sl 1 [] 1 0 e0.next.length false,I e0.zj]),0⟩,⟨2,3,1,e0.next.map encI,0⟩]:=by
  show zR [3,4] ⟨1,0,3,(g0.ends.map zF).set e ([U e0.head,C.sl 4 [] 1 0 e0.next.length false,I e0.zj]),0⟩::_=_;rw[zN (enc:=zF) (λ_=>O)]
  rfl
 rw[e]at hw;exact hw
def zrJ{g0:Gr}{e:Nat}{e0:En}(h:LN g0 e e0)(H:zo)(hf:qC H=true):tp 240 H [.agg [],.agg (zI g0)] (.agg ([U g0.zx,C.sl H.length [] 3 0 g0.ends.length false])) (H++[⟨1,0,3,(g0.ends.map zF).set e ([U e0.head,C.sl (H.length+1) [] 1 0 e0.next.length false,I e0.zj]),0⟩,⟨2,3,1,e0.next.map encI,0⟩]):=by
 have:=D1 (znk h) (ze (zl (zC (enc:=zF) (λ_=>O) O _ _)) O) O H hf
 have e9:[(⟨1,0,3,(g0.ends.map zF).set e ([U e0.head,C.sl 1 [] 1 0 e0.next.length false,I e0.zj]),0⟩:Ob),⟨2,3,1,e0.next.map encI,0⟩].map (zL (jz [] H.length))=[⟨1,0,3,(g0.ends.map zF).set e ([U e0.head,C.sl (H.length+1) [] 1 0 e0.next.length false,I e0.zj]),0⟩,⟨2,3,1,e0.next.map encI,0⟩]:=by
  show zL _ ⟨1,0,3,_,0⟩::_=_;rw[zH (enc:=zF) (λ_=>O)]
  rfl
 rw[e9]at this;exact gh
def zw9(e0:En)(e:Nat)(l:List Gr)(g:Nat)(g0:Gr)(hv:l[g]?=some g0)(hl:l.length<1000000000)(hp:∀x∈l,tp 240 [] [.agg [],.agg (zI x)] (.agg (zI x)) [])
 (hA:∀H,qC H=true->tp 240 H [.agg [],.agg (zI g0)] (.agg ([U g0.zx,C.sl H.length [] 3 0 g0.ends.length false])) (H++[⟨1,0,3,(g0.ends.map zF).set e ([U e0.head,C.sl (H.length+1) [] 1 0 e0.next.length false,I e0.zj]),0⟩,⟨2,3,1,e0.next.map encI,0⟩])):
  tp 239 [] [lG l,.fn 240 [] [],.agg []] (.sl 0 [] 2 0 l.length false) [⟨1,0,2,(l.map zI).set g ([U g0.zx,C.sl 1 [] 3 0 g0.ends.length false]),0⟩,⟨1,0,3,(g0.ends.map zF).set e ([U e0.head,C.sl 2 [] 1 0 e0.next.length false,I e0.zj]),0⟩,⟨2,3,1,e0.next.map encI,0⟩]:=by
 have m1:(l.map zI).length=l.length:=pB ..;have hvl:=(gZ.1 hv).1
 have h1:tp 239 [] [lG l,.fn 240 [] [],.agg []] (.sl 1 [] 2 0 l.length false) [⟨1,283,0,[[]],0⟩,⟨1,0,2,(l.map zI).set g ([U g0.zx,C.sl 3 [] 3 0 g0.ends.length false]),0⟩,⟨1,72,2,[zI g0],0⟩,⟨1,0,3,(g0.ends.map zF).set e ([U e0.head,C.sl 4 [] 1 0 e0.next.length false,I e0.zj]),0⟩,⟨2,3,1,e0.next.map encI,0⟩]:=by
  refine zc.zM (fn:=f239) func239 O (uH ?_);rw[m1];refine⟨rfl,aw,by show(32:Int)*_<=_;omega,aw,dd ?_⟩;rw[m1,toNat_cast];have ZZ:List C:=([U 0,.lq 1 0 []]:List C);refine zW.seq l.length (λk=>((lG l)::.fn 240 [] []::.za::.za::.za::.ref 0 [] 0 0 0::.lq 1 0 []::.sl 1 [] 2 0 l.length false::.za::.za::.za::.za::.za::(lG l)::I l.length::I k::mF ([.za,.za,.za,.za,.za]))) (λk=>if k<=g then [⟨1,283,0,[[]],0⟩,⟨1,0,2,((l.map zI).set g ([U g0.zx,C.sl 3 [] 3 0 g0.ends.length false])).take k++(List.replicate l.length ([U 0,.lq 1 0 []]:List C)).drop k,0⟩] else [⟨1,283,0,[[]],0⟩,⟨1,0,2,((l.map zI).set g ([U g0.zx,C.sl 3 [] 3 0 g0.ends.length false])).take k++(List.replicate l.length ([U 0,.lq 1 0 []]:List C)).drop k,0⟩,⟨1,72,2,[zI g0],0⟩,⟨1,0,3,(g0.ends.map zF).set e ([U e0.head,C.sl 4 [] 1 0 e0.next.length false,I e0.zj]),0⟩,⟨2,3,1,e0.next.map encI,0⟩]) (λk=>True) ?_ trivial (λk hk hr=>?_) (λhr=>?_)
  ·rw[pA (rk _)];refine zt.trans (zt.GR 1 O λr hr c hc=>?_) (cC);rw[rM hr]at hc;exact pH.1 (rfl:([U 0,.lq 1 0 []]:List C).all zB=true) c hc
  ·obtain⟨x,hx⟩:∃x,x=l[k]:=⟨_,rfl⟩;have hx2:l[k]?=some x:=by rw[pa hk,hx]
   have hxm:x∈l:=bQ
   have hg:(l.map zI)[k]?=some (zI x):=by rw[pj,hx2];rfl
   have e1:0+(k:Int).toNat=k:=aj
   have low:∀n j,j<=g\/3<n->∀r∈((l.map zI).set g ([U g0.zx,C.sl 3 [] 3 0 g0.ends.length false])).take j++(List.replicate l.length ([U 0,.lq 1 0 []]:List C)).drop j,∀c∈r,jv n 9 c=true:=λn j h=>Ey (enc:=zI) (λ_=>O) O l l.length (h.imp_right λh=>by simp[jv,encS];omega)
   have own:∀j,∀r∈((l.map zI).set g ([U g0.zx,C.sl 3 [] 3 0 g0.ends.length false])).take j++(List.replicate l.length ([U 0,.lq 1 0 []]:List C)).drop j,∀c∈r,zB c=true:=λj=>Ey (enc:=zI) (λ_=>O) O l l.length (.inr O)
   by_cases hkv:k=g
   ·subst hkv;obtain rfl:g0=x:=by rw[hv]at hx2;exact pz hx2
    have hF:((l.map zI).set k ([U g0.zx,C.sl 3 [] 3 0 g0.ends.length false]))[k]?=some ([U g0.zx,C.sl 3 [] 3 0 g0.ends.length false]):=by rw[pK,pA O,pA (aq hk)]
    rw[pA (pI _),pw aw];conv=>whnf
    refine uF ?_;(refine tj hg ?_)
    refine⟨_,_,hA _ (ze O (ze (zl (own k)) O)),dd ?_⟩;exact dG
   ·have hF:((l.map zI).set g ([U g0.zx,C.sl 3 [] 3 0 g0.ends.length false]))[k]?=some (zI x):=by rw[pX (λh=>hkv h.symm)];exact hg
    by_cases lu:k<g
    ·rw[pA aw,pA aw];conv=>whnf
     refine uF ?_;(refine tj hg ?_)
     refine ah (hp x hxm) ?_;refine⟨aw,aA,dd ?_⟩;rw[e1];refine⟨_,xO aj hk,rfl,dd ?_⟩;refine .inl ⟨rfl,?_,trivial⟩;rw[zy aw,<-jB hF hk];refine zt.yi 2 tc O O O (xz O (vn ?_)) O;have lw:=low 2 (k+1) (.inl aw);rw[<-jB (z:=([U 0,.lq 1 0 []]:List C)) (n:=l.length) hF hk]at lw;exact lw
    ·rw[pw aw,pw aw];conv=>whnf
     refine uF ?_;(refine tj hg ?_)
     refine ah (hp x hxm) ?_;refine⟨aw,aA,dd ?_⟩;rw[e1];refine⟨_,xO aj hk,rfl,dd ?_⟩;refine .inl ⟨rfl,?_,trivial⟩;rw[zy aw,<-jB hF hk];refine zt.yi 5 tc O O O (xz O (xz (vn ?_) (xz O (xz (vn (zC (enc:=zF) (λ_=>O) O _ _)) O)))) O;have lw:=low 5 (k+1) (.inr aw);rw[<-jB (z:=([U 0,.lq 1 0 []]:List C)) (n:=l.length) hF hk]at lw;exact lw
  ·exact gY
 refine h1.B4 (λB h _=>?_) (rk _);have hw:=zt.lQ (B:=B) [1,3,4] [0] [.sl 1 [] 2 0 l.length false] [⟨1,283,0,[[]],0⟩,⟨1,0,2,(l.map zI).set g ([U g0.zx,C.sl 3 [] 3 0 g0.ends.length false]),0⟩,⟨1,72,2,[zI g0],0⟩,⟨1,0,3,(g0.ends.map zF).set e ([U e0.head,C.sl 4 [] 1 0 e0.next.length false,I e0.zj]),0⟩,⟨2,3,1,e0.next.map encI,0⟩] tN O O (ze O (ze (zl (zC (enc:=zI) (λ_=>O) O l g)) (ze O (ze (zl (zC (enc:=zF) (λ_=>O) O _ _)) O))))
 have e:x7 [1,3,4] [⟨1,283,0,[[]],0⟩,⟨1,0,2,(l.map zI).set g ([U g0.zx,C.sl 3 [] 3 0 g0.ends.length false]),0⟩,⟨1,72,2,[zI g0],0⟩,⟨1,0,3,(g0.ends.map zF).set e ([U e0.head,C.sl 4 [] 1 0 e0.next.length false,I e0.zj]),0⟩,⟨2,3,1,e0.next.map encI,0⟩]=[⟨1,0,2,(l.map zI).set g ([U g0.zx,C.sl 1 [] 3 0 g0.ends.length false]),0⟩,⟨1,0,3,(g0.ends.map zF).set e ([U e0.head,C.sl 2 [] 1 0 e0.next.length false,I e0.zj]),0⟩,⟨2,3,1,e0.next.map encI,0⟩]:=by
  show zR [1,3,4] ⟨1,0,2,(l.map zI).set g ([U g0.zx,C.sl 3 [] 3 0 g0.ends.length false]),0⟩::_=_;rw[zN (enc:=zI) (λ_=>O)];show _::zR [1,3,4] ⟨1,0,3,(g0.ends.map zF).set e ([U e0.head,C.sl 4 [] 1 0 e0.next.length false,I e0.zj]),0⟩::_=_;rw[zN (enc:=zF) (λ_=>O)];rfl
 rw[e]at hw;exact hw
structure LO(v0:lJ)(g:Nat)(g0:Gr)(e:Nat)(e0:En):Prop extends LN g0 e e0 where
 oX:LP v0
 mn:v0.zp[g]?=some g0
def zzT{v0:lJ}{g:Nat}{g0:Gr}{e:Nat}{e0:En}(h:LO v0 g g0 e e0)(H:zo)(hf:qC H=true):tp 239 H [lG v0.zp,.fn 240 [] [],.agg []] (.sl H.length [] 2 0 v0.zp.length false) (H++[⟨1,0,2,(v0.zp.map zI).set g ([U g0.zx,C.sl (H.length+1) [] 3 0 g0.ends.length false]),0⟩,⟨1,0,3,(g0.ends.map zF).set e ([U e0.head,C.sl (H.length+2) [] 1 0 e0.next.length false,I e0.zj]),0⟩,⟨2,3,1,e0.next.map encI,0⟩]):=by
 have:=D1 (zw9 e0 e v0.zp g g0 h.mn h.oX.1 (λy hy=>RZ y (h.oX.2 y hy)) (zrJ h.toLN)) (ze (zl (zC (enc:=zI) (λ_=>O) O _ _)) (ze (zl (zC (enc:=zF) (λ_=>O) O _ _)) O)) O H hf
 have e9:[(⟨1,0,2,(v0.zp.map zI).set g ([U g0.zx,C.sl 1 [] 3 0 g0.ends.length false]),0⟩:Ob),⟨1,0,3,(g0.ends.map zF).set e ([U e0.head,C.sl 2 [] 1 0 e0.next.length false,I e0.zj]),0⟩,⟨2,3,1,e0.next.map encI,0⟩].map (zL (jz [] H.length))=[⟨1,0,2,(v0.zp.map zI).set g ([U g0.zx,C.sl (H.length+1) [] 3 0 g0.ends.length false]),0⟩,⟨1,0,3,(g0.ends.map zF).set e ([U e0.head,C.sl (H.length+2) [] 1 0 e0.next.length false,I e0.zj]),0⟩,⟨2,3,1,e0.next.map encI,0⟩]:=by
  show zL _ ⟨1,0,2,_,0⟩::zL _ ⟨1,0,3,_,0⟩::_=_;rw[zH (enc:=zI) (λ_=>O),zH (enc:=zF) (λ_=>O)]
  rfl
 rw[e9]at this;exact gh
def zk1{v0:lJ}{g:Nat}{g0:Gr}{e:Nat}{e0:En}(h:LO v0 g g0 e e0):tp 200 [] [.agg [],.agg (zJ v0)] (.agg (encS v0.snap++[C.sl 0 [] 2 0 v0.zp.length false,Bo v0.qd])) [⟨1,0,2,(v0.zp.map zI).set g ([U g0.zx,C.sl 1 [] 3 0 g0.ends.length false]),0⟩,⟨1,0,3,(g0.ends.map zF).set e ([U e0.head,C.sl 2 [] 1 0 e0.next.length false,I e0.zj]),0⟩,⟨2,3,1,e0.next.map encI,0⟩]:=by
 have h1:tp 200 [] [.agg [],.agg (zJ v0)] (.agg (encS v0.snap++[C.sl 3 [] 2 0 v0.zp.length false,Bo v0.qd])) [⟨1,283,0,[[]],0⟩,⟨1,69,5,[(encS v0.snap++[C.sl 3 [] 2 0 v0.zp.length false,Bo v0.qd])],0⟩,⟨1,69,5,[(encS v0.snap++[C.sl 3 [] 2 0 v0.zp.length false,Bo v0.qd])],0⟩,⟨1,0,2,(v0.zp.map zI).set g ([U g0.zx,C.sl 4 [] 3 0 g0.ends.length false]),0⟩,⟨1,0,3,(g0.ends.map zF).set e ([U e0.head,C.sl 5 [] 1 0 e0.next.length false,I e0.zj]),0⟩,⟨2,3,1,e0.next.map encI,0⟩]:=by
  refine zc.zM (fn:=f200) func200 O (uH ?_);refine⟨_,_,zzT h _ O,dd ?_⟩;exact uJ
 refine h1.B4 (λB hB _=>?_) (rk _);have hw:=zt.lQ (B:=B) [3,4,5] [0] [.agg (encS v0.snap++[C.sl 3 [] 2 0 v0.zp.length false,Bo v0.qd])] [⟨1,283,0,[[]],0⟩,⟨1,69,5,[(encS v0.snap++[C.sl 3 [] 2 0 v0.zp.length false,Bo v0.qd])],0⟩,⟨1,69,5,[(encS v0.snap++[C.sl 3 [] 2 0 v0.zp.length false,Bo v0.qd])],0⟩,⟨1,0,2,(v0.zp.map zI).set g ([U g0.zx,C.sl 4 [] 3 0 g0.ends.length false]),0⟩,⟨1,0,3,(g0.ends.map zF).set e ([U e0.head,C.sl 5 [] 1 0 e0.next.length false,I e0.zj]),0⟩,⟨2,3,1,e0.next.map encI,0⟩] (by rw[show B=0 from aq hB];rfl) O O (ze O (ze O (ze O (ze (zl (zC (enc:=zI) (λ_=>O) O _ _)) (ze (zl (zC (enc:=zF) (λ_=>O) O _ _)) O)))))
 have e:x7 [3,4,5] [⟨1,283,0,[[]],0⟩,⟨1,69,5,[(encS v0.snap++[C.sl 3 [] 2 0 v0.zp.length false,Bo v0.qd])],0⟩,⟨1,69,5,[(encS v0.snap++[C.sl 3 [] 2 0 v0.zp.length false,Bo v0.qd])],0⟩,⟨1,0,2,(v0.zp.map zI).set g ([U g0.zx,C.sl 4 [] 3 0 g0.ends.length false]),0⟩,⟨1,0,3,(g0.ends.map zF).set e ([U e0.head,C.sl 5 [] 1 0 e0.next.length false,I e0.zj]),0⟩,⟨2,3,1,e0.next.map encI,0⟩]=[⟨1,0,2,(v0.zp.map zI).set g ([U g0.zx,C.sl 1 [] 3 0 g0.ends.length false]),0⟩,⟨1,0,3,(g0.ends.map zF).set e ([U e0.head,C.sl 2 [] 1 0 e0.next.length false,I e0.zj]),0⟩,⟨2,3,1,e0.next.map encI,0⟩]:=by
  show zR [3,4,5] ⟨1,0,2,(v0.zp.map zI).set g ([U g0.zx,C.sl 4 [] 3 0 g0.ends.length false]),0⟩::zR [3,4,5] ⟨1,0,3,(g0.ends.map zF).set e ([U e0.head,C.sl 5 [] 1 0 e0.next.length false,I e0.zj]),0⟩::_=_;rw[zN (enc:=zI) (λ_=>O),zN (enc:=zF) (λ_=>O)]
  rfl
 rw[e]at hw;exact hw
def zox{v0:lJ}{g:Nat}{g0:Gr}{e:Nat}{e0:En}(h:LO v0 g g0 e e0)(H:zo)(hf:qC H=true):tp 200 H [.agg [],.agg (zJ v0)] (.agg ((encS v0.snap++[C.sl H.length [] 2 0 v0.zp.length false,Bo v0.qd]))) (H++[⟨1,0,2,(v0.zp.map zI).set g ([U g0.zx,C.sl (H.length+1) [] 3 0 g0.ends.length false]),0⟩,⟨1,0,3,(g0.ends.map zF).set e ([U e0.head,C.sl (H.length+2) [] 1 0 e0.next.length false,I e0.zj]),0⟩,⟨2,3,1,e0.next.map encI,0⟩]):=by
 have:=D1 (zk1 h) (ze (zl (zC (enc:=zI) (λ_=>O) O _ _)) (ze (zl (zC (enc:=zF) (λ_=>O) O _ _)) O)) O H hf
 have e9:[(⟨1,0,2,(v0.zp.map zI).set g ([U g0.zx,C.sl 1 [] 3 0 g0.ends.length false]),0⟩:Ob),⟨1,0,3,(g0.ends.map zF).set e ([U e0.head,C.sl 2 [] 1 0 e0.next.length false,I e0.zj]),0⟩,⟨2,3,1,e0.next.map encI,0⟩].map (zL (jz [] H.length))=[⟨1,0,2,(v0.zp.map zI).set g ([U g0.zx,C.sl (H.length+1) [] 3 0 g0.ends.length false]),0⟩,⟨1,0,3,(g0.ends.map zF).set e ([U e0.head,C.sl (H.length+2) [] 1 0 e0.next.length false,I e0.zj]),0⟩,⟨2,3,1,e0.next.map encI,0⟩]:=by
  show zL _ ⟨1,0,2,_,0⟩::zL _ ⟨1,0,3,_,0⟩::_=_;rw[zH (enc:=zI) (λ_=>O),zH (enc:=zF) (λ_=>O)]
  rfl
 rw[e9]at this;exact gh
def zxb(g0:Gr)(g:Nat)(e0:En)(e:Nat)(l:List lJ)(v:Nat)(v0:lJ)(hv:l[v]?=some v0)(hl:l.length<1000000000)(hp:∀x∈l,tp 200 [] [.agg [],.agg (zJ x)] (.agg (zJ x)) [])
 (hA:∀H,qC H=true->tp 200 H [.agg [],.agg (zJ v0)] (.agg ((encS v0.snap++[C.sl H.length [] 2 0 v0.zp.length false,Bo v0.qd]))) (H++[⟨1,0,2,(v0.zp.map zI).set g ([U g0.zx,C.sl (H.length+1) [] 3 0 g0.ends.length false]),0⟩,⟨1,0,3,(g0.ends.map zF).set e ([U e0.head,C.sl (H.length+2) [] 1 0 e0.next.length false,I e0.zj]),0⟩,⟨2,3,1,e0.next.map encI,0⟩])):
  tp 199 [] [lV l,.fn 200 [] [],.agg []] (.sl 0 [] 5 0 l.length false) [⟨1,0,5,(l.map zJ).set v ((encS v0.snap++[C.sl 1 [] 2 0 v0.zp.length false,Bo v0.qd])),0⟩,⟨1,0,2,(v0.zp.map zI).set g ([U g0.zx,C.sl 2 [] 3 0 g0.ends.length false]),0⟩,⟨1,0,3,(g0.ends.map zF).set e ([U e0.head,C.sl 3 [] 1 0 e0.next.length false,I e0.zj]),0⟩,⟨2,3,1,e0.next.map encI,0⟩]:=by
 have m1:(l.map zJ).length=l.length:=pB ..;have hvl:=(gZ.1 hv).1
 have h1:tp 199 [] [lV l,.fn 200 [] [],.agg []] (.sl 1 [] 5 0 l.length false) [⟨1,283,0,[[]],0⟩,⟨1,0,5,(l.map zJ).set v ((encS v0.snap++[C.sl 3 [] 2 0 v0.zp.length false,Bo v0.qd])),0⟩,⟨1,69,5,[zJ v0],0⟩,⟨1,0,2,(v0.zp.map zI).set g ([U g0.zx,C.sl 4 [] 3 0 g0.ends.length false]),0⟩,⟨1,0,3,(g0.ends.map zF).set e ([U e0.head,C.sl 5 [] 1 0 e0.next.length false,I e0.zj]),0⟩,⟨2,3,1,e0.next.map encI,0⟩]:=by
  refine zc.zM (fn:=f199) func199 O (uH ?_);rw[m1];refine⟨rfl,aw,by show(104:Int)*_<=_;omega,aw,dd ?_⟩;rw[m1,toNat_cast];have ZZ:List C:=([.lq 1 0 [],.lq 1 0 [],.lq 1 0 [],.lq 1 0 [],Bo false]:List C);refine zW.seq l.length (λk=>((lV l)::.fn 200 [] []::.za::.za::.za::.ref 0 [] 0 0 0::.lq 1 0 []::.sl 1 [] 5 0 l.length false::.za::.za::.za::.za::.za::(lV l)::I l.length::I k::mF ([.za,.za,.za,.za,.za]))) (λk=>if k<=v then [⟨1,283,0,[[]],0⟩,⟨1,0,5,((l.map zJ).set v ((encS v0.snap++[C.sl 3 [] 2 0 v0.zp.length false,Bo v0.qd]))).take k++(List.replicate l.length ([.lq 1 0 [],.lq 1 0 [],.lq 1 0 [],.lq 1 0 [],Bo false]:List C)).drop k,0⟩] else [⟨1,283,0,[[]],0⟩,⟨1,0,5,((l.map zJ).set v ((encS v0.snap++[C.sl 3 [] 2 0 v0.zp.length false,Bo v0.qd]))).take k++(List.replicate l.length ([.lq 1 0 [],.lq 1 0 [],.lq 1 0 [],.lq 1 0 [],Bo false]:List C)).drop k,0⟩,⟨1,69,5,[zJ v0],0⟩,⟨1,0,2,(v0.zp.map zI).set g ([U g0.zx,C.sl 4 [] 3 0 g0.ends.length false]),0⟩,⟨1,0,3,(g0.ends.map zF).set e ([U e0.head,C.sl 5 [] 1 0 e0.next.length false,I e0.zj]),0⟩,⟨2,3,1,e0.next.map encI,0⟩]) (λk=>True) ?_ trivial (λk hk hr=>?_) (λhr=>?_)
  ·rw[pA (rk _)];refine zt.trans (zt.GR 1 O λr hr c hc=>?_) (cC);rw[rM hr]at hc;exact pH.1 (rfl:([.lq 1 0 [],.lq 1 0 [],.lq 1 0 [],.lq 1 0 [],Bo false]:List C).all zB=true) c hc
  ·obtain⟨x,hx⟩:∃x,x=l[k]:=⟨_,rfl⟩;have hx2:l[k]?=some x:=by rw[pa hk,hx]
   have hxm:x∈l:=bQ
   have hg:(l.map zJ)[k]?=some (zJ x):=by rw[pj,hx2];rfl
   have e1:0+(k:Int).toNat=k:=aj
   have low:∀n j,j<=v\/3<n->∀r∈((l.map zJ).set v ((encS v0.snap++[C.sl 3 [] 2 0 v0.zp.length false,Bo v0.qd]))).take j++(List.replicate l.length ([.lq 1 0 [],.lq 1 0 [],.lq 1 0 [],.lq 1 0 [],Bo false]:List C)).drop j,∀c∈r,jv n 9 c=true:=λn j h=>Ey (enc:=zJ) (λ_=>O) O l l.length (h.imp_right λh=>by simp[jv,encS];omega)
   have own:∀j,∀r∈((l.map zJ).set v ((encS v0.snap++[C.sl 3 [] 2 0 v0.zp.length false,Bo v0.qd]))).take j++(List.replicate l.length ([.lq 1 0 [],.lq 1 0 [],.lq 1 0 [],.lq 1 0 [],Bo false]:List C)).drop j,∀c∈r,zB c=true:=λj=>Ey (enc:=zJ) (λ_=>O) O l l.length (.inr O)
   by_cases hkv:k=v
   ·subst hkv;obtain rfl:v0=x:=by rw[hv]at hx2;exact pz hx2
    have hF:((l.map zJ).set k ((encS v0.snap++[C.sl 3 [] 2 0 v0.zp.length false,Bo v0.qd])))[k]?=some ((encS v0.snap++[C.sl 3 [] 2 0 v0.zp.length false,Bo v0.qd])):=by rw[pK,pA O,pA (aq hk)]
    rw[pA (pI _),pw aw];conv=>whnf
    refine uF ?_;(refine tj hg ?_)
    refine⟨_,_,hA _ (ze O (ze (zl (own k)) O)),dd ?_⟩;exact dG
   ·have hF:((l.map zJ).set v ((encS v0.snap++[C.sl 3 [] 2 0 v0.zp.length false,Bo v0.qd])))[k]?=some (zJ x):=by rw[pX (λh=>hkv h.symm)];exact hg
    by_cases lu:k<v
    ·rw[pA aw,pA aw];conv=>whnf
     refine uF ?_;(refine tj hg ?_)
     refine ah (hp x hxm) ?_;refine⟨aw,aA,dd ?_⟩;rw[e1];refine⟨_,xO aj hk,rfl,dd ?_⟩;refine .inl ⟨rfl,?_,trivial⟩;rw[zy aw,<-jB hF hk];refine zt.yi 2 tc O O O (xz O (vn ?_)) O;have lw:=low 2 (k+1) (.inl aw);rw[<-jB (z:=([.lq 1 0 [],.lq 1 0 [],.lq 1 0 [],.lq 1 0 [],Bo false]:List C)) (n:=l.length) hF hk]at lw;exact lw
    ·rw[pw aw,pw aw];conv=>whnf
     refine uF ?_;(refine tj hg ?_)
     refine ah (hp x hxm) ?_;refine⟨aw,aA,dd ?_⟩;rw[e1];refine⟨_,xO aj hk,rfl,dd ?_⟩;refine .inl ⟨rfl,?_,trivial⟩;rw[zy aw,<-jB hF hk];refine zt.yi 6 tc O O O (xz O (xz (vn ?_) (xz O (xz (vn (zC (enc:=zI) (λ_=>O) O _ _)) (xz (vn (zC (enc:=zF) (λ_=>O) O _ _)) O))))) O;have lw:=low 6 (k+1) (.inr aw);rw[<-jB (z:=([.lq 1 0 [],.lq 1 0 [],.lq 1 0 [],.lq 1 0 [],Bo false]:List C)) (n:=l.length) hF hk]at lw;exact lw
  ·exact gY
 refine h1.B4 (λB h _=>?_) (rk _);have hw:=zt.lQ (B:=B) [1,3,4,5] [0] [.sl 1 [] 5 0 l.length false] [⟨1,283,0,[[]],0⟩,⟨1,0,5,(l.map zJ).set v ((encS v0.snap++[C.sl 3 [] 2 0 v0.zp.length false,Bo v0.qd])),0⟩,⟨1,69,5,[zJ v0],0⟩,⟨1,0,2,(v0.zp.map zI).set g ([U g0.zx,C.sl 4 [] 3 0 g0.ends.length false]),0⟩,⟨1,0,3,(g0.ends.map zF).set e ([U e0.head,C.sl 5 [] 1 0 e0.next.length false,I e0.zj]),0⟩,⟨2,3,1,e0.next.map encI,0⟩] tN O O (ze O (ze (zl (zC (enc:=zJ) (λ_=>O) O l v)) (ze O (ze (zl (zC (enc:=zI) (λ_=>O) O _ _)) (ze (zl (zC (enc:=zF) (λ_=>O) O _ _)) O)))))
 have e:x7 [1,3,4,5] [⟨1,283,0,[[]],0⟩,⟨1,0,5,(l.map zJ).set v ((encS v0.snap++[C.sl 3 [] 2 0 v0.zp.length false,Bo v0.qd])),0⟩,⟨1,69,5,[zJ v0],0⟩,⟨1,0,2,(v0.zp.map zI).set g ([U g0.zx,C.sl 4 [] 3 0 g0.ends.length false]),0⟩,⟨1,0,3,(g0.ends.map zF).set e ([U e0.head,C.sl 5 [] 1 0 e0.next.length false,I e0.zj]),0⟩,⟨2,3,1,e0.next.map encI,0⟩]=[⟨1,0,5,(l.map zJ).set v ((encS v0.snap++[C.sl 1 [] 2 0 v0.zp.length false,Bo v0.qd])),0⟩,⟨1,0,2,(v0.zp.map zI).set g ([U g0.zx,C.sl 2 [] 3 0 g0.ends.length false]),0⟩,⟨1,0,3,(g0.ends.map zF).set e ([U e0.head,C.sl 3 [] 1 0 e0.next.length false,I e0.zj]),0⟩,⟨2,3,1,e0.next.map encI,0⟩]:=by
  show zR [1,3,4,5] ⟨1,0,5,(l.map zJ).set v ((encS v0.snap++[C.sl 3 [] 2 0 v0.zp.length false,Bo v0.qd])),0⟩::_=_;rw[zN (enc:=zJ) (λ_=>O)];show _::zR [1,3,4,5] ⟨1,0,2,(v0.zp.map zI).set g ([U g0.zx,C.sl 4 [] 3 0 g0.ends.length false]),0⟩::zR [1,3,4,5] ⟨1,0,3,(g0.ends.map zF).set e ([U e0.head,C.sl 5 [] 1 0 e0.next.length false,I e0.zj]),0⟩::_=_;rw[zN (enc:=zI) (λ_=>O),zN (enc:=zF) (λ_=>O)];rfl
 rw[e]at hw;exact hw
structure EW(vs:List lJ)(v:Nat)(v0:lJ)(g:Nat)(g0:Gr)(e:Nat)(e0:En):Prop extends LO v0 g g0 e e0 where
 Q9:vs.length<1000000000/\∀v∈vs,LP v
 mu:vs[v]?=some v0
def zzW{vs:List lJ}{v:Nat}{v0:lJ}{g:Nat}{g0:Gr}{e:Nat}{e0:En}(h:EW vs v v0 g g0 e e0)(H:zo)(hf:qC H=true):tp 199 H [lV vs,.fn 200 [] [],.agg []] (.sl H.length [] 5 0 vs.length false) (H++[⟨1,0,5,(vs.map zJ).set v ((encS v0.snap++[C.sl (H.length+1) [] 2 0 v0.zp.length false,Bo v0.qd])),0⟩,⟨1,0,2,(v0.zp.map zI).set g ([U g0.zx,C.sl (H.length+2) [] 3 0 g0.ends.length false]),0⟩,⟨1,0,3,(g0.ends.map zF).set e ([U e0.head,C.sl (H.length+3) [] 1 0 e0.next.length false,I e0.zj]),0⟩,⟨2,3,1,e0.next.map encI,0⟩]):=by
 have:=D1 (zxb g0 g e0 e vs v v0 h.mu h.Q9.1 (λy hy=>xr y (h.Q9.2 y hy)) (zox h.toLO)) (ze (zl (zC (enc:=zJ) (λ_=>O) O _ _)) (ze (zl (zC (enc:=zI) (λ_=>O) O _ _)) (ze (zl (zC (enc:=zF) (λ_=>O) O _ _)) O))) O H hf
 have e9:[(⟨1,0,5,(vs.map zJ).set v ((encS v0.snap++[C.sl 1 [] 2 0 v0.zp.length false,Bo v0.qd])),0⟩:Ob),⟨1,0,2,(v0.zp.map zI).set g ([U g0.zx,C.sl 2 [] 3 0 g0.ends.length false]),0⟩,⟨1,0,3,(g0.ends.map zF).set e ([U e0.head,C.sl 3 [] 1 0 e0.next.length false,I e0.zj]),0⟩,⟨2,3,1,e0.next.map encI,0⟩].map (zL (jz [] H.length))=[⟨1,0,5,(vs.map zJ).set v ((encS v0.snap++[C.sl (H.length+1) [] 2 0 v0.zp.length false,Bo v0.qd])),0⟩,⟨1,0,2,(v0.zp.map zI).set g ([U g0.zx,C.sl (H.length+2) [] 3 0 g0.ends.length false]),0⟩,⟨1,0,3,(g0.ends.map zF).set e ([U e0.head,C.sl (H.length+3) [] 1 0 e0.next.length false,I e0.zj]),0⟩,⟨2,3,1,e0.next.map encI,0⟩]:=by
  show zL _ ⟨1,0,5,_,0⟩::zL _ ⟨1,0,2,_,0⟩::zL _ ⟨1,0,3,_,0⟩::_=_;rw[zH (enc:=zJ) (λ_=>O),zH (enc:=zI) (λ_=>O),zH (enc:=zF) (λ_=>O)]
  rfl
 rw[e9]at this;exact gh
def EH(l:List (List Int))(hl:l.length<1000000000)(hp:∀x∈l,tp 203 [] [.agg [],lU x] (lU x) []):tp 202 [] [mQ l,.fn 203 [] [],.agg []] (.sl 0 [] 1 0 l.length false) [⟨2,212,1,l.map zT,0⟩]:=by
 have m1:(l.map zT).length=l.length:=pB ..;refine zc.zM (fn:=f202) func202 O (uH ?_);rw[m1];refine⟨rfl,aw,by show(24:Int)*_<=_;omega,aw,dd ?_⟩;rw[m1,toNat_cast];refine zW.seq l.length (λk=>((mQ l)::.fn 203 [] []::.za::.za::.za::.ref 0 [] 0 0 0::.lq 1 0 []::.sl 1 [] 1 0 l.length false::.za::.za::.za::.za::.za::(mQ l)::I l.length::I k::mF ([.za,.za,.za,.za,.za]))) (λk=>[⟨1,283,0,[[]],0⟩,⟨2,212,1,(l.map zT).take k++(List.replicate l.length ([.lq 1 0 []]:List C)).drop k,0⟩]) (λk=>True) ?_ trivial (λk hk hr=>?_) (λhr=>?_)
 ·exact cC
 ·obtain⟨x,hx⟩:∃x,x=l[k]:=⟨_,rfl⟩;have hx2:l[k]?=some x:=by rw[pa hk,hx]
  have hg:(l.map zT)[k]?=some (zT x):=by rw[pj,hx2];rfl
  conv=>whnf
  refine uF ?_;(refine tj hg ?_)
  refine ah (hp x tK) ?_;refine⟨aw,aA,dd ?_⟩;have e1:0+(k:Int).toNat=k:=aj
  rw[e1];refine⟨_,xO aj hk,rfl,dd ?_⟩;refine .inl ⟨rfl,?_,trivial⟩;have e2:=jB (z:=([.lq 1 0 []]:List C)) (n:=l.length) hg hk;rw[zy aw,<-e2];exact cE 2
 ·exact dR
def zsK(r0:List Int)(x:Int)(l:List Int)(he:r0=x::l)(hl:l.length<1000000000):tp 203 [] [.agg [],lU r0] (.sl 0 [] 1 0 r0.length false) [⟨2,48,1,r0.map xy,0⟩]:=by
 have h1:tp 203 [] [.agg [],lU r0] (.sl 1 [] 1 0 r0.length false) [⟨1,283,0,[[]],0⟩,⟨2,48,1,r0.map xy,0⟩]:=by
  have hc:=zwX x l hl;rw[<-he]at hc;refine zc.zM (fn:=f203) func203 O (uH ?_);refine af [] (hc) ?_;exact uJ
 exact h1.B4 (λB h _=>zt.lQ [1] [0] _ _ tN O O O) (rk _)
def zyK(r0:List Int)(x:Int)(l:List Int)(he:r0=x::l)(hl:l.length<1000000000)(H:zo)(hf:qC H=true):tp 203 H [.agg [],lU r0] (.sl H.length [] 1 0 r0.length false) (H++[⟨2,48,1,r0.map xy,0⟩]):=
 D1 (zsK r0 x l he hl) O O H hf
def Fx{P:Program}{f:FuncId}{fn:Func}{c:Code}{H2:zo}{args:List C}{r:C}(hf:P.funcs[f]?=some fn)(hb:fn.body=some c)
 (h:wpA P 0 c (entry fn args) [] λex t1 H1=>(ex=.ret\/ex=.normal)/\∃s2 r1,zt 0 ⟨t1,H1⟩ s2/\kJ P fn s2=some r1/\zt 0 ⟨[r1],s2.H⟩ ⟨[r],H2⟩):zc P f [] args r H2:=λw E vs hh hl=>by
 have h1:qF P f [] args λr1 H1=>zt 0 ⟨[r1],H1⟩ ⟨[r],H2⟩:=qF.zM hf hb h
 refine(h1 w E vs hh hl).mono ?_;rintro e w' ⟨r1,H1,v,E',hw,h0,h2,h3,g⟩;obtain⟨E2,hs,g2⟩:=hw 0 w' E' ⟨#[v],[]⟩ ⟨h2,LL.one h3,rk _,rk _⟩;have hn2:=hs.heap.n;have hn0:E.n=0:=hh.n;refine⟨v,E2,h0,hs.heap,hs.tmps.cons_inv.1,⟨⟨by rw[hn0];exact rk _,λid hops hi=>by rw[hn0]at hi;omega,λid hops hi=>by rw[hn0]at hi;omega,λb o u hu=>g2.le.St _ _ _ (g.le.St _ _ _ hu),λid k u hi hu=>by rw[hn0]at hi;omega⟩,g2.os.trans g.os,g2.tape.trans g.tape,g2.output.trans g.output,rB g.size g2.size,?_,?_,?_⟩⟩
 ·intro k hk ho;exact dI
 ·intro b o u hu;rcases g2.xv b o u hu with h1|h1|h1
  ·exact g.xv b o u h1
  ·exact .inr (.inl (rB g.size h1))
  ·rcases g.own b h1 with h4|h4
   ·exact .inr (.inl h4)
   ·exact .inr (.inr h4)
 ·intro b hb;rcases g2.own b hb with h1|h1
  ·exact .inl (rB g.size h1)
  ·exact g.own b h1
def qP(w:Wor)(h:jF w):tp 152 [] [Cw w] (Cw w) []:=by
 refine ab func152 ?_;refine ah (k8 w.pins h.pins) ?_;refine af [] (EI w.zd h.zd.1 λv hv=>xr v (h.zd.2 v hv)) ?_;refine ah (Ex w.zf h.zf) ?_;refine af [] (EH w.counts h.counts.1 λr hr=>vg r (h.counts.2 r hr)) ?_;refine ah (Gu w.zr h.zr) ?_;exact⟨.inl O,_,(zt.qa 1 0 4 O O O O (.inr O) O aj (shut_map (enc:=zJ) (λ_=>O) w.zd) (qk O)).trans (zt.qa 1 0 6 O O O O (.inr O) O aj (shut_map (enc:=zT) (λ_=>O) w.counts) (qk O)),rfl⟩
def zxa(l:List (List Int))(t:Nat)(r0:(List Int))(hv:l[t]?=some r0)(hl:l.length<1000000000)(hp:∀x∈l,tp 203 [] [.agg [],lU x] (lU x) [])
 (hA:∀H,qC H=true->tp 203 H [.agg [],lU r0] (.sl H.length [] 1 0 r0.length false) (H++[⟨2,48,1,r0.map xy,0⟩])):
  tp 202 [] [mQ l,.fn 203 [] [],.agg []] (.sl 0 [] 1 0 l.length false) [⟨1,0,1,(l.map zT).set t ([C.sl 1 [] 1 0 r0.length false]),0⟩,⟨2,48,1,r0.map xy,0⟩]:=by
 have m1:(l.map zT).length=l.length:=pB ..;have hvl:=(gZ.1 hv).1
 have h1:tp 202 [] [mQ l,.fn 203 [] [],.agg []] (.sl 1 [] 1 0 l.length false) [⟨1,283,0,[[]],0⟩,⟨1,0,1,(l.map zT).set t ([C.sl 2 [] 1 0 r0.length false]),0⟩,⟨2,48,1,r0.map xy,0⟩]:=by
  refine zc.zM (fn:=f202) func202 O (uH ?_);rw[m1];refine⟨rfl,aw,by show(24:Int)*_<=_;omega,aw,dd ?_⟩;rw[m1,toNat_cast];have ZZ:List C:=([.lq 1 0 []]:List C);refine zW.seq l.length (λk=>((mQ l)::.fn 203 [] []::.za::.za::.za::.ref 0 [] 0 0 0::.lq 1 0 []::.sl 1 [] 1 0 l.length false::.za::.za::.za::.za::.za::(mQ l)::I l.length::I k::mF ([.za,.za,.za,.za,.za]))) (λk=>if k<=t then [⟨1,283,0,[[]],0⟩,⟨1,0,1,((l.map zT).set t ([C.sl 2 [] 1 0 r0.length false])).take k++(List.replicate l.length ([.lq 1 0 []]:List C)).drop k,0⟩] else [⟨1,283,0,[[]],0⟩,⟨1,0,1,((l.map zT).set t ([C.sl 2 [] 1 0 r0.length false])).take k++(List.replicate l.length ([.lq 1 0 []]:List C)).drop k,0⟩,⟨2,48,1,r0.map xy,0⟩]) (λk=>True) ?_ trivial (λk hk hr=>?_) (λhr=>?_)
  ·rw[pA (rk _)];refine zt.trans (zt.GR 1 O λr hr c hc=>?_) (cC);rw[rM hr]at hc;exact pH.1 (rfl:([.lq 1 0 []]:List C).all zB=true) c hc
  ·obtain⟨x,hx⟩:∃x,x=l[k]:=⟨_,rfl⟩;have hx2:l[k]?=some x:=by rw[pa hk,hx]
   have hxm:x∈l:=bQ
   have hg:(l.map zT)[k]?=some (zT x):=by rw[pj,hx2];rfl
   have e1:0+(k:Int).toNat=k:=aj
   have low:∀n j,j<=t\/2<n->∀r∈((l.map zT).set t ([C.sl 2 [] 1 0 r0.length false])).take j++(List.replicate l.length ([.lq 1 0 []]:List C)).drop j,∀c∈r,jv n 9 c=true:=λn j h=>Ey (enc:=zT) (λ_=>O) O l l.length (h.imp_right λh=>by simp[jv,encS];omega)
   have own:∀j,∀r∈((l.map zT).set t ([C.sl 2 [] 1 0 r0.length false])).take j++(List.replicate l.length ([.lq 1 0 []]:List C)).drop j,∀c∈r,zB c=true:=λj=>Ey (enc:=zT) (λ_=>O) O l l.length (.inr O)
   by_cases hkv:k=t
   ·subst hkv;obtain rfl:r0=x:=by rw[hv]at hx2;exact pz hx2
    have hF:((l.map zT).set k ([C.sl 2 [] 1 0 r0.length false]))[k]?=some ([C.sl 2 [] 1 0 r0.length false]):=by rw[pK,pA O,pA (aq hk)]
    rw[pA (pI _),pw aw];conv=>whnf
    refine uF ?_;(refine tj hg ?_)
    refine⟨_,_,hA _ (ze O (zl (own k))),dd ?_⟩;exact dG
   ·have hF:((l.map zT).set t ([C.sl 2 [] 1 0 r0.length false]))[k]?=some (zT x):=by rw[pX (λh=>hkv h.symm)];exact hg
    by_cases lu:k<t
    ·rw[pA aw,pA aw];conv=>whnf
     refine uF ?_;(refine tj hg ?_)
     refine ah (hp x hxm) ?_;refine⟨aw,aA,dd ?_⟩;rw[e1];refine⟨_,xO aj hk,rfl,dd ?_⟩;refine .inl ⟨rfl,?_,trivial⟩;rw[zy aw,<-jB hF hk];refine zt.yi 2 tc O O O (xz O (vn ?_)) O;have lw:=low 2 (k+1) (.inl aw);rw[<-jB (z:=([.lq 1 0 []]:List C)) (n:=l.length) hF hk]at lw;exact lw
    ·rw[pw aw,pw aw];conv=>whnf
     refine uF ?_;(refine tj hg ?_)
     refine ah (hp x hxm) ?_;refine⟨aw,aA,dd ?_⟩;rw[e1];refine⟨_,xO aj hk,rfl,dd ?_⟩;refine .inl ⟨rfl,?_,trivial⟩;rw[zy aw,<-jB hF hk];refine zt.yi 3 tc O O O (xz O (xz (vn ?_) O)) O;have lw:=low 3 (k+1) (.inr aw);rw[<-jB (z:=([.lq 1 0 []]:List C)) (n:=l.length) hF hk]at lw;exact lw
  ·exact gY
 refine h1.B4 (λB h _=>?_) (rk _);have hw:=zt.lQ (B:=B) [1,2] [0] [.sl 1 [] 1 0 l.length false] [⟨1,283,0,[[]],0⟩,⟨1,0,1,(l.map zT).set t ([C.sl 2 [] 1 0 r0.length false]),0⟩,⟨2,48,1,r0.map xy,0⟩] tN O O (ze O (ze (zl (zC (enc:=zT) (λ_=>O) O l t)) O))
 have e:x7 [1,2] [⟨1,283,0,[[]],0⟩,⟨1,0,1,(l.map zT).set t ([C.sl 2 [] 1 0 r0.length false]),0⟩,⟨2,48,1,r0.map xy,0⟩]=[⟨1,0,1,(l.map zT).set t ([C.sl 1 [] 1 0 r0.length false]),0⟩,⟨2,48,1,r0.map xy,0⟩]:=by
  show zR [1,2] ⟨1,0,1,(l.map zT).set t ([C.sl 2 [] 1 0 r0.length false]),0⟩::_=_;rw[zN (enc:=zT) (λ_=>O)]
  rfl
 rw[e]at hw;exact hw
structure LM(cs:List (List Int))(t:Nat)(r0:List Int):Prop where
 sm:cs.length<1000000000/\∀r∈cs,r.length<1000000000
 at_:cs[t]?=some r0
 ne:r0≠[]
def zzV{cs:List (List Int)}{t:Nat}{r0:List Int}(h:LM cs t r0)(H:zo)(hf:qC H=true):tp 202 H [mQ cs,.fn 203 [] [],.agg []] (.sl H.length [] 1 0 cs.length false) (H++[⟨1,0,1,(cs.map zT).set t ([C.sl (H.length+1) [] 1 0 r0.length false]),0⟩,⟨2,48,1,r0.map xy,0⟩]):=by
 obtain⟨x,l,hx⟩:∃x l,r0=x::l:=by
  cases hh:r0 with
  |nil=>exact absurd hh h.ne
  |cons x l=>exact⟨x,l,rfl⟩
 have hlen:l.length<1000000000:=by
  have:=h.sm.2 r0 (pq h.at_);rw[hx]at this;exact dB
 have:=D1 (zxa cs t r0 h.at_ h.sm.1 (λy hy=>vg y (h.sm.2 y hy)) (zyK r0 x l hx hlen)) (ze (zl (zC (enc:=zT) (λ_=>O) O _ _)) O) O H hf
 have e9:[(⟨1,0,1,(cs.map zT).set t ([C.sl 1 [] 1 0 r0.length false]),0⟩:Ob),⟨2,48,1,r0.map xy,0⟩].map (zL (jz [] H.length))=[⟨1,0,1,(cs.map zT).set t ([C.sl (H.length+1) [] 1 0 r0.length false]),0⟩,⟨2,48,1,r0.map xy,0⟩]:=by
  show zL _ ⟨1,0,1,_,0⟩::_=_;rw[zH (enc:=zT) (λ_=>O)]
  rfl
 rw[e9]at this;exact gh
def RV(w:Wor)(h:jF w)(x:Int)(l:List Int)(hx:w.pins=x::l):tp 152 [] [Cw w] (.agg [I w.zn,I w.current,I w.lock,.sl 0 [] 1 0 w.pins.length false,lV w.zd,lL w.zf,mQ w.counts,lR w.zr]) [⟨2,3,1,w.pins.map encI,0⟩]:=by
 have hl:l.length<1000000000:=by have:=h.pins;rw[hx]at this;exact dB
 have hc:=UG x l hl;rw[<-hx]at hc;refine Fx (fn:=f152) func152 O (uH ?_);refine af [] (hc) ?_;refine af [] (EI w.zd h.zd.1 λv hv=>xr v (h.zd.2 v hv)) ?_;refine ah (Ex w.zf h.zf) ?_;refine af [] (EH w.counts h.counts.1 λr hr=>vg r (h.counts.2 r hr)) ?_;refine ah (Gu w.zr h.zr) ?_;refine⟨.inl O,_,_,(zt.qa 1 0 4 O O O O (.inr O) O aj (shut_map (enc:=zJ) (λ_=>O) w.zd) (qk O)).trans (zt.qa 1 0 6 O O O O (.inr O) O aj (shut_map (enc:=zT) (λ_=>O) w.counts) (qk O)),rfl,?_⟩;exact zt.lQ [3] [0] _ _ O O O (ze O (ze O (ze O (ze O (ze (zl λr hr c hc=>((shut_map (enc:=zJ) (λ_=>O) w.zd) r hr c hc).2) (zl λr hr c hc=>((shut_map (enc:=zT) (λ_=>O) w.counts) r hr c hc).2))))))
def Vr{B:Nat}(sel m:List Nat){t t2:List C}{H H2:zo}(hB:GQ B 0 sel=true)(qj:sel.all (λid=>Nat.blt id H.length)=true)(m8:yI sel=true)(mU:qC H=true)(et:(DD m 0 t).map (yq sel 9)=t2)(e:x7 sel H=H2):zt B ⟨t,H⟩ ⟨t2,H2⟩:=by
 subst et e;exact zt.lQ sel m t H hB qj m8 mU
def k9(w:Wor)(h:jF w)(x:mj)(l:List mj)(hx:w.zf=x::l):tp 152 [] [Cw w] (.agg [I w.zn,I w.current,I w.lock,lI w.pins,lV w.zd,.sl 0 [] 4 0 w.zf.length false,mQ w.counts,lR w.zr]) [⟨2,76,4,w.zf.map ji,0⟩]:=by
 have hl:l.length<1000000000:=by have:=h.zf;rw[hx]at this;exact dB
 have hc:=zwW x l hl;rw[<-hx]at hc;refine Fx (fn:=f152) func152 O (uH ?_);refine ah (k8 w.pins h.pins) ?_;refine af [] (EI w.zd h.zd.1 λv hv=>xr v (h.zd.2 v hv)) ?_;refine af [] (hc) ?_;refine af [] (EH w.counts h.counts.1 λr hr=>vg r (h.counts.2 r hr)) ?_;refine ah (Gu w.zr h.zr) ?_;refine⟨.inl O,_,_,(zt.qa 1 0 4 O O O O (.inr O) O aj (shut_map (enc:=zJ) (λ_=>O) w.zd) (qk O)).trans (zt.qa 1 0 6 O O O O (.inr O) O aj (shut_map (enc:=zT) (λ_=>O) w.counts) (qk O)),rfl,?_⟩;exact zt.lQ [4] [0] _ _ O O O (ze O (ze O (ze O (ze (zl λr hr c hc=>((shut_map (enc:=zJ) (λ_=>O) w.zd) r hr c hc).2) (ze O (zl λr hr c hc=>((shut_map (enc:=zT) (λ_=>O) w.counts) r hr c hc).2))))))
def RU(w:Wor)(h:jF w)(cs:List (List Int))(hcs:w.counts=cs){t:Nat}{r0:List Int}(hp:LM cs t r0):tp 152 [] [Cw w] (.agg [I w.zn,I w.current,I w.lock,lI w.pins,lV w.zd,lL w.zf,.sl 0 [] 1 0 cs.length false,lR w.zr]) [⟨1,0,1,(cs.map zT).set t ([C.sl 1 [] 1 0 r0.length false]),0⟩,⟨2,48,1,r0.map xy,0⟩]:=by
 subst hcs;have own:∀i,∀r∈(w.counts.map zT).set t ([C.sl i [] 1 0 r0.length false]),∀c∈r,zB c=true:=λi=>zC (enc:=zT) (λ_=>O) O _ _
 refine Fx (fn:=f152) func152 O (uH ?_);refine ah (k8 w.pins h.pins) ?_;refine af [] (EI w.zd h.zd.1 λv hv=>xr v (h.zd.2 v hv)) ?_;refine ah (Ex w.zf h.zf) ?_;refine⟨_,_,zzV hp _ (ze O (ze O (ze O O))),dd ?_⟩;refine ah (Gu w.zr h.zr) ?_;refine⟨.inl O,_,_,zt.qa 1 0 4 O O O O (.inr O) O aj (shut_map (enc:=zJ) (λ_=>O) w.zd) (qk O),rfl,?_⟩;refine Vr [4,5] [0] O O O (ze O (ze O (ze O (ze (zl λr hr c hc=>((shut_map (enc:=zJ) (λ_=>O) w.zd) r hr c hc).2) (ze (zl (own 5)) O))))) O ?_;show zR [4,5] ⟨1,0,1,(w.counts.map zT).set t ([C.sl 5 [] 1 0 r0.length false]),0⟩::_=_;rw[zN (enc:=zT) (λ_=>O)]
 rfl
def zzQ(w:Wor)(h:jF w)(H:zo)(hf:qC H=true):tp 202 H [mQ w.counts,.fn 203 [] [],.agg []] (.sl H.length [] 1 0 w.counts.length false) (H++[⟨2,212,1,w.counts.map zT,0⟩]):=
 D1 (EH w.counts h.counts.1 λr hr=>vg r (h.counts.2 r hr)) O O H hf
def vU(w:Wor)(h:jF w)(vs:List lJ)(hvs:w.zd=vs){v:Nat}{v0:lJ}{g:Nat}{g0:Gr}{e:Nat}{e0:En}(hp:EW vs v v0 g g0 e e0):tp 152 [] [Cw w] (.agg [I w.zn,I w.current,I w.lock,lI w.pins,.sl 0 [] 5 0 vs.length false,lL w.zf,mQ w.counts,lR w.zr]) [⟨1,0,5,(vs.map zJ).set v ((encS v0.snap++[C.sl 1 [] 2 0 v0.zp.length false,Bo v0.qd])),0⟩,⟨1,0,2,(v0.zp.map zI).set g ([U g0.zx,C.sl 2 [] 3 0 g0.ends.length false]),0⟩,⟨1,0,3,(g0.ends.map zF).set e ([U e0.head,C.sl 3 [] 1 0 e0.next.length false,I e0.zj]),0⟩,⟨2,3,1,e0.next.map encI,0⟩]:=by
 subst hvs;have own:∀i,∀r∈(w.zd.map zJ).set v ((encS v0.snap++[C.sl i [] 2 0 v0.zp.length false,Bo v0.qd])),∀c∈r,zB c=true:=λi=>zC (enc:=zJ) (λ_=>O) O _ _
 refine Fx (fn:=f152) func152 O (uH ?_);refine ah (k8 w.pins h.pins) ?_;refine⟨_,_,zzW hp _ O,dd ?_⟩;refine ah (Ex w.zf h.zf) ?_;refine⟨_,_,zzQ w h _ (ze O (ze O (ze O (ze (zl (own 4)) (ze (zl (zC (enc:=zI) (λ_=>O) O _ _)) (ze (zl (zC (enc:=zF) (λ_=>O) O _ _)) O)))))),dd ?_⟩;refine ah (Gu w.zr h.zr) ?_;refine⟨.inl O,_,_,zt.qa 1 0 6 O O O O (.inr O) O aj (shut_map (enc:=zT) (λ_=>O) w.counts) (qk O),rfl,?_⟩;refine Vr [3,4,5,6] [0] O O O (ze O (ze O (ze O (ze (zl (own 4)) (ze (zl (zC (enc:=zI) (λ_=>O) O _ _)) (ze (zl (zC (enc:=zF) (λ_=>O) O _ _)) (ze O (zl λr hr c hc=>((shut_map (enc:=zT) (λ_=>O) w.counts) r hr c hc).2)))))))) O ?_;show zR [3,4,5,6] ⟨1,0,5,(w.zd.map zJ).set v ((encS v0.snap++[C.sl 4 [] 2 0 v0.zp.length false,Bo v0.qd])),0⟩::zR [3,4,5,6] ⟨1,0,2,(v0.zp.map zI).set g ([U g0.zx,C.sl 5 [] 3 0 g0.ends.length false]),0⟩::zR [3,4,5,6] ⟨1,0,3,(g0.ends.map zF).set e ([U e0.head,C.sl 6 [] 1 0 e0.next.length false,I e0.zj]),0⟩::_=_;rw[zN (enc:=zJ) (λ_=>O),zN (enc:=zI) (λ_=>O),zN (enc:=zF) (λ_=>O)]
 rfl
def oK(i n:Int):Bool:=decide (0<=i) && decide (i<n)
def Fk(i n:Int):tp 183 [] [I i,I n] (Bo (oK i n)) []:=by
 refine ab func183 ?_;refine⟨λh1=>?_,λh1=>?_⟩
 ·refine dd ?_;refine⟨λh2=>?_,λh2=>?_⟩
  ·refine dd ?_
   (exact⟨.inl O,_,.refl _,uN (by unfold oK;simp at h1 h2 ⊢;omega)⟩)
  ·refine dd ?_
   (exact⟨.inl O,_,.refl _,uN (by unfold oK;simp at h1 h2 ⊢;omega)⟩)
 ·refine dd ?_
  (exact⟨.inl O,_,.refl _,uN (by unfold oK;simp at h1 ⊢;omega)⟩)
def Nt{H:zo}{f:FuncId}{caps:List C}{l:List Int}(p:Int->Bool)(hcb:qw prog f=true)(hp:∀r∈l,tp f H ([I r]++caps) (Bo (p r)) H)(hl:l.length<4611686018427387904):
  tp 71 H [lI l,.fn f [] caps] (I (match l.findIdx? p with|some i=>(i:Int)|none=> -1)) H:=by
 refine zc.zM (fn:=f71) func71 O (uH ?_)
 refine zW.inv (λn t1 H1=>∃k,k+n=l.length/\H1=H/\(∀j,j<k->∀r,l[j]?=some r->p r=false)/\
   t1=((lI l)::.fn f [] caps::.za::.za::I 0::.za::.za::I (l.map encI).length::I k::mF ([.za,.za]))) l.length ?_ ?_
 ·exact dC
 rintro n _ _ ⟨k,hk,rfl,hno,rfl⟩;conv=>whnf
 refine⟨λh=>?_,λh=>?_⟩
 ·conv=>whnf
  have lu:k<l.length:=aq h
  refine⟨aw,encI l[k],aY,uH ?_⟩;rw[hcb];refine⟨_,_,hp _ (pY lu),uH ?_⟩;refine⟨λh2=>?_,λh2=>?_⟩
  ·conv=>whnf
   refine .inr ⟨aj,uH ?_⟩;refine⟨.inl O,_,.refl _,rfl,?_⟩
   have:l.findIdx? p=some k:=by
    rw[pO];refine⟨lu,h2,λj hj=>?_⟩;simp[hno j hj _ (pa aw)]
   rw[this]
   rfl
  ·conv=>whnf
   refine .inl ⟨rfl,n-1,_,_,aw,zt.mask [0,1,4,7,8] _ _,k+1,aw,rfl,?_,?_⟩
   ·intro j hj r hr;by_cases hjk:j=k
    ·subst hjk;rw[pa lu]at hr;cases hr
     exact h2
    ·exact hno j aw r hr
   ·rw[zy aw];rfl
 ·conv=>whnf
  refine .inr ⟨aj,uH ?_⟩;refine⟨.inl O,_,.refl _,rfl,?_⟩
  have:l.findIdx? p=none:=by
   rw[pW];intro x hx;obtain⟨j,hj⟩:=pJ.1 hx;have hjl:=(gZ.1 hj).1;have:¬k<l.length:=aq h
   exact hno j aw x hj
  rw[this]
  rfl
def JZ{H:zo}{f:FuncId}{caps:List C}{l:List Int}(p:Int->Bool)(hcb:qw prog f=true)(hp:∀r∈l,tp f H ([I r]++caps) (Bo (p r)) H)(hl:l.length<4611686018427387904):
  tp 80 H [lI l,.fn f [] caps] (Bo (l.any p)) H:=by
 refine zc.zM (fn:=f80) func80 O (uH ?_);refine⟨_,_,Nt p hcb hp hl,dd ?_⟩;rw[show decide ((match l.findIdx? p with|some i=>((i:Nat):Int)|none=>(-1:Int))≥(0:Int))=l.any p from Fp l p];refine⟨λh=>?_,λh=>?_⟩ <;> rw[h]
 ·exact dN
 ·exact dN
def zrQ{H:zo}{f:FuncId}{caps:List C}{l:List En}(p:En->Bool)(hcb:qw prog f=true)(hp:∀r∈l,tp f H ([Go.Slp.Ev r]++caps) (Bo (p r)) H)(hl:l.length<4611686018427387904):
  tp 258 H [lE l,.fn f [] caps] (I (match l.findIdx? p with|some i=>(i:Int)|none=> -1)) H:=by
 refine zc.zM (fn:=f258) func258 O (uH ?_)
 refine zW.inv (λn t1 H1=>∃k,k+n=l.length/\H1=H/\(∀j,j<k->∀r,l[j]?=some r->p r=false)/\
   t1=((lE l)::.fn f [] caps::.za::.za::I 0::.za::.za::I (l.map zF).length::I k::mF ([.za,.za]))) l.length ?_ ?_
 ·exact dC
 rintro n _ _ ⟨k,hk,rfl,hno,rfl⟩;conv=>whnf
 refine⟨λh=>?_,λh=>?_⟩
 ·conv=>whnf
  have lu:k<l.length:=aq h
  refine⟨aw,zF l[k],aY,uH ?_⟩;rw[hcb];refine⟨_,_,hp _ (pY lu),uH ?_⟩;refine⟨λh2=>?_,λh2=>?_⟩
  ·conv=>whnf
   refine .inr ⟨aj,uH ?_⟩;refine⟨.inl O,_,.refl _,rfl,?_⟩
   have:l.findIdx? p=some k:=by
    rw[pO];refine⟨lu,h2,λj hj=>?_⟩;simp[hno j hj _ (pa aw)]
   rw[this]
   rfl
  ·conv=>whnf
   refine .inl ⟨rfl,n-1,_,_,aw,zt.mask [0,1,4,7,8] _ _,k+1,aw,rfl,?_,?_⟩
   ·intro j hj r hr;by_cases hjk:j=k
    ·subst hjk;rw[pa lu]at hr;cases hr
     exact h2
    ·exact hno j aw r hr
   ·rw[zy aw];rfl
 ·conv=>whnf
  refine .inr ⟨aj,uH ?_⟩;refine⟨.inl O,_,.refl _,rfl,?_⟩
  have:l.findIdx? p=none:=by
   rw[pW];intro x hx;obtain⟨j,hj⟩:=pJ.1 hx;have hjl:=(gZ.1 hj).1;have:¬k<l.length:=aq h
   exact hno j aw x hj
  rw[this]
  rfl
def zre{H:zo}{f:FuncId}{caps:List C}{l:List En}(p:En->Bool)(hcb:qw prog f=true)(hp:∀r∈l,tp f H ([Go.Slp.Ev r]++caps) (Bo (p r)) H)(hl:l.length<4611686018427387904):
  tp 252 H [lE l,.fn f [] caps] (Bo (l.any p)) H:=by
 refine zc.zM (fn:=f252) func252 O (uH ?_);refine⟨_,_,zrQ p hcb hp hl,dd ?_⟩;rw[show decide ((match l.findIdx? p with|some i=>((i:Nat):Int)|none=>(-1:Int))≥(0:Int))=l.any p from Fp l p];refine⟨λh=>?_,λh=>?_⟩ <;> rw[h]
 ·exact dN
 ·exact dN
def Dz(ep p:Int):Bool:=decide (p<0) || decide (p > ep+1)
def zli(w:Wor)(p:Int)(h0:0<=w.zn)(h1:w.zn<=1000000000000):tp 249 [oW w] ([I p]++[.ref 0 [] 8 0 0]) (Bo (Dz w.zn p)) [oW w]:=by
 have e:IntKind.i64.wrap (w.zn+1)=w.zn+1:=qi aw aw;refine zc.zM (fn:=f249) func249 O (uH ?_);refine⟨λh2=>?_,λh2=>?_⟩
 ·refine dd ?_;exact⟨.inl O,_,.refl _,rfl,uN (by unfold Dz;rw[h2];rfl)⟩
 ·refine dd ?_;rw[e];refine⟨λh3=>?_,λh3=>?_⟩
  ·refine dd ?_;exact⟨.inl O,_,.refl _,rfl,uN (by unfold Dz;rw[h2,h3];rfl)⟩
  ·refine dd ?_;exact⟨.inl O,_,.refl _,rfl,uN (by unfold Dz;rw[h2,h3];rfl)⟩
def xH(w:Wor):Bool:=decide (1<=w.pins.length) && decide (w.pins.length<=8) && decide (w.counts.length=w.pins.length) && Fw w.counts && decide (0<=w.zn) && decide (w.zn<=1000000000000) && (decide (w.lock=0) || decide (w.lock=1)) && !w.pins.any (Dz w.zn)
def znj(w:Wor)(hp:w.pins.length<4000000000000000000)(hc:w.counts.length<4000000000000000000):tp 226 [] [Cw w] (Bo (xH w)) []:=by
 have m1:(w.pins.map encI).length=w.pins.length:=pB ..;have m2:(w.counts.map zT).length=w.counts.length:=pB ..;refine ab func226 ?_;rw[m1];refine⟨λh1=>?_,λh1=>?_⟩
 ·(have e:xH w=false:=by (unfold xH;(rw[show decide (1<=w.pins.length)=false from by rw[rL];have:=pF h1;omega]);simp));exact gU
 refine dd ?_;refine⟨λh2=>?_,λh2=>?_⟩
 ·(have e:xH w=false:=by (unfold xH;(rw[show decide (w.pins.length<=8)=false from cZ]);simp));exact gU
 refine dd ?_;rw[m2];refine⟨λh3=>?_,λh3=>?_⟩
 ·(have e:xH w=false:=by (unfold xH;(rw[show decide (w.counts.length=w.pins.length)=false from by rw[rL];intro hh;simp[hh]at h3]);simp));exact gU
 refine dd ?_;refine ah (zlt w.counts hc) ?_;refine⟨λh4=>?_,λh4=>?_⟩
 rotate_left
 ·(have e:xH w=false:=by (unfold xH;(rw[h4]);simp));exact gU
 refine dd ?_;refine⟨λh5=>?_,λh5=>?_⟩
 ·(have e:xH w=false:=by (unfold xH;(rw[show decide (0<=w.zn)=false from by simp at h5 ⊢;omega]);simp));exact gU
 refine dd ?_;refine⟨λh6=>?_,λh6=>?_⟩
 ·(have e:xH w=false:=by (unfold xH;(rw[show decide (w.zn<=1000000000000)=false from by simp at h6 ⊢;omega]);simp));exact gU
 refine dd ?_;have b0:0<=w.zn:=by simp at h5;omega
 have b1:w.zn<=1000000000000:=by simp at h6;omega
 have hcon:=JZ (H:=[oW w]) (f:=249) (l:=w.pins) (caps:=[.ref 0 [] 8 0 0]) (Dz w.zn) au (λr _=>zli w r b0 b1) aw
 have g0:xH w=((decide (w.lock=0) || decide (w.lock=1)) && !w.pins.any (Dz w.zn)):=by
  have h3':w.counts.length=w.pins.length:=by simp at h3;omega
  unfold xH;rw[show decide (1<=w.pins.length)=true from by rw[decide_eq_true_iff];have:=sK h1;omega,show decide (w.pins.length<=8)=true from cZ,show decide (w.counts.length=w.pins.length)=true from aq h3',h4,show decide (0<=w.zn)=true from aq b0,show decide (w.zn<=1000000000000)=true from aq b1]
  rfl
 have fin:∀hl:(decide (w.lock=0) || decide (w.lock=1))=true,xH w=!w.pins.any (Dz w.zn):=λhl=>by rw[g0,hl];rfl
 refine⟨λh7=>?_,λh7=>?_⟩
 ·refine dd ?_;refine⟨λh8=>?_,λh8=>?_⟩
  ·have e:xH w=false:=by rw[g0,show(decide (w.lock=0) || decide (w.lock=1))=false from by simp at h7 h8 ⊢;omega];rfl
   rw[e];refine dd ?_;refine tf ?_
   exact uI
  rw[fin (by simp at h8 ⊢;omega)];refine dd ?_;refine tf ?_
  refine af [0] (hcon) ?_;refine⟨λh9=>?_,λh9=>?_⟩
  ·refine dd ?_
   (exact⟨.inl O,_,.refl _,uN (by rw[h9];rfl)⟩)
  ·refine dd ?_
   (exact⟨.inl O,_,.refl _,uN (by rw[h9];rfl)⟩)
 ·rw[fin (by simp at h7 ⊢;omega)];refine dd ?_;refine tf ?_
  refine af [0] (hcon) ?_;refine⟨λh9=>?_,λh9=>?_⟩
  ·refine dd ?_
   (exact⟨.inl O,_,.refl _,uN (by rw[h9];rfl)⟩)
  ·refine dd ?_
   (exact⟨.inl O,_,.refl _,uN (by rw[h9];rfl)⟩)
def D2(x:mG)(e:En):Bool:=!Go.Slp.mq e || (e.next.length:Int) != x.yP
def zk0(x:mG)(e:En)(he:e.ok):tp 251 [oC x] ([Go.Slp.Ev e]++[.ref 0 [] 4 0 0]) (Bo (D2 x e)) [oC x]:=by
 have m1:(e.next.map encI).length=e.next.length:=pB ..;refine zc.zM (fn:=f251) func251 O (uH ?_);refine ah (Go.Slp.Gi e he) ?_;refine⟨λh1=>?_,λh1=>?_⟩
 rotate_left
 ·refine dd ?_;exact⟨.inl O,_,zt.keep [3] 1 _ _ O O O O,rfl,uN (by unfold D2;rw[h1];rfl)⟩
 ·refine dd ?_;rw[m1];refine⟨λh2=>?_,λh2=>?_⟩
  ·refine dd ?_;exact⟨.inl O,_,zt.keep [3] 1 _ _ O O O O,rfl,uN (by unfold D2;rw[h1,h2];rfl)⟩
  ·refine dd ?_;exact⟨.inl O,_,zt.keep [3] 1 _ _ O O O O,rfl,uN (by unfold D2;rw[h1,h2];rfl)⟩
structure Qe(v:lJ):Prop where
 snap:Dx v.snap
 zp:v.zp.length<1000000000000
 ends : ∀g∈v.zp, g.ends.length<1000000000000 /\ ∀e∈g.ends, e.ok
def EY(v:lJ)(i:Nat):Bool:=match v.zp[i]?,v.snap.zm[i]? with
 |some g,some x=>decide (g.ends.length=x.zE.length) && !g.ends.any (D2 x)
 |_,_=>true
def B3(v:lJ):Bool:=kq v.snap && decide (v.zp.length=v.snap.zm.length) && (List.range v.zp.length).all (EY v)
def MU(v:lJ)(hv:Qe v):tp 228 [] [Cv v] (Bo (B3 v)) []:=by
 have m1:(v.zp.map zI).length=v.zp.length:=pB ..;have m2:(v.snap.zm.map y6).length=v.snap.zm.length:=pB ..;have hgl:=hv.zp;refine ab func228 ?_;refine ah (RP v.snap hv.snap) ?_;refine⟨λh1=>?_,λh1=>?_⟩
 rotate_left
 ·have e:B3 v=false:=by unfold B3;rw[h1];rfl
  rw[e];refine dd ?_;refine tf ?_
  exact uI
 refine dd ?_;rw[m1,m2];refine⟨λh2=>?_,λh2=>?_⟩
 ·have e:B3 v=false:=by unfold B3;rw[show decide (v.zp.length=v.snap.zm.length)=false from by rw[rL];intro hh;simp[hh]at h2,eQ];rfl
  rw[e];refine dd ?_;refine tf ?_
  exact uI
 have h2':v.zp.length=v.snap.zm.length:=aZ
 refine dd ?_;refine tf ?_
 rw[m1];refine zW.seq v.zp.length (λk=>(.za::.ref 0 [] 5 0 0::Bo false::mF (mF (.za::.za::.za::(lG v.zp)::I v.zp.length::I k::mF (mF (mF ([.za]))))))) (λk=>[⟨1,69,5,[zJ v],0⟩]) (λk=>∀j,j<k->EY v j=true) ?_ aj (λk hk hr=>?_) (λhr=>?_)
 ·exact cC
 ·obtain⟨g,hg⟩:∃g,g=v.zp[k]:=⟨_,rfl⟩;obtain⟨x,hx⟩:∃x,x=v.snap.zm[k]'aw:=⟨_,rfl⟩;have gg:(v.zp.map zI)[k]?=some (zI g):=by rw[pj,pa hk,hg];rfl
  have gx:(v.snap.zm.map y6)[k]?=some (y6 x):=by rw[pj,pa aw,hx];rfl
  have hgm:g∈v.zp:=by rw[hg];exact pY hk
  have me:(g.ends.map zF).length=g.ends.length:=pB ..;have mh:(x.zE.map kX).length=x.zE.length:=pB ..
  have hd:EY v k=(decide (g.ends.length=x.zE.length) && !g.ends.any (D2 x)):=by
   unfold EY;rw[pa hk,pa aw,<-hg,<-hx]
  have bad:EY v k=false->B3 v=false:=λh=>by
   have:(List.range v.zp.length).all (EY v)=false:=by rw[eM];exact⟨k,aq hk,aI⟩
   unfold B3;rw[this,eQ]
  have hcon:=zre (H:=[oC x]) (f:=251) (l:=g.ends) (caps:=[.ref 0 [] 4 0 0]) (D2 x) au (λr hr=>zk0 x r ((hv.ends g hgm).2 r hr)) (by have:=(hv.ends g hgm).1;omega);conv=>whnf
  refine uF ?_;(refine tj gg ?_)
  (refine tj gx ?_)
  rw[me,mh];refine⟨λh3=>?_,λh3=>?_⟩
  ·rw[bad (by rw[hd,show decide (g.ends.length=x.zE.length)=false from by rw[rL];intro hh;simp[hh]at h3];rfl)];refine dd ?_;refine tf ?_
   (refine .inr ⟨aj,uH ?_⟩)
   exact uI
  refine dd ?_;refine af [2] (hcon) ?_;refine⟨λh4=>?_,λh4=>?_⟩
  ·rw[bad (by rw[hd,h4,iy,eQ])];refine dd ?_;refine tf ?_
   (refine .inr ⟨aj,uH ?_⟩)
   exact uI
  refine dd ?_;refine tf ?_
  refine .inl ⟨rfl,?_,λj hj=>?_⟩
  ·exact gA
  ·by_cases e:j=k
   ·subst e;rw[hd,h4];simp at h3 ⊢;omega
   ·exact hr j aw
 ·have e:B3 v=true:=by
   unfold B3;rw[h1,show decide (v.zp.length=v.snap.zm.length)=true from aq h2',ui,ui,pH]
   exactλi hi=>hr i (aq hi)
  rw[e];refine uD ?_;exact uI
def kj(l:List mw):List (Int×Value):=l.foldl (λm r=>yK m r.version (Value.bool r.gone)) []
def wG(l:List mw)(i:Int):Bool:=match ((jw (kj l) i).bind λj=>((kj l)[j]?).map (·.2):Option Value) with
 |some (.bool b)=>b
 |_=>false
def zv1{m:List (Int×Value)}(h:∀kv∈m,∃b,kv.2=Value.bool b)(k:Int)(b:Bool):∀kv∈yK m k (Value.bool b),∃b,kv.2=Value.bool b:=λkv hm=>by
 unfold yK at hm;split at hm
 ·rcases rC hm with hm|rfl
  ·exact h kv hm
  ·exact⟨b,rfl⟩
 ·rcases pV.1 hm with hm|hm
  ·exact h kv hm
  ·rw[pP.1 hm];exact⟨b,rfl⟩
def zrH(l:List mw):∀kv∈kj l,∃b,kv.2=Value.bool b:=by
 unfold kj
 suffices key:∀(l:List mw) (m:List (Int×Value)),(∀kv∈m,∃b,kv.2=Value.bool b)->∀kv∈l.foldl (λm r=>yK m r.version (Value.bool r.gone)) m,∃b,kv.2=Value.bool b from key l [] aj
 intro l
 induction l with
 |nil=>intro m h;exact h
 |cons r l ih=>intro m h;exact ih _ (zv1 h _ _)
def zxt(l:List mw)(i:Int):(((jw (kj l) i).bind λj=>((kj l)[j]?).map (·.2)).getD (Value.bool false))=Value.bool (wG l i):=by
 unfold wG;cases h:(jw (kj l) i).bind λj=>((kj l)[j]?).map (·.2) with
 |none=>rfl
 |some v=>
  obtain⟨j,_,hj⟩:=pN.1 h;obtain⟨kv,h1,rfl⟩:=pS.1 hj;obtain⟨b,hb⟩:=zrH l kv (pq h1);simp only[Option.getD_some];rw[hb]
def zuY(l:List mw){k:Nat}{r:mw}(h:l[k]?=some r):kj (l.take (k+1))=yK (kj (l.take k)) r.version (Value.bool r.gone):=by
 obtain⟨hk,rfl⟩:=gZ.1 h;unfold kj;rw[rS hk,eK]
 rfl
structure nk(w:Wor):Prop where
 pins:w.pins.length<1000000000000
 zd:w.zd.length<1000000000000/\∀v∈w.zd,Qe v
 zf:w.zf.length<1000000000000/\∀l∈w.zf,l.ok
 counts:w.counts.length<1000000000000/\∀r∈w.counts,r.length<1000000000000
 zr:w.zr.length<1000000000000
def vM(w:Wor)(r:mw):Bool:=decide (r.version≥(w.zd.length:Int)) || r.version == w.current || decide (r.at_ > w.zn)
def Df(w:Wor)(i:Nat):Bool:=match w.zd[i]? with
 |some v=>B3 v && (v.qd == wG w.zr i)
 |none=>true
def AK(w:Wor)(i:Nat):Bool:=match w.zf[i]? with
 |some l=>Go.Gat.mq l && decide (zD w.zf l.name=i)
 |none=>true
def yQ(w:Wor):Bool:=xH w && (decide (0<=w.current) && decide (w.current<w.zd.length)) && Go.Lim.mq w.zr && !w.zr.any (vM w) && (List.range w.zd.length).all (Df w) && (List.range w.zf.length).all (AK w)
def zlA(w:Wor)(hw:nk w):tp 182 [] [Cw w] (Bo (yQ w)) []:=by
 have m1:(w.zd.map zJ).length=w.zd.length:=pB ..;have m2:(w.zr.map yB).length=w.zr.length:=pB ..;have m3:(w.zf.map ji).length=w.zf.length:=pB ..;have b1:=hw.pins;have b2:=hw.zd.1;have b3:=hw.zf.1;have b4:=hw.counts.1;have b5:=hw.zr;refine ab func182 ?_;refine ah (znj w aw aw) ?_;refine⟨λh1=>?_,λh1=>?_⟩
 rotate_left
 ·(have e:yQ w=false:=by (unfold yQ;(rw[h1]);simp));exact gU
 refine dd ?_;refine⟨λh2=>?_,λh2=>?_⟩
 ·(have e:yQ w=false:=by (unfold yQ;(rw[show decide (0<=w.current)=false from cZ]);simp));exact gU
 refine dd ?_;rw[m1];refine⟨λh3=>?_,λh3=>?_⟩
 ·(have e:yQ w=false:=by (unfold yQ;(rw[show decide (w.current<w.zd.length)=false from by simp at h3 ⊢;omega]);simp));exact gU
 refine dd ?_;refine ah (Go.Lim.Gi (l:=w.zr) aw) ?_;refine⟨λh4=>?_,λh4=>?_⟩
 rotate_left
 ·(have e:yQ w=false:=by (unfold yQ;(rw[h4]);simp));exact gU
 refine dd ?_;refine tf ?_
 intro b;refine dd ?_;rw[m2]
 have g0:yQ w=(!w.zr.any (vM w) && (List.range w.zd.length).all (Df w) && (List.range w.zf.length).all (AK w)):=by
  unfold yQ;rw[h1,show decide (0<=w.current)=true from cZ,show decide (w.current<w.zd.length)=true from by simp at h3 ⊢;omega,h4]
  rfl
 refine zW.seq w.zr.length (λk=>(.za::.ref 0 [] 8 0 0::Bo false:: .v (.map (some b)):: .za::.za::.za::.za::.za::.za::mF (mF (mF (lR w.zr::I w.zr.length::I k:: .za::.za::.za::.za::.za::.za::mF (jp (mF (mF (mF ([])))))))))) (λk=>[oW w,mC b (jH zZ (kj (w.zr.take k))) (kj (w.zr.take k)).length]) (λk=>∀j,(h:j<w.zr.length)->j<k->vM w w.zr[j]=false) ?_ aj (λk hk hr=>?_) (λhr=>?_)
 ·exact cC
 ·obtain⟨r,hx⟩:∃r,r=w.zr[k]:=⟨_,rfl⟩;have hx2:w.zr[k]?=some r:=by rw[pa hk,hx]
  have hg:(w.zr.map yB)[k]?=some (yB r):=by rw[pj,hx2];rfl
  have bad:vM w r=true->yQ w=false:=λh=>by
   have:w.zr.any (vM w)=true:=sb.2 ⟨r,pq hx2,h⟩;rw[g0,this];rfl
  conv=>whnf
  refine uF ?_;(refine tj hg ?_)
  rw[m1];refine⟨λh5=>?_,λh5=>?_⟩
  ·(rw[bad (by unfold vM;rw[h5];rfl)]);refine dd ?_;refine tf ?_;(refine .inr ⟨aj,uH ?_⟩);exact uI
  refine dd ?_;refine⟨λh6=>?_,λh6=>?_⟩
  ·(rw[bad (by unfold vM;rw[h6,fZ];rfl)]);refine dd ?_;refine tf ?_;(refine .inr ⟨aj,uH ?_⟩);exact uI
  refine dd ?_;refine⟨λh7=>?_,λh7=>?_⟩
  ·(rw[bad (by unfold vM;rw[h7,fZ])]);refine dd ?_;refine tf ?_;(refine .inr ⟨aj,uH ?_⟩);exact uI
  refine dd ?_;refine tf ?_
  refine⟨λq=>?_,λq=>?_⟩
  all_goals
   refine dd ?_;refine⟨_,_,lS.mapUpdate (id:=1) _ _ _ _ (.inl O) underlying125 (oG.int underlying3) O O r.version (λE u h=>jo h) (.bool r.gone) (λE u h=>by rw[q];exact jo h),dd ?_⟩;refine .inl ⟨rfl,?_,λj hj hjk=>?_⟩
   ·rw[zy aw,<-zuY w.zr hx2];exact cE 2
   ·by_cases e:j=k
    ·subst e;rw[<-hx];unfold vM;rw[h5,h6,h7];rfl
    ·exact hr j hj aw
 have hl0:w.zr.any (vM w)=false:=by
  rw[rI];intro x hx;obtain⟨j,hj,rfl⟩:=rP.1 hx;simp[hr j hj hj]
 rw[rj];refine uD ?_;rw[m1];have g1:yQ w=((List.range w.zd.length).all (Df w) && (List.range w.zf.length).all (AK w)):=by rw[g0,hl0];rfl
 refine zW.seq w.zd.length (λk=>(.za::.ref 0 [] 8 0 0::Bo false:: .v (.map (some b)):: .za::.za::.za::.za::.za::.za::.za::mF (jp (mF (mF (lV w.zd::I w.zd.length::I k:: .za::.za::.za::.za::.za::mF (mF (mF (mF ([])))))))))) (λk=>[oW w,mC b (jH zZ (kj (w.zr))) (kj (w.zr)).length]) (λk=>∀j,j<k->Df w j=true) ?_ aj (λk hk hr=>?_) (λhr=>?_)
 ·exact cC
 ·obtain⟨v,hx⟩:∃v,v=w.zd[k]:=⟨_,rfl⟩;have hx2:w.zd[k]?=some v:=by rw[pa hk,hx]
  have hg:(w.zd.map zJ)[k]?=some (zJ v):=by rw[pj,hx2];rfl
  have hd:Df w k=(B3 v && (v.qd == wG w.zr k)):=by unfold Df;rw[hx2]
  have bad:Df w k=false->yQ w=false:=λh=>by
   have:(List.range w.zd.length).all (Df w)=false:=by rw[eM];exact⟨k,aq hk,aI⟩
   rw[g1,this];rfl
  conv=>whnf
  refine uF ?_;(refine tj hg ?_)
  refine ah (MU v (hw.zd.2 v (pq hx2))) ?_;refine⟨λh5=>?_,λh5=>?_⟩
  rotate_left
  ·(rw[bad (by rw[hd,h5];rfl)]);refine dd ?_;refine tf ?_;(refine .inr ⟨aj,uH ?_⟩);exact uI
  refine dd ?_;refine⟨λq=>?_,λq=>?_⟩
  all_goals
   refine dd ?_;refine⟨_,_,lS.lookup (id:=1) _ _ _ O underlying125 (oG.int underlying3) O O (k:Int) (λE u h=>jo h) (c:=Bo (wG w.zr k)) O O (λE=>by rw[zxt];exact .v _ O),dd ?_⟩;refine⟨λq2=>?_,λq2=>?_⟩
   ·(rw[bad (by rw[hd,q];simp at q2;simp[q2])]);refine dd ?_;refine tf ?_;(refine .inr ⟨aj,uH ?_⟩);exact uI
   refine dd ?_;refine tf ?_
   refine .inl ⟨rfl,?_,λj hj=>?_⟩
   ·rw[zy aw];exact cE 2
   ·by_cases e:j=k
    ·subst e;rw[hd,h5,q];simp at q2;simp[q2]
    ·exact hr j aw
 have hv0:(List.range w.zd.length).all (Df w)=true:=by
  rw[pH]
  exactλi hi=>hr i (aq hi)
 have g2:yQ w=(List.range w.zf.length).all (AK w):=by rw[g1,hv0];rfl
 refine uD ?_;rw[m3];refine zW.seq w.zf.length (λk=>(.za::.ref 0 [] 8 0 0::Bo false:: .v (.map (some b)):: .za::.za::.za::mF (jp (jp (mF (lL w.zf::I w.zf.length::I k:: .za::mF (mF ([])))))))) (λk=>[oW w,mC b (jH zZ (kj (w.zr))) (kj (w.zr)).length]) (λk=>∀j,j<k->AK w j=true) ?_ aj (λk hk hr=>?_) (λhr=>?_)
 ·exact cC
 ·obtain⟨l,hx⟩:∃l,l=w.zf[k]:=⟨_,rfl⟩;have hx2:w.zf[k]?=some l:=by rw[pa hk,hx]
  have hg:(w.zf.map ji)[k]?=some (ji l):=by rw[pj,hx2];rfl
  have hd:AK w k=(Go.Gat.mq l && decide (zD w.zf l.name=k)):=by unfold AK;rw[hx2]
  have bad:AK w k=false->yQ w=false:=λh=>by
   have:(List.range w.zf.length).all (AK w)=false:=by rw[eM];exact⟨k,aq hk,aI⟩
   rw[g2,this]
  conv=>whnf
  refine uF ?_;(refine tj hg ?_)
  refine ah (Go.Gat.Gi l (hw.zf.2 l (pq hx2))) ?_;refine⟨λh5=>?_,λh5=>?_⟩
  rotate_left
  ·(rw[bad (by rw[hd,h5];rfl)]);refine dd ?_;refine tf ?_;(refine .inr ⟨aj,uH ?_⟩);exact uI
  refine dd ?_;refine ah (JP w.zf l.name aw) ?_;refine⟨λh6=>?_,λh6=>?_⟩
  ·(rw[bad (by rw[hd,show decide (zD w.zf l.name=(k:Int))=false from by rw[rL];intro hh;simp[hh]at h6,eQ])]);refine dd ?_;refine tf ?_;(refine .inr ⟨aj,uH ?_⟩);exact uI
  refine dd ?_;refine tf ?_
  refine .inl ⟨rfl,?_,λj hj=>?_⟩
  ·rw[zy aw];exact cE 2
  ·by_cases e:j=k
   ·subst e;rw[hd,h5];simp at h6;simp[h6]
   ·exact hr j aw
 ·have hl1:(List.range w.zf.length).all (AK w)=true:=by
   rw[pH]
   exactλi hi=>hr i (aq hi)
  rw[g2,hl1];refine uD ?_;exact uI
end Go.Wor
