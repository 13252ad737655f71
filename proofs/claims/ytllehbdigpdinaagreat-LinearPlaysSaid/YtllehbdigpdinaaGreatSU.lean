import Derived.Test.YtllehbdigpdinaaGreatSF
import Derived.Test.YtllehbdigpdinaaGreatSS
import Derived.Test.YtllehbdigpdinaaGreatST
set_option linter.all false
set_option maxRecDepth 100000
set_option maxHeartbeats 4000000
namespace Go.Wor
open Go.Ab Go.Proofs Tryz Go.Hy Go.Gat Go.Nam Go.Hos Go.Con Go.Sna
def we(l:List eZ)(n:Int):eZ:=if 0<=n/\n<l.length then (l[n.toNat]?).getD [] else []
def vR(l:List fF)(n:Int):eZ:=if 0<=n/\n<l.length then ((l[n.toNat]?).map (·.name)).getD [] else []
def Al(s:Sna)(r:l7):m9:=⟨we s.zd r.listen,r.host,r.path,vR s.zk r.zj⟩
def lS(s:Sna):fD:=⟨s.zd,s.rules.map (Al s),s.zk⟩
def yY(s:Sna):Bool:=(qg (lS s)).1 == 0
structure Aa(s:Sna):Prop where
 zd:s.zd.length<1000000000000/\∀x∈s.zd,x.length<4000000000000000000
 rules:s.rules.length<1000000000000/\∀r∈s.rules,r.host.length<1000000000000000/\r.path.length<1000000000000000
 zk:s.zk.length<1000000000000/\∀x∈s.zk,x.name.length<4000000000000000000/\x.zJ.length<4000000000000000000
def Aa.cfg{s:Sna}(h:Aa s):xn (lS s):=by
 refine⟨h.zd,⟨by simpa [lS] using h.rules.1,λr hr=>?_⟩,h.zk⟩;simp only[lS,gZ]at hr;obtain⟨q,hq,rfl⟩:=hr;refine⟨?_,(h.rules.2 q hq).1,(h.rules.2 q hq).2,?_⟩
 ·show(we s.zd q.listen).length<_;unfold we;split
  ·cases hx:s.zd[q.listen.toNat]? with
   |none=>simp
   |some x=>exact h.zd.2 x (gh hx)
  ·simp
 ·show(vR s.zk q.zj).length<_;unfold vR;split
  ·cases hx:s.zk[q.zj.toNat]? with
   |none=>simp
   |some x=>exact(h.zk.2 x (gh hx)).1
  ·simp
def Sp(s:Sna)(hs:Aa s):tn 144 [] [Cs s] (Cf (lS s)) []:=by
 have m1:(s.rules.map vi).length=s.rules.length:=gp ..;have m2:(s.zd.map qn).length=s.zd.length:=gp ..;have m3:(s.zk.map yE).length=s.zk.length:=gp ..;have hl:=hs.rules.1;refine ab func144 ?_;rw[m1];refine qa.seq s.rules.length (λk=>(.za::.ref 0 [] 3 0 0:: .ref 1 [] 3 0 0:: .ref 2 [] 3 0 0:: .za::hU (lf s.rules::I s.rules.length::I k:: .za::.za::.za::.za::.za::hU (jp (hU ([])))))) (λk=>[⟨1,116,3,[qv s],0⟩,⟨1,26,3,[[.eS 1 0 [],.eS 1 0 [],.eS 1 0 []]],0⟩,⟨1,26,3,[[lT s.zd,.gl 3 4 (((s.rules.take k).map (Al s)).map wN),lC s.zk]],0⟩,⟨4,113,4,((s.rules.take k).map (Al s)).map wN,0⟩]) (λk=>True) ?_ trivial (λk hk hr=>?_) (λhr=>?_)
 ·refine zn.trans (zn.Ae 2 1 113 4 O O (.inl O) O O) ?_;exact cC
 ·obtain⟨r,hx⟩:∃r,r=s.rules[k]:=⟨_,rfl⟩;have hg:(s.rules.map vi)[k]?=some (vi r):=by rw[gj,dZ hk,hx];rfl
  have hlg:(((s.rules.take k).map (Al s)).map wN).length=k:=aA
  have eg:((s.rules.take (k+1)).map (Al s)).map wN=((s.rules.take k).map (Al s)).map wN++[wN (Al s r)]:=bR
  have hv:∀a b,a=we s.zd r.listen->b=vR s.zk r.zj->wN ⟨a,r.host,r.path,b⟩=wN (Al s r):=λa b h1 h2=>by rw[h1,h2];rfl
  conv=>whnf
  refine uF ?_;(refine td hg ?_)
  refine⟨λh1=>?_,λh1=>?_⟩
  rotate_left
  ·refine dd ?_;refine tc ?_
   refine⟨λq1=>?_,λq1=>?_⟩;rotate_left;(focus (refine dd ?_;refine tc ?_;(refine⟨rfl,.inr O,bS,cJ,dd ?_⟩);(refine .inl ⟨rfl,?_,trivial⟩);(rw[zw aw,eg,<-hv _ _ cK cL]);exact cE 4));refine dd ?_;(rw[m3]);refine⟨λq2=>?_,λq2=>?_⟩;rotate_left;(focus (refine dd ?_;refine tc ?_;(refine⟨rfl,.inr O,bS,cJ,dd ?_⟩);(refine .inl ⟨rfl,?_,trivial⟩);(rw[zw aw,eg,<-hv _ _ cK cM]);exact cE 4));(have q3:r.zj.toNat<s.zk.length:=by simp at q1 q2;omega);(have gq:(s.zk.map yE)[r.zj.toNat]?=some (yE s.zk[r.zj.toNat]):=by rw[gj,dZ q3];rfl);refine dd ?_;refine tc ?_;(refine⟨bW,_,gq,dd ?_⟩);(refine⟨rfl,.inr O,bS,cJ,dd ?_⟩);(refine .inl ⟨rfl,?_,trivial⟩);(rw[zw aw,eg,<-hv _ _ cK (by unfold vR;rw[gk (by simp at q1 q2;omega),dZ q3])]);exact cE 4
  refine dd ?_;rw[m2];refine⟨λh2=>?_,λh2=>?_⟩
  rotate_left
  ·refine dd ?_;refine tc ?_
   refine⟨λq1=>?_,λq1=>?_⟩;rotate_left;(focus (refine dd ?_;refine tc ?_;(refine⟨rfl,.inr O,bS,cJ,dd ?_⟩);(refine .inl ⟨rfl,?_,trivial⟩);(rw[zw aw,eg,<-hv _ _ cN cL]);exact cE 4));refine dd ?_;(rw[m3]);refine⟨λq2=>?_,λq2=>?_⟩;rotate_left;(focus (refine dd ?_;refine tc ?_;(refine⟨rfl,.inr O,bS,cJ,dd ?_⟩);(refine .inl ⟨rfl,?_,trivial⟩);(rw[zw aw,eg,<-hv _ _ cN cM]);exact cE 4));(have q3:r.zj.toNat<s.zk.length:=by simp at q1 q2;omega);(have gq:(s.zk.map yE)[r.zj.toNat]?=some (yE s.zk[r.zj.toNat]):=by rw[gj,dZ q3];rfl);refine dd ?_;refine tc ?_;(refine⟨bW,_,gq,dd ?_⟩);(refine⟨rfl,.inr O,bS,cJ,dd ?_⟩);(refine .inl ⟨rfl,?_,trivial⟩);(rw[zw aw,eg,<-hv _ _ cN (by unfold vR;rw[gk (by simp at q1 q2;omega),dZ q3])]);exact cE 4
  have h3:r.listen.toNat<s.zd.length:=cy
  have gl:(s.zd.map qn)[r.listen.toNat]?=some (qn s.zd[r.listen.toNat]):=by rw[gj,dZ h3];rfl
  refine dd ?_;refine tc ?_
  refine⟨cz,_,gl,dd ?_⟩;refine⟨λq1=>?_,λq1=>?_⟩;rotate_left;(focus (refine dd ?_;refine tc ?_;(refine⟨rfl,.inr O,bS,cJ,dd ?_⟩);(refine .inl ⟨rfl,?_,trivial⟩);(rw[zw aw,eg,<-hv _ _ (by unfold we;rw[gk cy,dZ h3]) cL]);exact cE 4));refine dd ?_;(rw[m3]);refine⟨λq2=>?_,λq2=>?_⟩;rotate_left;(focus (refine dd ?_;refine tc ?_;(refine⟨rfl,.inr O,bS,cJ,dd ?_⟩);(refine .inl ⟨rfl,?_,trivial⟩);(rw[zw aw,eg,<-hv _ _ (by unfold we;rw[gk cy,dZ h3]) cM]);exact cE 4));(have q3:r.zj.toNat<s.zk.length:=by simp at q1 q2;omega);(have gq:(s.zk.map yE)[r.zj.toNat]?=some (yE s.zk[r.zj.toNat]):=by rw[gj,dZ q3];rfl);refine dd ?_;refine tc ?_;(refine⟨bW,_,gq,dd ?_⟩);(refine⟨rfl,.inr O,bS,cJ,dd ?_⟩);(refine .inl ⟨rfl,?_,trivial⟩);(rw[zw aw,eg,<-hv _ _ (by unfold we;rw[gk cy,dZ h3]) (by unfold vR;rw[gk (by simp at q1 q2;omega),dZ q3])]);exact cE 4
 ·refine uD ?_;rw[pQ];exact uI
def KW(s:Sna)(hs:Aa s):tn 95 [] [Cs s] (Bo (yY s)) []:=by
 refine ab func95 ?_;refine ah (Sp s hs) ?_;refine ah (check_sound (lS s) hs.cfg) ?_;refine⟨λh=>?_,λh=>?_⟩
 ·refine dd ?_
  (exact⟨.inl O,_,.refl _,uN (by unfold yY;exact h.symm)⟩)
 ·refine dd ?_
  (exact⟨.inl O,_,.refl _,uN (by unfold yY;exact h.symm)⟩)
end Go.Wor
namespace Go.Wor
open Go.Ab Go.Proofs Tryz Go.Hy Go.Gat Go.Nam Go.Hos Go.Con Go.Sna
open Go.Slp (kW KP)
def Bs{f:Nat->Int}{n:Nat}(h:(jV f n).1=0):∀j,j<n->f j=0:=λj hj=>by
 unfold jV at h;split at h
 ·rename_i i hi;rw[List.find?_range_eq_some]at hi;exact absurd h (aq hi.1)
 ·rename_i hn;rw[ui]at hn;simpa using hn j hj
structure Gg(x:fF):Prop where
 name:xJ x.name=true
 xL:x.xL=1\/x.xL=2
 xP:1<=x.xP/\x.xP<=4
 zJ:1<=x.zJ.length/\x.zJ.length<=4
structure nK(s:Sna):Prop where
 zd:1<=s.zd.length/\s.zd.length<=4
 rules:1<=s.rules.length/\s.rules.length<=8
 zk:1<=s.zk.length/\s.zk.length<=4
 all:∀x∈s.zk,Gg x
def jN{s:Sna}(h:yY s=true):nK s:=by
 unfold yY at h;have h:(qg (lS s)).1=0:=aq h
 unfold qg at h;split at h
 ·contradiction
 rename_i h1;split at h
 ·contradiction
 rename_i h2;split at h
 ·contradiction
 rename_i h3;have h1:(vr (lS s)).1=0:=aq h1
 unfold vr at h1;split at h1
 ·cases h1
 rename_i h4;have e:(lS s).zM.length=s.rules.length:=by simp[lS]
 rw[e]at h4;simp only[show(lS s).zd=s.zd from O,show(lS s).zk=s.zk from O]at h4;have b:∀n:Nat,∀m:Int,¬(decide (1<=(n:Int)) && decide ((n:Int)<=m))=false->1<=n/\(n:Int)<=m:=λn m hh=>by simp at hh;omega
 have q1:=b s.zd.length 4 λhh=>h4 (.inl (.inl hh))
 have q2:=b s.rules.length 8 λhh=>h4 (.inl (.inr hh))
 have q3:=b s.zk.length 4 λhh=>h4 (.inr hh)
 refine⟨aw,aw,aw,λx hx=>?_⟩;obtain⟨i,hi,rfl⟩:=pz.1 hx;have h5:=Bs (f:=nC s.zk) (n:=s.zk.length) (Decidable.of_not_not h3) i hi;unfold nC at h5;rw[dZ hi]at h5;dsimp only at h5;split at h5
 ·cases h5
 rename_i p1;split at h5
 ·cases h5
 split at h5
 ·cases h5
 rename_i p2;split at h5
 ·cases h5
 rename_i p3;split at h5
 ·cases h5
 rename_i p4;refine⟨aq p1,?_,?_,?_⟩
 ·by_cases a:s.zk[i].xL=1
  ·exact .inl a
  ·by_cases a2:s.zk[i].xL=2
   ·exact .inr a2
   ·exact absurd ⟨a,a2⟩ p2
 ·simp at p3;omega
 ·simp at p4;omega
abbrev xG(x:fF):En:=(kW x.xP).1
def Yc{x:fF}(h:Gg x):kW x.xP=(xG x,0):=by
 have:=h.xP;unfold xG kW;rw[gf aw]
def lu(x:fF):Gr:=⟨0,List.replicate x.zJ.length (xG x)⟩
abbrev zyu:Sna:=⟨[],[],[]⟩
abbrev Gu:fc:=⟨zyu,[],false⟩
def qD(s:Sna):fc×Int:=if yY s then (⟨s,s.zk.map lu,false⟩,0) else (Gu,1)
abbrev Cv(v:fc):C:=.agg (zN v)
abbrev tV(r:fc×Int):C:=.fb [Cv r.1,I r.2]
def Lo(s:Sna)(hs:Aa s):tn 55 [] [Cs s] (tV (qD s)) []:=by
 have m1:(s.zk.map yE).length=s.zk.length:=gp ..;refine ab func55 ?_;refine ah (KW s hs) ?_;refine⟨λh1=>?_,λh1=>?_⟩
 rotate_left
 ·have e:qD s=(Gu,1):=by unfold qD;rw[gf bb]
  rw[e];refine dd ?_;refine tc ?_
  exact⟨.inl O,_,zn.var 1 O O O (.cons (WC.nil 0 1) (.cons (WC.nil 0 4) (.cons (WC.nil 0 4) (.cons (WC.nil 0 2) (.cons (.refl _) .nil))))),rfl⟩
 have e:qD s=(⟨s,s.zk.map lu,false⟩,0):=by unfold qD;rw[gk h1]
 have hg:=jN h1;rw[e];refine dd ?_;refine tc ?_
 rw[m1];refine qa.seq s.zk.length (λk=>(.za::.ref 0 [] 3 0 0::.ref 1 [] 5 0 0::I 0::.ref 2 [] 5 0 0::hU (.za::.za::.za::.za::(lC s.zk)::I s.zk.length::I k::hU (hU (hU (hU ([.za]))))))) (λk=>[⟨1,116,3,[qv s],0⟩,⟨1,138,5,[[.eS 1 0 [],.eS 1 0 [],.eS 1 0 [],.eS 1 0 [],Bo false]],0⟩,⟨1,138,5,[qv s++[.gl 3 2 (((s.zk.take k).map lu).map zK),Bo false]],0⟩,⟨4,165,2,((s.zk.take k).map lu).map zK,0⟩]) (λk=>True) ?_ trivial (λk hk hr=>?_) (λhr=>?_)
 ·refine zn.trans (zn.Ae 2 3 165 2 O O (.inl O) O O) ?_;exact cC
 ·obtain⟨x,hx⟩:∃x,x=s.zk[k]:=⟨_,rfl⟩;have hgx:(s.zk.map yE)[k]?=some (yE x):=by rw[gj,dZ hk,hx];rfl
  have hgood:=hg.all x tK;have hc4:=hg.zk.2;have h4:=hgood.zJ.2;have hlg:(((s.zk.take k).map lu).map zK).length=k:=aA
  have eg:((s.zk.take (k+1)).map lu).map zK=((s.zk.take k).map lu).map zK++[zK (lu x)]:=bR
  have mh:(x.zJ.map kU).length=x.zJ.length:=gp ..
  have fs:tn 96 [] [I x.xP] (.fb [.agg (zD (xG x)),I 0]) []:=by
   have:=KP x.xP;rw[Yc hgood]at this;exact dF
  conv=>whnf
  refine uF ?_;(refine td hgx ?_)
  rw[mh];refine qa.seq x.zJ.length (λj=>(.za::.ref 0 [] 3 0 0::.ref 1 [] 5 0 0::I 0::.ref 2 [] 5 0 0::.za::.ref 4 [] 4 0 0::.ref 5 [] 2 0 0::hU (.za::(lC s.zk)::I s.zk.length::I k::.za::.za::.za::.za::.za::I x.zJ.length::I j::hU (hU (hU ([.za,.za])))))) (λj=>[⟨1,116,3,[qv s],0⟩,⟨1,138,5,[[.eS 1 0 [],.eS 1 0 [],.eS 1 0 [],.eS 1 0 [],Bo false]],0⟩,⟨1,138,5,[qv s++[.gl 3 2 (((s.zk.take k).map lu).map zK),Bo false]],0⟩,⟨4,165,2,((s.zk.take k).map lu).map zK,0⟩,oC x,⟨1,165,2,[[U 0,.gl 6 3 ((List.replicate j (xG x)).map zD)]],0⟩,⟨4,168,3,((List.replicate j (xG x)).map zD),0⟩]) (λk=>True) ?_ trivial (λj hj hr=>?_) (λhr=>?_)
  ·refine zn.trans (zn.Ae 5 1 168 3 O O (.inl O) O O) ?_;exact cC
  ·have hle:(((List.replicate j (xG x)).map zD)).length=j:=by simp
   have ee:((List.replicate (j+1) (xG x)).map zD)=((List.replicate j (xG x)).map zD)++[zD (xG x)]:=by rw[u7,rb];rfl
   conv=>whnf
   refine uF ?_;refine ah fs ?_;refine tc ?_
   refine⟨rfl,.inr O,by rw[hle];simp[maxLen];omega,by rw[hle];show(j+1)*40<=_;omega,dd ?_⟩;refine .inl ⟨rfl,?_,trivial⟩;rw[zw aw,ee];exact cE 7
  ·refine uD ?_;refine⟨rfl,.inr O,bS,by rw[hlg];show(k+1)*32<=_;omega,dd ?_⟩;refine .inl ⟨rfl,?_,trivial⟩;rw[zw aw,eg];exact cE 4
 ·refine uD ?_;rw[pQ];exact uI
def wZ(n:Int):List (List Int)×Int:=if n<1\/8<n then ([],1) else (List.replicate n.toNat [0,0,0,0,0,0],0)
abbrev QB(r:List (List Int)×Int):C:=.fb [fK r.1,I r.2]
def BT(c:List (List Int)):Bool:=c.all (λr=>r.length == 6) && decide (1<=c.length) && decide (c.length<=8)
def NH{rows:List (List C)}(h:(rows.all λr=>r.all λc=>xm c && zB c)=true):∀r∈rows,∀c∈r,xm c=true/\zB c=true:=λr hr c hc=>by
 have:=gA.1 (gA.1 h r hr) c hc;simpa using this
def shut_map{α:Type}{enc:α->List C}(h:∀x,(enc x).all (λc=>xm c && zB c)=true)(l:List α):∀r∈l.map enc,∀c∈r,xm c=true/\zB c=true:=
 NH (by rw[List.all_map];exact gA.2 λx _=>h x)
def yi{n ty sz fz:Nat}{rows:List (List C)}(h:∀r∈rows,∀c∈r,jc n 9 c=true):qM n [⟨1,ty,sz,rows,fz⟩]=true:=by
 unfold qM;simp only[sa,uj,tZ];simp;exact h
def zwo{α:Type}(a b:α){k n:Nat}(h:k<n):(List.replicate k a++List.replicate (n-k) b).set k a=List.replicate (k+1) a++List.replicate (n-(k+1)) b:=by
 rw[sR _ _ aj];have e:n-k=(n-(k+1))+1:=aw
 simp only[sP,rJ];rw[e,sJ,ud,u7,pA]
 rfl
def Z9{α:Type}(a b:α){k n:Nat}(h:k<n):(List.replicate k a++List.replicate (n-k) b)[k]?=some b:=by
 rw[gK aj];simp only[sP,rJ];have e:n-k=(n-(k+1))+1:=aw
 rw[e,sJ]
 rfl
def RP(n:Int):tn 84 [] [I n] (QB (wZ n)) []:=by
 refine ab func84 ?_;refine⟨λh1=>?_,λh1=>?_⟩
 ·have e:wZ n=([],1):=by unfold wZ;rw[gk cz]
  rw[e];refine dd ?_;refine tc ?_
  exact dp
 refine dd ?_;refine⟨λh2=>?_,λh2=>?_⟩
 ·have e:wZ n=([],1):=by unfold wZ;rw[gk ba]
  rw[e];refine dd ?_;refine tc ?_
  exact dp
 have b1:1<=n/\n<=8:=cy
 have e:wZ n=(List.replicate n.toNat [0,0,0,0,0,0],0):=by unfold wZ;rw[gf aw]
 rw[e];refine dd ?_;refine⟨rfl,aw,by show(24:Int)*n<=_;omega,aw,dd ?_⟩;refine qa.seq n.toNat (λk=>(I n::.za::.eS 1 0 []::I 0::.sl 0 [] 1 0 n.toNat false::hU (.za::.za::I n.toNat::I k::hU ([])))) (λk=>[⟨1,0,1,(List.replicate k [lU [0,0,0,0,0,0]]++List.replicate (n.toNat-k) [C.eS 1 0 []]),0⟩]) (λk=>True) ?_ trivial (λk hk hr=>?_) (λhr=>?_)
 ·refine zn.trans (zn.C4 0 O (by intro r hr c hc;rw[pw hr]at hc;rw[gN.1 hc];rfl)) ?_;exact cC
 ·conv=>whnf
  refine uF ?_;refine⟨rfl,ar,by show(8:Int)*6<=_;decide,ar,dd ?_⟩;refine⟨aw,aA,dd ?_⟩;have e1:0+(k:Int).toNat=k:=aj
  rw[e1];refine⟨_,Z9 _ _ hk,rfl,dd ?_⟩;refine .inl ⟨rfl,?_,trivial⟩;refine zn.trans (zn.zS 0 k 0 (r:=[.sl 1 [] 1 0 6 false]) O (by rw[gG,gk O,gk aA];rfl) O O (.inr O) O O ?_ ?_) ?_
  ·exact NH (rows:=List.replicate 6 [U 0]) O
  ·intro r hr c hc;rcases pM hr with hr|rfl
   ·rcases gO.1 hr with hr|hr <;> (rw[pw hr]at hc;rw[gN.1 hc];rfl)
   ·rw[gN.1 hc];rfl
  ·have e3:(List.replicate k [lU [0,0,0,0,0,0]]++List.replicate (n.toNat-k) [C.eS 1 0 []]).set k [lU [0,0,0,0,0,0]]=(List.replicate (k+1) [lU [0,0,0,0,0,0]]++List.replicate (n.toNat-(k+1)) [C.eS 1 0 []]):=zwo _ _ hk;rw[g8,<-e3,zw aw];refine zn.xw 1 hC O O O (yi (rows:=(List.replicate k [lU [0,0,0,0,0,0]]++List.replicate (n.toNat-k) [C.eS 1 0 []]).set k [lU [0,0,0,0,0,0]]) λr hr c hc=>?_) O;rw[e3]at hr;rcases gO.1 hr with hr|hr <;> (rw[pw hr]at hc;rw[gN.1 hc];rfl)
 ·refine uD ?_;have e4:(List.replicate n.toNat [(0:Int),0,0,0,0,0]).map zP=(List.replicate n.toNat [lU [0,0,0,0,0,0]]++List.replicate (n.toNat-n.toNat) [C.eS 1 0 []]):=by rw[List.map_replicate,rJ,List.replicate_zero,ru];rfl
  have sh:∀r∈(List.replicate n.toNat [lU [0,0,0,0,0,0]]++List.replicate (n.toNat-n.toNat) [C.eS 1 0 []]),∀c∈r,xm c=true/\zB c=true:=by
   rw[rJ,List.replicate_zero,ru];intro r hr c hc;rw[pw hr]at hc;rw[gN.1 hc];exact⟨rfl,rfl⟩
  refine⟨.inl O,_,zn.K8 2 O O (.inl O) aj sh,?_⟩;rw[<-e4]
  rfl
def Rq(c:List (List Int))(hc:c.length<4000000000000000000):tn 109 [] [fK c] (Bo (BT c)) []:=by
 have m1:(c.map zP).length=c.length:=gp ..;refine ab func109 ?_;rw[m1];refine qa.seq c.length (λk=>((fK c)::.za::Bo false::.za::.za::(fK c)::I c.length::I k::hU ([.za,.za,.za,.za,.za,.za,.za]))) (λk=>[]) (λk=>∀j,(h:j<c.length)->j<k->(c[j].length == 6)=true) ?_ aj (λk hk hr=>?_) (λhr=>?_)
 ·exact cC
 ·obtain⟨x,hx⟩:∃x,x=c[k]:=⟨_,rfl⟩;have hg:(c.map zP)[k]?=some (zP x):=by rw[gj,dZ hk,hx];rfl
  have mx:(x.map jS).length=x.length:=gp ..;conv=>whnf
  refine uF ?_;(refine td hg ?_)
  rw[mx];refine⟨λh1=>?_,λh1=>?_⟩
  ·have hf:c.all (λr=>r.length == 6)=false:=by
    rw[sF];exact⟨x,bP,by simp at h1 ⊢;omega⟩
   have e:BT c=false:=by unfold BT;rw[hf];rfl
   rw[e];refine dd ?_;(refine .inr ⟨aj,uH ?_⟩)
   exact uI
  ·refine dd ?_;refine .inl ⟨rfl,?_,λj hj hjk=>?_⟩
   ·rw[zw aw];exact cE 0
   ·by_cases e:j=k
    ·subst e;rw[<-hx];simp at h1 ⊢;omega
    ·exact hr j hj aw
 ·have ht:c.all (λr=>r.length == 6)=true:=by
   rw[gA];intro r hr';obtain⟨j,hj,rfl⟩:=pz.1 hr';exact hr j hj hj
  have e:BT c=(decide (1<=c.length) && decide (c.length<=8)):=by unfold BT;rw[ht];rfl
  rw[e];refine uD ?_;rw[m1];refine⟨λh1=>?_,λh1=>?_⟩
  ·refine dd ?_;rw[m1];refine⟨λh2=>?_,λh2=>?_⟩
   ·refine dd ?_;refine tc ?_
    (exact⟨.inl O,_,.refl _,uN (by symm;simp at h1 h2 ⊢;omega)⟩)
   ·refine dd ?_;refine tc ?_
    (exact⟨.inl O,_,.refl _,uN (by symm;simp at h1 h2 ⊢;omega)⟩)
  ·refine dd ?_;refine tc ?_
   (exact⟨.inl O,_,.refl _,uN (by symm;simp at h1 ⊢;omega)⟩)
abbrev Cw(w:Wor):C:=.agg (yt w)
abbrev tW(r:Wor×Int):C:=.fb [Cw r.1,I r.2]
abbrev B6:Wor:=⟨0,0,0,[],[],[],[],[]⟩
def yX(s:eZ):fq:=⟨s,false,0,false⟩
def CW(l:List eZ)(i:Nat):Bool:=match l[i]? with
 |some s=>xJ s && decide (zx ((l.take i).map yX) s<0)
 |none=>true
def BQ(l:List eZ):Bool:=(List.range l.length).all (CW l)
def i7(s:Sna)(l:List eZ)(n:Int):Wor×Int:=
 if yY s=false\/n<1\/8<n\/BQ l=false then (B6,1)
 else (⟨0,0,0,List.replicate n.toNat 0,[(qD s).1],l.map yX,List.replicate n.toNat [0,0,0,0,0,0],[]⟩,0)
def Wj(s:Sna)(l:List eZ)(n:Int)(hs:Aa s)(hl:l.length<1000000000/\∀x∈l,x.length<4000000000000000000):tn 43 [] [Cs s,lT l,I n] (tW (i7 s l n)) []:=by
 have m1:(l.map qn).length=l.length:=gp ..;have cs:=Lo s hs;refine ab func43 ?_;by_cases h0:yY s=true
 rotate_left
 ·have e:i7 s l n=(B6,1):=by unfold i7;rw[gk (.inl (aq h0))]
  have e2:qD s=(Gu,1):=by unfold qD;rw[gf h0]
  rw[e2]at cs;have cs:tn 55 [] [Cs s] (.fb [Cv Gu,I 1]) []:=cs;rw[e];refine ah cs ?_;refine tc ?_
  exact cY
 have e2:qD s=((qD s).1,0):=by unfold qD;rw[gk h0]
 rw[e2]at cs;have cs:tn 55 [] [Cs s] (.fb [Cv (qD s).1,I 0]) []:=cs;have hn:=RP n;refine ah cs ?_;refine tc ?_
 by_cases h1:n<1\/8<n
 ·have e:i7 s l n=(B6,1):=by unfold i7;rw[gk aw]
  have e3:wZ n=([],1):=by unfold wZ;rw[gk h1]
  rw[e3]at hn;have hn:tn 84 [] [I n] (.fb [fK [],I 1]) []:=hn;rw[e];refine ah hn ?_;refine tc ?_
  exact cY
 have e3:wZ n=(List.replicate n.toNat [0,0,0,0,0,0],0):=by unfold wZ;rw[gf h1]
 rw[e3]at hn;have hn:tn 84 [] [I n] (.fb [fK (List.replicate n.toNat [0,0,0,0,0,0]),I 0]) []:=hn;refine ah hn ?_;refine tc ?_
 refine .inl ⟨⟨false,[0,3],[2],[]⟩,au,uH ?_⟩;refine⟨rfl,aw,by show(8:Int)*n<=_;omega,aw,dd ?_⟩;refine hZ ?_
 rw[m1];have hb:BQ l=false->i7 s l n=(B6,1):=λh=>by unfold i7;rw[gk (.inr (.inr (.inr h)))]
 refine qa.seq l.length (λk=>(.za::.za::.za::.ref 0 [] 3 0 0:: .za::.za::.ref 1 [] 8 0 0::I 0:: .za::.za::.za::.ref 3 [] 8 0 0:: .za::.za::hU (hU (hU (lT l::I l.length::I k:: .za::.za::.za::.za::.za::.za::.za::hU (hU ([]))))))) (λk=>[⟨1,116,3,[qv s],0⟩,⟨1,38,8,[[I 0,I 0,I 0,.eS 1 0 [],.eS 1 0 [],.eS 1 0 [],.eS 1 0 [],.eS 1 0 []]],0⟩,⟨1,138,5,[zN (qD s).1],0⟩,⟨1,38,8,[[I 0,I 0,I 0,.eS 0 1 (List.replicate n.toNat [I 0]),.eS 1 5 [zN (qD s).1],.gl 4 4 (((l.take k).map yX).map qN),fK (List.replicate n.toNat [0,0,0,0,0,0]),.eS 1 0 []]],0⟩,⟨4,144,4,((l.take k).map yX).map qN,0⟩]) (λk=>∀j,j<k->CW l j=true) ?_ aj (λk hk hr=>?_) (λhr=>?_)
 ·refine zn.trans (zn.Ae 3 5 144 4 O O (.inl O) O O) ?_;exact cC
 ·obtain⟨x,hx⟩:∃x,x=l[k]:=⟨_,rfl⟩;have hx2:l[k]?=some x:=by rw[dZ hk,hx]
  have hg:(l.map qn)[k]?=some (qn x):=by rw[gj,hx2];rfl
  have hxm:x∈l:=bP
  have hno:CW l k=(xJ x && decide (zx ((l.take k).map yX) x<0)):=by unfold CW;rw[hx2]
  have bad:CW l k=false->i7 s l n=(B6,1):=λh=>hb (by unfold BQ;rw[sF];exact⟨k,aq hk,aI⟩)
  have hlg:(((l.take k).map yX).map qN).length=k:=aA
  have eg:((l.take (k+1)).map yX).map qN=((l.take k).map yX).map qN++[qN (yX x)]:=bR
  conv=>whnf
  refine uF ?_;(refine td hg ?_)
  refine ah (yH x (by have:=hl.2 x hxm;omega)) ?_;refine⟨λh2=>?_,λh2=>?_⟩
  rotate_left
  ·rw[bad (by rw[hno,h2];rfl)];refine dd ?_;refine tc ?_
   (refine .inr ⟨aj,uH ?_⟩)
   exact cY
  refine dd ?_;refine ah (E4 ((l.take k).map yX) x aA) ?_;refine⟨λh3=>?_,λh3=>?_⟩
  ·rw[bad (by rw[hno,show decide (zx ((l.take k).map yX) x<0)=false from by simp at h3 ⊢;omega,sQ])];refine dd ?_;refine tc ?_
   (refine .inr ⟨aj,uH ?_⟩)
   exact cY
  refine dd ?_;refine tc ?_
  refine⟨rfl,.inr O,bS,by rw[hlg];show(k+1)*40<=_;omega,dd ?_⟩;refine .inl ⟨rfl,?_,λj hj=>?_⟩
  ·rw[zw aw,eg];exact cE 5
  ·by_cases e:j=k
   ·subst e;rw[hno,h2];simp at h3 ⊢;omega
   ·exact hr j aw
 ·have z8:BQ l=true:=by
   unfold BQ;rw[gA];intro i hi;exact hr i (aq hi)
  have e:i7 s l n=(⟨0,0,0,List.replicate n.toNat 0,[(qD s).1],l.map yX,List.replicate n.toNat [0,0,0,0,0,0],[]⟩,0):=by unfold i7;rw[gf (by simp only[h0,z8];simp;omega)]
  rw[e];refine uD ?_;rw[pQ];refine⟨.inl O,_,zn.var 1 O O O (.cons (.refl _) (.cons (.refl _) (.cons (.refl _) (.cons (.refl _) (.cons (WC.share 1 5 _) (.cons (.refl _) (.cons (.refl _) (.cons (WC.nil 0 3) .nil)))))))),?_⟩
  have e9:yt ⟨0,0,0,List.replicate n.toNat 0,[(qD s).1],l.map yX,List.replicate n.toNat [0,0,0,0,0,0],[]⟩=[I 0,I 0,I 0,.eS 0 1 (List.replicate n.toNat [I 0]),.eS 0 5 [zN (qD s).1],lL (l.map yX),fK (List.replicate n.toNat [0,0,0,0,0,0]),.eS 0 3 []]:=by
   have e8:(List.replicate n.toNat (0:Int)).map encI=List.replicate n.toNat [I 0]:=List.map_replicate;show [I 0,I 0,I 0,C.eS 0 1 ((List.replicate n.toNat (0:Int)).map encI),_,_,_,_]=_;rw[e8]
   rfl
  show _=some (C.fb [C.agg (yt ⟨0,0,0,List.replicate n.toNat 0,[(qD s).1],l.map yX,List.replicate n.toNat [0,0,0,0,0,0],[]⟩),I 0]);rw[e9]
  rfl
end Go.Wor
namespace Go.Wor
open Go.Ab Go.Proofs Tryz Go.Hy Go.Gat Go.Nam Go.Hos Go.Con Go.Sna
def j9{F:List (List C)}{z:List C}{k n:Nat}(hF:F.length=n)(h:k<n):(F.take k++(List.replicate n z).drop k)[k]?=some z:=by
 rw[gK aA,sd,pX,sL,gk aw]
def ja{F:List (List C)}{x z:List C}{k n:Nat}(hx:F[k]?=some x)(hn:k<n):(F.take k++(List.replicate n z).drop k).set k x=F.take (k+1)++(List.replicate n z).drop (k+1):=by
 obtain⟨hk,rfl⟩:=dY.1 hx;have e1:(F.take k).length=k:=aA
 rw[sR _ _ aw,e1,rJ,List.drop_replicate,List.drop_replicate,p7 hk,pA];have e2:n-k=(n-(k+1))+1:=aw
 rw[e2,sJ]
 rfl
def vj{F:List (List C)}{z:List C}{n:Nat}(hF:F.length=n):F.take n++(List.replicate n z).drop n=F:=by
 rw[sf aw,List.drop_of_length_le aj,ru]
def NB(x:Int)(l:List Int)(hl:l.length<1000000000):tn 210 [] [lI (x::l)] (.sl 0 [] 1 0 (x::l).length false) [⟨2,3,1,(x::l).map encI,0⟩]:=by
 have e:0+((l.map encI).length+1)=(x::l).length:=aj
 rw[<-e];refine zb.zG (fn:=f210) func210 O (uH ?_);refine⟨aj,uH ?_⟩;refine .inr ⟨.inl O,ay,bd,uH ?_⟩;exact uJ
def vw(l:List Int)(hl:l.length<1000000000):tn 210 [] [lI l] (lI l) []:=by
 cases l with
 |nil=>
  refine ab func210 ?_;refine⟨?_,?_⟩
  ·refine dd ?_;exact dp
  ·refine dd ?_;refine .inr ⟨rfl,dd ?_⟩;exact⟨.inl O,_,zn.cell 2 O ((WC.none 1 1 1).trans (WC.share 1 1 [])),rfl⟩
 |cons x l=>
  have hl3:l.length+1<1000000000:=aq hl
  refine ab func210 ?_;refine⟨aj,uH ?_⟩;refine .inr ⟨.inl O,ay,bd,uH ?_⟩;exact dt
def XU(x:Int)(l:List Int)(hl:l.length<1000000000):tn 248 [] [lU (x::l)] (.sl 0 [] 1 0 (x::l).length false) [⟨2,63,1,(x::l).map jS,0⟩]:=by
 have e:0+((l.map jS).length+1)=(x::l).length:=aj
 rw[<-e];refine zb.zG (fn:=f248) func248 O (uH ?_);refine⟨aj,uH ?_⟩;refine .inr ⟨.inl O,ay,bd,uH ?_⟩;exact uJ
def XV(l:List Int)(hl:l.length<1000000000):tn 248 [] [lU l] (lU l) []:=by
 cases l with
 |nil=>
  refine ab func248 ?_;refine⟨?_,?_⟩
  ·refine dd ?_;exact dp
  ·refine dd ?_;refine .inr ⟨rfl,dd ?_⟩;exact⟨.inl O,_,zn.cell 2 O ((WC.none 1 1 1).trans (WC.share 1 1 [])),rfl⟩
 |cons x l=>
  have hl3:l.length+1<1000000000:=aq hl
  refine ab func248 ?_;refine⟨aj,uH ?_⟩;refine .inr ⟨.inl O,ay,bd,uH ?_⟩;exact dt
def WR(x:fq)(l:List fq)(hl:l.length<1000000000):tn 213 [] [lL (x::l)] (.sl 0 [] 4 0 (x::l).length false) [⟨2,144,4,(x::l).map qN,0⟩]:=by
 have e:0+((l.map qN).length+1)=(x::l).length:=aj
 rw[<-e];refine zb.zG (fn:=f213) func213 O (uH ?_);refine⟨aj,uH ?_⟩;refine .inr ⟨.inl O,ay,by show _*40<=_;simp;omega,uH ?_⟩;exact uJ
def kF(l:List fq)(hl:l.length<1000000000):tn 213 [] [lL l] (lL l) []:=by
 cases l with
 |nil=>
  refine ab func213 ?_;refine⟨?_,?_⟩
  ·refine dd ?_;exact⟨.inl O,_,zn.cell 2 O (WC.nil 0 4),rfl⟩
  ·refine dd ?_;refine .inr ⟨rfl,dd ?_⟩;exact⟨.inl O,_,zn.cell 2 O ((WC.none 1 4 4).trans (WC.share 1 4 [])),rfl⟩
 |cons x l=>
  have hl3:l.length+1<1000000000:=aq hl
  refine ab func213 ?_;refine⟨aj,uH ?_⟩;refine .inr ⟨.inl O,ay,by show _*40<=_;simp;omega,uH ?_⟩;exact dt
def NC(x:fA)(l:List fA)(hl:l.length<1000000000):tn 216 [] [lR (x::l)] (.sl 0 [] 3 0 (x::l).length false) [⟨2,142,3,(x::l).map xF,0⟩]:=by
 have e:0+((l.map xF).length+1)=(x::l).length:=aj
 rw[<-e];refine zb.zG (fn:=f216) func216 O (uH ?_);refine⟨aj,uH ?_⟩;refine .inr ⟨.inl O,ay,by show _*24<=_;simp;omega,uH ?_⟩;exact uJ
def CF(l:List fA)(hl:l.length<1000000000):tn 216 [] [lR l] (lR l) []:=by
 cases l with
 |nil=>
  refine ab func216 ?_;refine⟨?_,?_⟩
  ·refine dd ?_;exact⟨.inl O,_,zn.cell 2 O (WC.nil 0 3),rfl⟩
  ·refine dd ?_;refine .inr ⟨rfl,dd ?_⟩;exact⟨.inl O,_,zn.cell 2 O ((WC.none 1 3 3).trans (WC.share 1 3 [])),rfl⟩
 |cons x l=>
  have hl3:l.length+1<1000000000:=aq hl
  refine ab func216 ?_;refine⟨aj,uH ?_⟩;refine .inr ⟨.inl O,ay,by show _*24<=_;simp;omega,uH ?_⟩;exact dt
def Mc(e:En)(he:e.next.length<1000000000):tn 256 [] [.agg [],.agg (zD e)] (.agg (zD e)) []:=by
 refine ab func256 ?_;refine ah (vw e.next he) ?_;exact uI
def ZB(l:List En)(hl:l.length<1000000000)(hp:∀x∈l,tn 256 [] [.agg [],.agg (zD x)] (.agg (zD x)) []):tn 255 [] [lE l,.fn 256 [] [],.agg []] (.sl 0 [] 3 0 l.length false) [⟨2,168,3,l.map zD,0⟩]:=by
 have m1:(l.map zD).length=l.length:=gp ..;refine zb.zG (fn:=f255) func255 O (uH ?_);rw[m1];refine⟨rfl,aw,by show(40:Int)*_<=_;omega,aw,dd ?_⟩;rw[m1,toNat_cast];refine qa.seq l.length (λk=>((lE l)::.fn 256 [] []::.za::.za::.za::.ref 0 [] 0 0 0::.eS 1 0 []::.sl 1 [] 3 0 l.length false::.za::.za::.za::.za::.za::(lE l)::I l.length::I k::hU ([.za,.za,.za,.za,.za]))) (λk=>[⟨1,296,0,[[]],0⟩,⟨2,168,3,(l.map zD).take k++(List.replicate l.length [U 0,.eS 1 0 [],I 0]).drop k,0⟩]) (λk=>True) ?_ trivial (λk hk hr=>?_) (λhr=>?_)
 ·exact cC
 ·obtain⟨x,hx⟩:∃x,x=l[k]:=⟨_,rfl⟩;have hx2:l[k]?=some x:=by rw[dZ hk,hx]
  have hg:(l.map zD)[k]?=some (zD x):=by rw[gj,hx2];rfl
  conv=>whnf
  refine uF ?_;(refine td hg ?_)
  refine ah (hp x tK) ?_;refine⟨aw,aA,dd ?_⟩;have e1:0+(k:Int).toNat=k:=aj
  rw[e1];refine⟨_,j9 aj hk,rfl,dd ?_⟩;refine .inl ⟨rfl,?_,trivial⟩;have e2:=ja (z:=[U 0,.eS 1 0 [],I 0]) (n:=l.length) hg hk;rw[zw aw,<-e2];exact cE 2
 ·exact dq
def z5{r:List C}(h:r.all zB=true):∀q∈[r],∀c∈q,zB c=true:=λq hq c hc=>by
 rw[gN.1 hq]at hc;exact gA.1 h c hc
def J4(g:Gr):Prop:=g.ends.length<1000000000/\∀e∈g.ends,e.next.length<1000000000
def Gk(v:fc):Prop:=v.zq.length<1000000000/\∀g∈v.zq,J4 g
structure q8(w:Wor):Prop where
 pins:w.pins.length<1000000000
 ze:w.ze.length<1000000000/\∀v∈w.ze,Gk v
 zd:w.zd.length<1000000000
 counts:w.counts.length<1000000000/\∀r∈w.counts,r.length<1000000000
 zr:w.zr.length<1000000000
def K9(g:Gr)(hg:J4 g):tn 247 [] [.agg [],.agg (zK g)] (.agg (zK g)) []:=by
 refine ab func247 ?_;refine af [] (ZB g.ends hg.1 λe he=>Mc e (hg.2 e he)) ?_;exact⟨.inl O,_,zn.zS 2 0 1 O O O O (.inr O) O aj (shut_map (enc:=zD) (λ_=>O) g.ends) (z5 O),rfl⟩
def ZD(l:List Gr)(hl:l.length<1000000000)(hp:∀x∈l,tn 247 [] [.agg [],.agg (zK x)] (.agg (zK x)) []):tn 246 [] [lG l,.fn 247 [] [],.agg []] (.sl 0 [] 2 0 l.length false) [⟨2,165,2,l.map zK,0⟩]:=by
 have m1:(l.map zK).length=l.length:=gp ..;refine zb.zG (fn:=f246) func246 O (uH ?_);rw[m1];refine⟨rfl,aw,by show(32:Int)*_<=_;omega,aw,dd ?_⟩;rw[m1,toNat_cast];refine qa.seq l.length (λk=>((lG l)::.fn 247 [] []::.za::.za::.za::.ref 0 [] 0 0 0::.eS 1 0 []::.sl 1 [] 2 0 l.length false::.za::.za::.za::.za::.za::(lG l)::I l.length::I k::hU ([.za,.za,.za,.za,.za]))) (λk=>[⟨1,296,0,[[]],0⟩,⟨2,165,2,(l.map zK).take k++(List.replicate l.length ([U 0,.eS 1 0 []]:List C)).drop k,0⟩]) (λk=>True) ?_ trivial (λk hk hr=>?_) (λhr=>?_)
 ·exact cC
 ·obtain⟨x,hx⟩:∃x,x=l[k]:=⟨_,rfl⟩;have hx2:l[k]?=some x:=by rw[dZ hk,hx]
  have hg:(l.map zK)[k]?=some (zK x):=by rw[gj,hx2];rfl
  conv=>whnf
  refine uF ?_;(refine td hg ?_)
  refine ah (hp x tK) ?_;refine⟨aw,aA,dd ?_⟩;have e1:0+(k:Int).toNat=k:=aj
  rw[e1];refine⟨_,j9 aj hk,rfl,dd ?_⟩;refine .inl ⟨rfl,?_,trivial⟩;have e2:=ja (z:=([U 0,.eS 1 0 []]:List C)) (n:=l.length) hg hk;rw[zw aw,<-e2];exact cE 2
 ·exact dq
def jM(v:fc)(hv:Gk v):tn 212 [] [.agg [],.agg (zN v)] (.agg (zN v)) []:=by
 refine ab func212 ?_;refine af [] (ZD v.zq hv.1 λg hg=>K9 g (hv.2 g hg)) ?_;exact⟨.inl O,_,zn.zS 2 0 3 O O O O (.inr O) O aj (shut_map (enc:=zK) (λ_=>O) v.zq) (z5 O),rfl⟩
def Bj(l:List fc)(hl:l.length<1000000000)(hp:∀x∈l,tn 212 [] [.agg [],.agg (zN x)] (.agg (zN x)) []):tn 211 [] [lV l,.fn 212 [] [],.agg []] (.sl 0 [] 5 0 l.length false) [⟨2,138,5,l.map zN,0⟩]:=by
 have m1:(l.map zN).length=l.length:=gp ..;refine zb.zG (fn:=f211) func211 O (uH ?_);rw[m1];refine⟨rfl,aw,by show(104:Int)*_<=_;omega,aw,dd ?_⟩;rw[m1,toNat_cast];refine qa.seq l.length (λk=>((lV l)::.fn 212 [] []::.za::.za::.za::.ref 0 [] 0 0 0::.eS 1 0 []::.sl 1 [] 5 0 l.length false::.za::.za::.za::.za::.za::(lV l)::I l.length::I k::hU ([.za,.za,.za,.za,.za]))) (λk=>[⟨1,296,0,[[]],0⟩,⟨2,138,5,(l.map zN).take k++(List.replicate l.length ([.eS 1 0 [],.eS 1 0 [],.eS 1 0 [],.eS 1 0 [],Bo false]:List C)).drop k,0⟩]) (λk=>True) ?_ trivial (λk hk hr=>?_) (λhr=>?_)
 ·exact cC
 ·obtain⟨x,hx⟩:∃x,x=l[k]:=⟨_,rfl⟩;have hx2:l[k]?=some x:=by rw[dZ hk,hx]
  have hg:(l.map zN)[k]?=some (zN x):=by rw[gj,hx2];rfl
  conv=>whnf
  refine uF ?_;(refine td hg ?_)
  refine ah (hp x tK) ?_;refine⟨aw,aA,dd ?_⟩;have e1:0+(k:Int).toNat=k:=aj
  rw[e1];refine⟨_,j9 aj hk,rfl,dd ?_⟩;refine .inl ⟨rfl,?_,trivial⟩;have e2:=ja (z:=([.eS 1 0 [],.eS 1 0 [],.eS 1 0 [],.eS 1 0 [],Bo false]:List C)) (n:=l.length) hg hk;rw[zw aw,<-e2];exact cE 2
 ·exact dq
def yf(r:List Int)(hr:r.length<1000000000):tn 215 [] [.agg [],lU r] (lU r) []:=by
 refine ab func215 ?_;refine ah (XV r hr) ?_;exact uI
def Mh(H':zl)(ρ:Nat->Nat):∀(i:Nat) (K:zl),nQ [] H' ρ i K=K
 |_,[]=>rfl
 |i,ob::K=>by unfold nQ;rw[Mh H' ρ (i+1) K];rfl
def AE{P:Program}{f:FuncId}{args:List C}{r:C}{H':zl}(h:zb P f [] args r H')(hR:qP H'=true)(ha:args.map (xU [] 9)=args)(H:zl)(hf:qP H=true):
  zb P f H args (yV (q9 [] H.length) 9 r) (H++H'.map (zE (q9 [] H.length))):=by
 have:=h.part [] hR (K:=H) O ha O O hf;have e:wm [] H H'=H++H'.map (zE (q9 [] H.length)):=by unfold wm;rw[Mh];rfl
 rwa [e]at this
def N8{α:Type}{enc:α->List C}{f:C->C}(hf:∀x,(enc x).map f=enc x)(l:List α)(v:Nat)(row:List C):(((l.map enc).set v row).map λr=>r.map f)=(l.map enc).set v (row.map f):=by
 rw[p9,rQ]
 congr 1
 exact sb λx _=>hf x
def jT{n:Nat}{x:Ob}{H:zl}(h1:qM n [x]=true)(h2:qM n H=true):qM n (x::H)=true:=by
 unfold qM at *;simp only[sa,uj,tZ] at *;rw[h1,h2];rfl
def zc{x:Ob}{H:zl}(h1:qP [x]=true)(h2:qP H=true):qP (x::H)=true:=by
 unfold qP at *;simp only[sa,uj,tZ] at *;rw[h1,h2];rfl
def zg{ty sz fz:Nat}{rows:List (List C)}(h:∀r∈rows,∀c∈r,zB c=true):qP [⟨1,ty,sz,rows,fz⟩]=true:=by
 unfold qP;simp only[sa,uj,tZ];rw[gA]
 exactλr hr=>gA.2 λc hc=>h r hr c hc
def zC{α:Type}{enc:α->List C}{p:C->Bool}(h:∀x,(enc x).all p=true){row:List C}(hr:row.all p=true)(l:List α)(v:Nat):∀r∈(l.map enc).set v row,∀c∈r,p c=true:=λr hm c hc=>by
 rcases pM hm with hm|rfl
 ·obtain⟨x,_,rfl⟩:=gZ.1 hm;exact gA.1 (h x) c hc
 ·exact gA.1 hr c hc
def kH{α:Type}{enc:α->List C}{p:C->Bool}(h:∀x,(enc x).all p=true){row z:List C}(hz:z.all p=true)(l:List α){v k:Nat}(n:Nat)(hr:k<=v\/row.all p=true):∀r∈((l.map enc).set v row).take k++(List.replicate n z).drop k,∀c∈r,p c=true:=λr hm c hc=>by
 rcases gO.1 hm with hm|hm
 ·rcases hr with hr|hr
  ·rw[List.take_set_of_le hr]at hm;obtain⟨x,_,rfl⟩:=gZ.1 (rG hm);exact gA.1 (h x) c hc
  ·exact zC h hr l v r (rG hm) c hc
 ·rw[pw (sG hm)]at hc;exact gA.1 hz c hc
def Ts(e0:En)(x:Int)(l:List Int)(he:e0.next=x::l)(hl:l.length<1000000000):tn 256 [] [.agg [],.agg (zD e0)] (.agg [U e0.head,C.sl 0 [] 1 0 e0.next.length false,I e0.zi]) [⟨2,3,1,e0.next.map encI,0⟩]:=by
 have h1:tn 256 [] [.agg [],.agg (zD e0)] (.agg [U e0.head,C.sl 3 [] 1 0 e0.next.length false,I e0.zi]) [⟨1,296,0,[[]],0⟩,⟨1,168,3,[[U e0.head,C.sl 3 [] 1 0 e0.next.length false,I e0.zi]],0⟩,⟨1,168,3,[[U e0.head,C.sl 3 [] 1 0 e0.next.length false,I e0.zi]],0⟩,⟨2,3,1,e0.next.map encI,0⟩]:=by
  have hc:=NB x l hl;rw[<-he]at hc;refine zb.zG (fn:=f256) func256 O (uH ?_);refine af [] (hc) ?_;exact uJ
 exact h1.n8 (λB h _=>zn.fe [3] [0] _ _ tM O O O) (gY _)
def X7(e0:En)(x:Int)(l:List Int)(he:e0.next=x::l)(hl:l.length<1000000000)(H:zl)(hf:qP H=true):tn 256 H [.agg [],.agg (zD e0)] (.agg ([U e0.head,C.sl H.length [] 1 0 e0.next.length false,I e0.zi])) (H++[⟨2,3,1,e0.next.map encI,0⟩]):=
 AE (Ts e0 x l he hl) O O H hf
def zF{α:Type}{enc:α->List C}{sel:List Nat}(hf:∀x,(enc x).map (xU sel 9)=enc x)(l:List α)(v:Nat)(row:List C)(ty sz fz:Nat):zL sel ⟨1,ty,sz,(l.map enc).set v row,fz⟩=⟨1,ty,sz,(l.map enc).set v (row.map (xU sel 9)),fz⟩:=by
 show(⟨1,ty,sz,((l.map enc).set v row).map (λr=>r.map (xU sel 9)),fz⟩:Ob)=_;rw[N8 hf]
def zy{α:Type}{enc:α->List C}{ρ:Nat->Nat}(hf:∀x,(enc x).map (yV ρ 9)=enc x)(l:List α)(v:Nat)(row:List C)(ty sz fz:Nat):zE ρ ⟨1,ty,sz,(l.map enc).set v row,fz⟩=⟨1,ty,sz,(l.map enc).set v (row.map (yV ρ 9)),fz⟩:=by
 show(⟨1,ty,sz,((l.map enc).set v row).map (λr=>r.map (yV ρ 9)),fz⟩:Ob)=_;rw[N8 hf]
def XZ(l:List En)(e:Nat)(e0:En)(hv:l[e]?=some e0)(hl:l.length<1000000000)(hp:∀x∈l,tn 256 [] [.agg [],.agg (zD x)] (.agg (zD x)) [])
 (hA:∀H,qP H=true->tn 256 H [.agg [],.agg (zD e0)] (.agg ([U e0.head,C.sl H.length [] 1 0 e0.next.length false,I e0.zi])) (H++[⟨2,3,1,e0.next.map encI,0⟩])):
  tn 255 [] [lE l,.fn 256 [] [],.agg []] (.sl 0 [] 3 0 l.length false) [⟨1,0,3,(l.map zD).set e ([U e0.head,C.sl 1 [] 1 0 e0.next.length false,I e0.zi]),0⟩,⟨2,3,1,e0.next.map encI,0⟩]:=by
 have m1:(l.map zD).length=l.length:=gp ..;have hvl:=(dY.1 hv).1
 have h1:tn 255 [] [lE l,.fn 256 [] [],.agg []] (.sl 1 [] 3 0 l.length false) [⟨1,296,0,[[]],0⟩,⟨1,0,3,(l.map zD).set e ([U e0.head,C.sl 3 [] 1 0 e0.next.length false,I e0.zi]),0⟩,oD e0,⟨2,3,1,e0.next.map encI,0⟩]:=by
  refine zb.zG (fn:=f255) func255 O (uH ?_);rw[m1];refine⟨rfl,aw,by show(40:Int)*_<=_;omega,aw,dd ?_⟩;rw[m1,toNat_cast];have ZZ:List C:=([U 0,.eS 1 0 [],I 0]:List C);refine qa.seq l.length (λk=>((lE l)::.fn 256 [] []::.za::.za::.za::.ref 0 [] 0 0 0::.eS 1 0 []::.sl 1 [] 3 0 l.length false::.za::.za::.za::.za::.za::(lE l)::I l.length::I k::hU ([.za,.za,.za,.za,.za]))) (λk=>if k<=e then [⟨1,296,0,[[]],0⟩,⟨1,0,3,((l.map zD).set e ([U e0.head,C.sl 3 [] 1 0 e0.next.length false,I e0.zi])).take k++(List.replicate l.length ([U 0,.eS 1 0 [],I 0]:List C)).drop k,0⟩] else [⟨1,296,0,[[]],0⟩,⟨1,0,3,((l.map zD).set e ([U e0.head,C.sl 3 [] 1 0 e0.next.length false,I e0.zi])).take k++(List.replicate l.length ([U 0,.eS 1 0 [],I 0]:List C)).drop k,0⟩,oD e0,⟨2,3,1,e0.next.map encI,0⟩]) (λk=>True) ?_ trivial (λk hk hr=>?_) (λhr=>?_)
  ·rw[gk (gY _)];refine zn.trans (zn.C4 1 O λr hr c hc=>?_) (cC);rw[pw hr]at hc;exact gA.1 (rfl:([U 0,.eS 1 0 [],I 0]:List C).all zB=true) c hc
  ·obtain⟨x,hx⟩:∃x,x=l[k]:=⟨_,rfl⟩;have hx2:l[k]?=some x:=by rw[dZ hk,hx]
   have hxm:x∈l:=bP
   have hg:(l.map zD)[k]?=some (zD x):=by rw[gj,hx2];rfl
   have e1:0+(k:Int).toNat=k:=aj
   have low:∀n j,j<=e\/3<n->∀r∈((l.map zD).set e ([U e0.head,C.sl 3 [] 1 0 e0.next.length false,I e0.zi])).take j++(List.replicate l.length ([U 0,.eS 1 0 [],I 0]:List C)).drop j,∀c∈r,jc n 9 c=true:=λn j h=>kH (enc:=zD) (λ_=>O) O l l.length (h.imp_right λh=>by simp[jc,qv];omega)
   have own:∀j,∀r∈((l.map zD).set e ([U e0.head,C.sl 3 [] 1 0 e0.next.length false,I e0.zi])).take j++(List.replicate l.length ([U 0,.eS 1 0 [],I 0]:List C)).drop j,∀c∈r,zB c=true:=λj=>kH (enc:=zD) (λ_=>O) O l l.length (.inr O)
   by_cases hkv:k=e
   ·subst hkv;obtain rfl:e0=x:=by rw[hv]at hx2;exact gm hx2
    have hF:((l.map zD).set k ([U e0.head,C.sl 3 [] 1 0 e0.next.length false,I e0.zi]))[k]?=some ([U e0.head,C.sl 3 [] 1 0 e0.next.length false,I e0.zi]):=by rw[gG,gk O,gk (aq hk)]
    rw[gk (gD _),gf aw];conv=>whnf
    refine uF ?_;(refine td hg ?_)
    refine⟨_,_,hA _ (zc O (zc (zg (own k)) O)),dd ?_⟩;exact dh
   ·have hF:((l.map zD).set e ([U e0.head,C.sl 3 [] 1 0 e0.next.length false,I e0.zi]))[k]?=some (zD x):=by rw[gV (λh=>hkv h.symm)];exact hg
    by_cases eU:k<e
    ·rw[gk aw,gk aw];conv=>whnf
     refine uF ?_;(refine td hg ?_)
     refine ah (hp x hxm) ?_;refine⟨aw,aA,dd ?_⟩;rw[e1];refine⟨_,j9 aj hk,rfl,dd ?_⟩;refine .inl ⟨rfl,?_,trivial⟩;rw[zw aw,<-ja hF hk];refine zn.xw 2 hC O O O (jT O (yi ?_)) O;have lw:=low 2 (k+1) (.inl aw);rw[<-ja (z:=([U 0,.eS 1 0 [],I 0]:List C)) (n:=l.length) hF hk]at lw;exact lw
    ·rw[gf aw,gf aw];conv=>whnf
     refine uF ?_;(refine td hg ?_)
     refine ah (hp x hxm) ?_;refine⟨aw,aA,dd ?_⟩;rw[e1];refine⟨_,j9 aj hk,rfl,dd ?_⟩;refine .inl ⟨rfl,?_,trivial⟩;rw[zw aw,<-ja hF hk];refine zn.xw 4 hC O O O (jT O (jT (yi ?_) (jT O O))) O;have lw:=low 4 (k+1) (.inr aw);rw[<-ja (z:=([U 0,.eS 1 0 [],I 0]:List C)) (n:=l.length) hF hk]at lw;exact lw
  ·exact dX
 refine h1.n8 (λB h _=>?_) (gY _);have hw:=zn.fe (B:=B) [1,3] [0] [.sl 1 [] 3 0 l.length false] [⟨1,296,0,[[]],0⟩,⟨1,0,3,(l.map zD).set e ([U e0.head,C.sl 3 [] 1 0 e0.next.length false,I e0.zi]),0⟩,oD e0,⟨2,3,1,e0.next.map encI,0⟩] tM O O (zc O (zc (zg (zC (enc:=zD) (λ_=>O) O l e)) (zc O O)))
 have e:xy [1,3] [⟨1,296,0,[[]],0⟩,⟨1,0,3,(l.map zD).set e ([U e0.head,C.sl 3 [] 1 0 e0.next.length false,I e0.zi]),0⟩,oD e0,⟨2,3,1,e0.next.map encI,0⟩]=[⟨1,0,3,(l.map zD).set e ([U e0.head,C.sl 1 [] 1 0 e0.next.length false,I e0.zi]),0⟩,⟨2,3,1,e0.next.map encI,0⟩]:=by
  show zL [1,3] ⟨1,0,3,(l.map zD).set e ([U e0.head,C.sl 3 [] 1 0 e0.next.length false,I e0.zi]),0⟩::_=_;rw[zF (enc:=zD) (λ_=>O)]
  rfl
 rw[e]at hw;exact hw
structure Gi(g0:Gr)(e:Nat)(e0:En):Prop where
 sm:J4 g0
 at_:g0.ends[e]?=some e0
 ne:e0.next≠[]
def ZA{g0:Gr}{e:Nat}{e0:En}(h:Gi g0 e e0)(H:zl)(hf:qP H=true):tn 255 H [lE g0.ends,.fn 256 [] [],.agg []] (.sl H.length [] 3 0 g0.ends.length false) (H++[⟨1,0,3,(g0.ends.map zD).set e ([U e0.head,C.sl (H.length+1) [] 1 0 e0.next.length false,I e0.zi]),0⟩,⟨2,3,1,e0.next.map encI,0⟩]):=by
 obtain⟨x,l,hx⟩:∃x l,e0.next=x::l:=by
  cases hh:e0.next with
  |nil=>exact absurd hh h.ne
  |cons x l=>exact⟨x,l,rfl⟩
 have hlen:l.length<1000000000:=by
  have:=h.sm.2 e0 (gh h.at_);rw[hx]at this;exact de
 have:=AE (XZ g0.ends e e0 h.at_ h.sm.1 (λy hy=>Mc y (h.sm.2 y hy)) (X7 e0 x l hx hlen)) (zc (zg (zC (enc:=zD) (λ_=>O) O _ _)) O) O H hf
 have e9:[(⟨1,0,3,(g0.ends.map zD).set e ([U e0.head,C.sl 1 [] 1 0 e0.next.length false,I e0.zi]),0⟩:Ob),⟨2,3,1,e0.next.map encI,0⟩].map (zE (q9 [] H.length))=[⟨1,0,3,(g0.ends.map zD).set e ([U e0.head,C.sl (H.length+1) [] 1 0 e0.next.length false,I e0.zi]),0⟩,⟨2,3,1,e0.next.map encI,0⟩]:=by
  show zE _ ⟨1,0,3,_,0⟩::_=_;rw[zy (enc:=zD) (λ_=>O)]
  rfl
 rw[e9]at this;exact dF
def R3{g0:Gr}{e:Nat}{e0:En}(h:Gi g0 e e0):tn 247 [] [.agg [],.agg (zK g0)] (.agg [U g0.zt,C.sl 0 [] 3 0 g0.ends.length false]) [⟨1,0,3,(g0.ends.map zD).set e ([U e0.head,C.sl 1 [] 1 0 e0.next.length false,I e0.zi]),0⟩,⟨2,3,1,e0.next.map encI,0⟩]:=by
 have own:∀i,∀r∈(g0.ends.map zD).set e ([U e0.head,C.sl i [] 1 0 e0.next.length false,I e0.zi]),∀c∈r,zB c=true:=λi=>zC (enc:=zD) (λ_=>O) O _ _
 have h1:tn 247 [] [.agg [],.agg (zK g0)] (.agg [U g0.zt,C.sl 3 [] 3 0 g0.ends.length false]) [⟨1,296,0,[[]],0⟩,⟨1,165,2,[[U g0.zt,C.sl 3 [] 3 0 g0.ends.length false]],0⟩,⟨1,165,2,[[U g0.zt,C.sl 3 [] 3 0 g0.ends.length false]],0⟩,⟨1,0,3,(g0.ends.map zD).set e ([U e0.head,C.sl 4 [] 1 0 e0.next.length false,I e0.zi]),0⟩,⟨2,3,1,e0.next.map encI,0⟩]:=by
  refine zb.zG (fn:=f247) func247 O (uH ?_);refine⟨_,_,ZA h _ O,dd ?_⟩;exact uJ
 refine h1.n8 (λB hB _=>?_) (gY _);have hw:=zn.fe (B:=B) [3,4] [0] [.agg [U g0.zt,C.sl 3 [] 3 0 g0.ends.length false]] [⟨1,296,0,[[]],0⟩,⟨1,165,2,[[U g0.zt,C.sl 3 [] 3 0 g0.ends.length false]],0⟩,⟨1,165,2,[[U g0.zt,C.sl 3 [] 3 0 g0.ends.length false]],0⟩,⟨1,0,3,(g0.ends.map zD).set e ([U e0.head,C.sl 4 [] 1 0 e0.next.length false,I e0.zi]),0⟩,⟨2,3,1,e0.next.map encI,0⟩] (by rw[show B=0 from aq hB];rfl) O O (zc O (zc O (zc O (zc (zg (own 4)) O))))
 have e:xy [3,4] [⟨1,296,0,[[]],0⟩,⟨1,165,2,[[U g0.zt,C.sl 3 [] 3 0 g0.ends.length false]],0⟩,⟨1,165,2,[[U g0.zt,C.sl 3 [] 3 0 g0.ends.length false]],0⟩,⟨1,0,3,(g0.ends.map zD).set e ([U e0.head,C.sl 4 [] 1 0 e0.next.length false,I e0.zi]),0⟩,⟨2,3,1,e0.next.map encI,0⟩]=[⟨1,0,3,(g0.ends.map zD).set e ([U e0.head,C.sl 1 [] 1 0 e0.next.length false,I e0.zi]),0⟩,⟨2,3,1,e0.next.map encI,0⟩]:=by
  show zL [3,4] ⟨1,0,3,(g0.ends.map zD).set e ([U e0.head,C.sl 4 [] 1 0 e0.next.length false,I e0.zi]),0⟩::_=_;rw[zF (enc:=zD) (λ_=>O)]
  rfl
 rw[e]at hw;exact hw
def UJ{g0:Gr}{e:Nat}{e0:En}(h:Gi g0 e e0)(H:zl)(hf:qP H=true):tn 247 H [.agg [],.agg (zK g0)] (.agg ([U g0.zt,C.sl H.length [] 3 0 g0.ends.length false])) (H++[⟨1,0,3,(g0.ends.map zD).set e ([U e0.head,C.sl (H.length+1) [] 1 0 e0.next.length false,I e0.zi]),0⟩,⟨2,3,1,e0.next.map encI,0⟩]):=by
 have:=AE (R3 h) (zc (zg (zC (enc:=zD) (λ_=>O) O _ _)) O) O H hf
 have e9:[(⟨1,0,3,(g0.ends.map zD).set e ([U e0.head,C.sl 1 [] 1 0 e0.next.length false,I e0.zi]),0⟩:Ob),⟨2,3,1,e0.next.map encI,0⟩].map (zE (q9 [] H.length))=[⟨1,0,3,(g0.ends.map zD).set e ([U e0.head,C.sl (H.length+1) [] 1 0 e0.next.length false,I e0.zi]),0⟩,⟨2,3,1,e0.next.map encI,0⟩]:=by
  show zE _ ⟨1,0,3,_,0⟩::_=_;rw[zy (enc:=zD) (λ_=>O)]
  rfl
 rw[e9]at this;exact dF
def X4(e0:En)(e:Nat)(l:List Gr)(g:Nat)(g0:Gr)(hv:l[g]?=some g0)(hl:l.length<1000000000)(hp:∀x∈l,tn 247 [] [.agg [],.agg (zK x)] (.agg (zK x)) [])
 (hA:∀H,qP H=true->tn 247 H [.agg [],.agg (zK g0)] (.agg ([U g0.zt,C.sl H.length [] 3 0 g0.ends.length false])) (H++[⟨1,0,3,(g0.ends.map zD).set e ([U e0.head,C.sl (H.length+1) [] 1 0 e0.next.length false,I e0.zi]),0⟩,⟨2,3,1,e0.next.map encI,0⟩])):
  tn 246 [] [lG l,.fn 247 [] [],.agg []] (.sl 0 [] 2 0 l.length false) [⟨1,0,2,(l.map zK).set g ([U g0.zt,C.sl 1 [] 3 0 g0.ends.length false]),0⟩,⟨1,0,3,(g0.ends.map zD).set e ([U e0.head,C.sl 2 [] 1 0 e0.next.length false,I e0.zi]),0⟩,⟨2,3,1,e0.next.map encI,0⟩]:=by
 have m1:(l.map zK).length=l.length:=gp ..;have hvl:=(dY.1 hv).1
 have h1:tn 246 [] [lG l,.fn 247 [] [],.agg []] (.sl 1 [] 2 0 l.length false) [⟨1,296,0,[[]],0⟩,⟨1,0,2,(l.map zK).set g ([U g0.zt,C.sl 3 [] 3 0 g0.ends.length false]),0⟩,⟨1,165,2,[zK g0],0⟩,⟨1,0,3,(g0.ends.map zD).set e ([U e0.head,C.sl 4 [] 1 0 e0.next.length false,I e0.zi]),0⟩,⟨2,3,1,e0.next.map encI,0⟩]:=by
  refine zb.zG (fn:=f246) func246 O (uH ?_);rw[m1];refine⟨rfl,aw,by show(32:Int)*_<=_;omega,aw,dd ?_⟩;rw[m1,toNat_cast];have ZZ:List C:=([U 0,.eS 1 0 []]:List C);refine qa.seq l.length (λk=>((lG l)::.fn 247 [] []::.za::.za::.za::.ref 0 [] 0 0 0::.eS 1 0 []::.sl 1 [] 2 0 l.length false::.za::.za::.za::.za::.za::(lG l)::I l.length::I k::hU ([.za,.za,.za,.za,.za]))) (λk=>if k<=g then [⟨1,296,0,[[]],0⟩,⟨1,0,2,((l.map zK).set g ([U g0.zt,C.sl 3 [] 3 0 g0.ends.length false])).take k++(List.replicate l.length ([U 0,.eS 1 0 []]:List C)).drop k,0⟩] else [⟨1,296,0,[[]],0⟩,⟨1,0,2,((l.map zK).set g ([U g0.zt,C.sl 3 [] 3 0 g0.ends.length false])).take k++(List.replicate l.length ([U 0,.eS 1 0 []]:List C)).drop k,0⟩,⟨1,165,2,[zK g0],0⟩,⟨1,0,3,(g0.ends.map zD).set e ([U e0.head,C.sl 4 [] 1 0 e0.next.length false,I e0.zi]),0⟩,⟨2,3,1,e0.next.map encI,0⟩]) (λk=>True) ?_ trivial (λk hk hr=>?_) (λhr=>?_)
  ·rw[gk (gY _)];refine zn.trans (zn.C4 1 O λr hr c hc=>?_) (cC);rw[pw hr]at hc;exact gA.1 (rfl:([U 0,.eS 1 0 []]:List C).all zB=true) c hc
  ·obtain⟨x,hx⟩:∃x,x=l[k]:=⟨_,rfl⟩;have hx2:l[k]?=some x:=by rw[dZ hk,hx]
   have hxm:x∈l:=bP
   have hg:(l.map zK)[k]?=some (zK x):=by rw[gj,hx2];rfl
   have e1:0+(k:Int).toNat=k:=aj
   have low:∀n j,j<=g\/3<n->∀r∈((l.map zK).set g ([U g0.zt,C.sl 3 [] 3 0 g0.ends.length false])).take j++(List.replicate l.length ([U 0,.eS 1 0 []]:List C)).drop j,∀c∈r,jc n 9 c=true:=λn j h=>kH (enc:=zK) (λ_=>O) O l l.length (h.imp_right λh=>by simp[jc,qv];omega)
   have own:∀j,∀r∈((l.map zK).set g ([U g0.zt,C.sl 3 [] 3 0 g0.ends.length false])).take j++(List.replicate l.length ([U 0,.eS 1 0 []]:List C)).drop j,∀c∈r,zB c=true:=λj=>kH (enc:=zK) (λ_=>O) O l l.length (.inr O)
   by_cases hkv:k=g
   ·subst hkv;obtain rfl:g0=x:=by rw[hv]at hx2;exact gm hx2
    have hF:((l.map zK).set k ([U g0.zt,C.sl 3 [] 3 0 g0.ends.length false]))[k]?=some ([U g0.zt,C.sl 3 [] 3 0 g0.ends.length false]):=by rw[gG,gk O,gk (aq hk)]
    rw[gk (gD _),gf aw];conv=>whnf
    refine uF ?_;(refine td hg ?_)
    refine⟨_,_,hA _ (zc O (zc (zg (own k)) O)),dd ?_⟩;exact dh
   ·have hF:((l.map zK).set g ([U g0.zt,C.sl 3 [] 3 0 g0.ends.length false]))[k]?=some (zK x):=by rw[gV (λh=>hkv h.symm)];exact hg
    by_cases eU:k<g
    ·rw[gk aw,gk aw];conv=>whnf
     refine uF ?_;(refine td hg ?_)
     refine ah (hp x hxm) ?_;refine⟨aw,aA,dd ?_⟩;rw[e1];refine⟨_,j9 aj hk,rfl,dd ?_⟩;refine .inl ⟨rfl,?_,trivial⟩;rw[zw aw,<-ja hF hk];refine zn.xw 2 hC O O O (jT O (yi ?_)) O;have lw:=low 2 (k+1) (.inl aw);rw[<-ja (z:=([U 0,.eS 1 0 []]:List C)) (n:=l.length) hF hk]at lw;exact lw
    ·rw[gf aw,gf aw];conv=>whnf
     refine uF ?_;(refine td hg ?_)
     refine ah (hp x hxm) ?_;refine⟨aw,aA,dd ?_⟩;rw[e1];refine⟨_,j9 aj hk,rfl,dd ?_⟩;refine .inl ⟨rfl,?_,trivial⟩;rw[zw aw,<-ja hF hk];refine zn.xw 5 hC O O O (jT O (jT (yi ?_) (jT O (jT (yi (zC (enc:=zD) (λ_=>O) O _ _)) O)))) O;have lw:=low 5 (k+1) (.inr aw);rw[<-ja (z:=([U 0,.eS 1 0 []]:List C)) (n:=l.length) hF hk]at lw;exact lw
  ·exact dX
 refine h1.n8 (λB h _=>?_) (gY _);have hw:=zn.fe (B:=B) [1,3,4] [0] [.sl 1 [] 2 0 l.length false] [⟨1,296,0,[[]],0⟩,⟨1,0,2,(l.map zK).set g ([U g0.zt,C.sl 3 [] 3 0 g0.ends.length false]),0⟩,⟨1,165,2,[zK g0],0⟩,⟨1,0,3,(g0.ends.map zD).set e ([U e0.head,C.sl 4 [] 1 0 e0.next.length false,I e0.zi]),0⟩,⟨2,3,1,e0.next.map encI,0⟩] tM O O (zc O (zc (zg (zC (enc:=zK) (λ_=>O) O l g)) (zc O (zc (zg (zC (enc:=zD) (λ_=>O) O _ _)) O))))
 have e:xy [1,3,4] [⟨1,296,0,[[]],0⟩,⟨1,0,2,(l.map zK).set g ([U g0.zt,C.sl 3 [] 3 0 g0.ends.length false]),0⟩,⟨1,165,2,[zK g0],0⟩,⟨1,0,3,(g0.ends.map zD).set e ([U e0.head,C.sl 4 [] 1 0 e0.next.length false,I e0.zi]),0⟩,⟨2,3,1,e0.next.map encI,0⟩]=[⟨1,0,2,(l.map zK).set g ([U g0.zt,C.sl 1 [] 3 0 g0.ends.length false]),0⟩,⟨1,0,3,(g0.ends.map zD).set e ([U e0.head,C.sl 2 [] 1 0 e0.next.length false,I e0.zi]),0⟩,⟨2,3,1,e0.next.map encI,0⟩]:=by
  show zL [1,3,4] ⟨1,0,2,(l.map zK).set g ([U g0.zt,C.sl 3 [] 3 0 g0.ends.length false]),0⟩::_=_;rw[zF (enc:=zK) (λ_=>O)];show _::zL [1,3,4] ⟨1,0,3,(g0.ends.map zD).set e ([U e0.head,C.sl 4 [] 1 0 e0.next.length false,I e0.zi]),0⟩::_=_;rw[zF (enc:=zD) (λ_=>O)];rfl
 rw[e]at hw;exact hw
structure Gj(v0:fc)(g:Nat)(g0:Gr)(e:Nat)(e0:En):Prop extends Gi g0 e e0 where
 Dx:Gk v0
 fE:v0.zq[g]?=some g0
def ZC{v0:fc}{g:Nat}{g0:Gr}{e:Nat}{e0:En}(h:Gj v0 g g0 e e0)(H:zl)(hf:qP H=true):tn 246 H [lG v0.zq,.fn 247 [] [],.agg []] (.sl H.length [] 2 0 v0.zq.length false) (H++[⟨1,0,2,(v0.zq.map zK).set g ([U g0.zt,C.sl (H.length+1) [] 3 0 g0.ends.length false]),0⟩,⟨1,0,3,(g0.ends.map zD).set e ([U e0.head,C.sl (H.length+2) [] 1 0 e0.next.length false,I e0.zi]),0⟩,⟨2,3,1,e0.next.map encI,0⟩]):=by
 have:=AE (X4 e0 e v0.zq g g0 h.fE h.Dx.1 (λy hy=>K9 y (h.Dx.2 y hy)) (UJ h.toGi)) (zc (zg (zC (enc:=zK) (λ_=>O) O _ _)) (zc (zg (zC (enc:=zD) (λ_=>O) O _ _)) O)) O H hf
 have e9:[(⟨1,0,2,(v0.zq.map zK).set g ([U g0.zt,C.sl 1 [] 3 0 g0.ends.length false]),0⟩:Ob),⟨1,0,3,(g0.ends.map zD).set e ([U e0.head,C.sl 2 [] 1 0 e0.next.length false,I e0.zi]),0⟩,⟨2,3,1,e0.next.map encI,0⟩].map (zE (q9 [] H.length))=[⟨1,0,2,(v0.zq.map zK).set g ([U g0.zt,C.sl (H.length+1) [] 3 0 g0.ends.length false]),0⟩,⟨1,0,3,(g0.ends.map zD).set e ([U e0.head,C.sl (H.length+2) [] 1 0 e0.next.length false,I e0.zi]),0⟩,⟨2,3,1,e0.next.map encI,0⟩]:=by
  show zE _ ⟨1,0,2,_,0⟩::zE _ ⟨1,0,3,_,0⟩::_=_;rw[zy (enc:=zK) (λ_=>O),zy (enc:=zD) (λ_=>O)]
  rfl
 rw[e9]at this;exact dF
def RR{v0:fc}{g:Nat}{g0:Gr}{e:Nat}{e0:En}(h:Gj v0 g g0 e e0):tn 212 [] [.agg [],.agg (zN v0)] (.agg (qv v0.snap++[C.sl 0 [] 2 0 v0.zq.length false,Bo v0.qQ])) [⟨1,0,2,(v0.zq.map zK).set g ([U g0.zt,C.sl 1 [] 3 0 g0.ends.length false]),0⟩,⟨1,0,3,(g0.ends.map zD).set e ([U e0.head,C.sl 2 [] 1 0 e0.next.length false,I e0.zi]),0⟩,⟨2,3,1,e0.next.map encI,0⟩]:=by
 have h1:tn 212 [] [.agg [],.agg (zN v0)] (.agg (qv v0.snap++[C.sl 3 [] 2 0 v0.zq.length false,Bo v0.qQ])) [⟨1,296,0,[[]],0⟩,⟨1,138,5,[(qv v0.snap++[C.sl 3 [] 2 0 v0.zq.length false,Bo v0.qQ])],0⟩,⟨1,138,5,[(qv v0.snap++[C.sl 3 [] 2 0 v0.zq.length false,Bo v0.qQ])],0⟩,⟨1,0,2,(v0.zq.map zK).set g ([U g0.zt,C.sl 4 [] 3 0 g0.ends.length false]),0⟩,⟨1,0,3,(g0.ends.map zD).set e ([U e0.head,C.sl 5 [] 1 0 e0.next.length false,I e0.zi]),0⟩,⟨2,3,1,e0.next.map encI,0⟩]:=by
  refine zb.zG (fn:=f212) func212 O (uH ?_);refine⟨_,_,ZC h _ O,dd ?_⟩;exact uJ
 refine h1.n8 (λB hB _=>?_) (gY _);have hw:=zn.fe (B:=B) [3,4,5] [0] [.agg (qv v0.snap++[C.sl 3 [] 2 0 v0.zq.length false,Bo v0.qQ])] [⟨1,296,0,[[]],0⟩,⟨1,138,5,[(qv v0.snap++[C.sl 3 [] 2 0 v0.zq.length false,Bo v0.qQ])],0⟩,⟨1,138,5,[(qv v0.snap++[C.sl 3 [] 2 0 v0.zq.length false,Bo v0.qQ])],0⟩,⟨1,0,2,(v0.zq.map zK).set g ([U g0.zt,C.sl 4 [] 3 0 g0.ends.length false]),0⟩,⟨1,0,3,(g0.ends.map zD).set e ([U e0.head,C.sl 5 [] 1 0 e0.next.length false,I e0.zi]),0⟩,⟨2,3,1,e0.next.map encI,0⟩] (by rw[show B=0 from aq hB];rfl) O O (zc O (zc O (zc O (zc (zg (zC (enc:=zK) (λ_=>O) O _ _)) (zc (zg (zC (enc:=zD) (λ_=>O) O _ _)) O)))))
 have e:xy [3,4,5] [⟨1,296,0,[[]],0⟩,⟨1,138,5,[(qv v0.snap++[C.sl 3 [] 2 0 v0.zq.length false,Bo v0.qQ])],0⟩,⟨1,138,5,[(qv v0.snap++[C.sl 3 [] 2 0 v0.zq.length false,Bo v0.qQ])],0⟩,⟨1,0,2,(v0.zq.map zK).set g ([U g0.zt,C.sl 4 [] 3 0 g0.ends.length false]),0⟩,⟨1,0,3,(g0.ends.map zD).set e ([U e0.head,C.sl 5 [] 1 0 e0.next.length false,I e0.zi]),0⟩,⟨2,3,1,e0.next.map encI,0⟩]=[⟨1,0,2,(v0.zq.map zK).set g ([U g0.zt,C.sl 1 [] 3 0 g0.ends.length false]),0⟩,⟨1,0,3,(g0.ends.map zD).set e ([U e0.head,C.sl 2 [] 1 0 e0.next.length false,I e0.zi]),0⟩,⟨2,3,1,e0.next.map encI,0⟩]:=by
  show zL [3,4,5] ⟨1,0,2,(v0.zq.map zK).set g ([U g0.zt,C.sl 4 [] 3 0 g0.ends.length false]),0⟩::zL [3,4,5] ⟨1,0,3,(g0.ends.map zD).set e ([U e0.head,C.sl 5 [] 1 0 e0.next.length false,I e0.zi]),0⟩::_=_;rw[zF (enc:=zK) (λ_=>O),zF (enc:=zD) (λ_=>O)]
  rfl
 rw[e]at hw;exact hw
def SC{v0:fc}{g:Nat}{g0:Gr}{e:Nat}{e0:En}(h:Gj v0 g g0 e e0)(H:zl)(hf:qP H=true):tn 212 H [.agg [],.agg (zN v0)] (.agg ((qv v0.snap++[C.sl H.length [] 2 0 v0.zq.length false,Bo v0.qQ]))) (H++[⟨1,0,2,(v0.zq.map zK).set g ([U g0.zt,C.sl (H.length+1) [] 3 0 g0.ends.length false]),0⟩,⟨1,0,3,(g0.ends.map zD).set e ([U e0.head,C.sl (H.length+2) [] 1 0 e0.next.length false,I e0.zi]),0⟩,⟨2,3,1,e0.next.map encI,0⟩]):=by
 have:=AE (RR h) (zc (zg (zC (enc:=zK) (λ_=>O) O _ _)) (zc (zg (zC (enc:=zD) (λ_=>O) O _ _)) O)) O H hf
 have e9:[(⟨1,0,2,(v0.zq.map zK).set g ([U g0.zt,C.sl 1 [] 3 0 g0.ends.length false]),0⟩:Ob),⟨1,0,3,(g0.ends.map zD).set e ([U e0.head,C.sl 2 [] 1 0 e0.next.length false,I e0.zi]),0⟩,⟨2,3,1,e0.next.map encI,0⟩].map (zE (q9 [] H.length))=[⟨1,0,2,(v0.zq.map zK).set g ([U g0.zt,C.sl (H.length+1) [] 3 0 g0.ends.length false]),0⟩,⟨1,0,3,(g0.ends.map zD).set e ([U e0.head,C.sl (H.length+2) [] 1 0 e0.next.length false,I e0.zi]),0⟩,⟨2,3,1,e0.next.map encI,0⟩]:=by
  show zE _ ⟨1,0,2,_,0⟩::zE _ ⟨1,0,3,_,0⟩::_=_;rw[zy (enc:=zK) (λ_=>O),zy (enc:=zD) (λ_=>O)]
  rfl
 rw[e9]at this;exact dF
def X6(g0:Gr)(g:Nat)(e0:En)(e:Nat)(l:List fc)(v:Nat)(v0:fc)(hv:l[v]?=some v0)(hl:l.length<1000000000)(hp:∀x∈l,tn 212 [] [.agg [],.agg (zN x)] (.agg (zN x)) [])
 (hA:∀H,qP H=true->tn 212 H [.agg [],.agg (zN v0)] (.agg ((qv v0.snap++[C.sl H.length [] 2 0 v0.zq.length false,Bo v0.qQ]))) (H++[⟨1,0,2,(v0.zq.map zK).set g ([U g0.zt,C.sl (H.length+1) [] 3 0 g0.ends.length false]),0⟩,⟨1,0,3,(g0.ends.map zD).set e ([U e0.head,C.sl (H.length+2) [] 1 0 e0.next.length false,I e0.zi]),0⟩,⟨2,3,1,e0.next.map encI,0⟩])):
  tn 211 [] [lV l,.fn 212 [] [],.agg []] (.sl 0 [] 5 0 l.length false) [⟨1,0,5,(l.map zN).set v ((qv v0.snap++[C.sl 1 [] 2 0 v0.zq.length false,Bo v0.qQ])),0⟩,⟨1,0,2,(v0.zq.map zK).set g ([U g0.zt,C.sl 2 [] 3 0 g0.ends.length false]),0⟩,⟨1,0,3,(g0.ends.map zD).set e ([U e0.head,C.sl 3 [] 1 0 e0.next.length false,I e0.zi]),0⟩,⟨2,3,1,e0.next.map encI,0⟩]:=by
 have m1:(l.map zN).length=l.length:=gp ..;have hvl:=(dY.1 hv).1
 have h1:tn 211 [] [lV l,.fn 212 [] [],.agg []] (.sl 1 [] 5 0 l.length false) [⟨1,296,0,[[]],0⟩,⟨1,0,5,(l.map zN).set v ((qv v0.snap++[C.sl 3 [] 2 0 v0.zq.length false,Bo v0.qQ])),0⟩,⟨1,138,5,[zN v0],0⟩,⟨1,0,2,(v0.zq.map zK).set g ([U g0.zt,C.sl 4 [] 3 0 g0.ends.length false]),0⟩,⟨1,0,3,(g0.ends.map zD).set e ([U e0.head,C.sl 5 [] 1 0 e0.next.length false,I e0.zi]),0⟩,⟨2,3,1,e0.next.map encI,0⟩]:=by
  refine zb.zG (fn:=f211) func211 O (uH ?_);rw[m1];refine⟨rfl,aw,by show(104:Int)*_<=_;omega,aw,dd ?_⟩;rw[m1,toNat_cast];have ZZ:List C:=([.eS 1 0 [],.eS 1 0 [],.eS 1 0 [],.eS 1 0 [],Bo false]:List C);refine qa.seq l.length (λk=>((lV l)::.fn 212 [] []::.za::.za::.za::.ref 0 [] 0 0 0::.eS 1 0 []::.sl 1 [] 5 0 l.length false::.za::.za::.za::.za::.za::(lV l)::I l.length::I k::hU ([.za,.za,.za,.za,.za]))) (λk=>if k<=v then [⟨1,296,0,[[]],0⟩,⟨1,0,5,((l.map zN).set v ((qv v0.snap++[C.sl 3 [] 2 0 v0.zq.length false,Bo v0.qQ]))).take k++(List.replicate l.length ([.eS 1 0 [],.eS 1 0 [],.eS 1 0 [],.eS 1 0 [],Bo false]:List C)).drop k,0⟩] else [⟨1,296,0,[[]],0⟩,⟨1,0,5,((l.map zN).set v ((qv v0.snap++[C.sl 3 [] 2 0 v0.zq.length false,Bo v0.qQ]))).take k++(List.replicate l.length ([.eS 1 0 [],.eS 1 0 [],.eS 1 0 [],.eS 1 0 [],Bo false]:List C)).drop k,0⟩,⟨1,138,5,[zN v0],0⟩,⟨1,0,2,(v0.zq.map zK).set g ([U g0.zt,C.sl 4 [] 3 0 g0.ends.length false]),0⟩,⟨1,0,3,(g0.ends.map zD).set e ([U e0.head,C.sl 5 [] 1 0 e0.next.length false,I e0.zi]),0⟩,⟨2,3,1,e0.next.map encI,0⟩]) (λk=>True) ?_ trivial (λk hk hr=>?_) (λhr=>?_)
  ·rw[gk (gY _)];refine zn.trans (zn.C4 1 O λr hr c hc=>?_) (cC);rw[pw hr]at hc;exact gA.1 (rfl:([.eS 1 0 [],.eS 1 0 [],.eS 1 0 [],.eS 1 0 [],Bo false]:List C).all zB=true) c hc
  ·obtain⟨x,hx⟩:∃x,x=l[k]:=⟨_,rfl⟩;have hx2:l[k]?=some x:=by rw[dZ hk,hx]
   have hxm:x∈l:=bP
   have hg:(l.map zN)[k]?=some (zN x):=by rw[gj,hx2];rfl
   have e1:0+(k:Int).toNat=k:=aj
   have low:∀n j,j<=v\/3<n->∀r∈((l.map zN).set v ((qv v0.snap++[C.sl 3 [] 2 0 v0.zq.length false,Bo v0.qQ]))).take j++(List.replicate l.length ([.eS 1 0 [],.eS 1 0 [],.eS 1 0 [],.eS 1 0 [],Bo false]:List C)).drop j,∀c∈r,jc n 9 c=true:=λn j h=>kH (enc:=zN) (λ_=>O) O l l.length (h.imp_right λh=>by simp[jc,qv];omega)
   have own:∀j,∀r∈((l.map zN).set v ((qv v0.snap++[C.sl 3 [] 2 0 v0.zq.length false,Bo v0.qQ]))).take j++(List.replicate l.length ([.eS 1 0 [],.eS 1 0 [],.eS 1 0 [],.eS 1 0 [],Bo false]:List C)).drop j,∀c∈r,zB c=true:=λj=>kH (enc:=zN) (λ_=>O) O l l.length (.inr O)
   by_cases hkv:k=v
   ·subst hkv;obtain rfl:v0=x:=by rw[hv]at hx2;exact gm hx2
    have hF:((l.map zN).set k ((qv v0.snap++[C.sl 3 [] 2 0 v0.zq.length false,Bo v0.qQ])))[k]?=some ((qv v0.snap++[C.sl 3 [] 2 0 v0.zq.length false,Bo v0.qQ])):=by rw[gG,gk O,gk (aq hk)]
    rw[gk (gD _),gf aw];conv=>whnf
    refine uF ?_;(refine td hg ?_)
    refine⟨_,_,hA _ (zc O (zc (zg (own k)) O)),dd ?_⟩;exact dh
   ·have hF:((l.map zN).set v ((qv v0.snap++[C.sl 3 [] 2 0 v0.zq.length false,Bo v0.qQ])))[k]?=some (zN x):=by rw[gV (λh=>hkv h.symm)];exact hg
    by_cases eU:k<v
    ·rw[gk aw,gk aw];conv=>whnf
     refine uF ?_;(refine td hg ?_)
     refine ah (hp x hxm) ?_;refine⟨aw,aA,dd ?_⟩;rw[e1];refine⟨_,j9 aj hk,rfl,dd ?_⟩;refine .inl ⟨rfl,?_,trivial⟩;rw[zw aw,<-ja hF hk];refine zn.xw 2 hC O O O (jT O (yi ?_)) O;have lw:=low 2 (k+1) (.inl aw);rw[<-ja (z:=([.eS 1 0 [],.eS 1 0 [],.eS 1 0 [],.eS 1 0 [],Bo false]:List C)) (n:=l.length) hF hk]at lw;exact lw
    ·rw[gf aw,gf aw];conv=>whnf
     refine uF ?_;(refine td hg ?_)
     refine ah (hp x hxm) ?_;refine⟨aw,aA,dd ?_⟩;rw[e1];refine⟨_,j9 aj hk,rfl,dd ?_⟩;refine .inl ⟨rfl,?_,trivial⟩;rw[zw aw,<-ja hF hk];refine zn.xw 6 hC O O O (jT O (jT (yi ?_) (jT O (jT (yi (zC (enc:=zK) (λ_=>O) O _ _)) (jT (yi (zC (enc:=zD) (λ_=>O) O _ _)) O))))) O;have lw:=low 6 (k+1) (.inr aw);rw[<-ja (z:=([.eS 1 0 [],.eS 1 0 [],.eS 1 0 [],.eS 1 0 [],Bo false]:List C)) (n:=l.length) hF hk]at lw;exact lw
  ·exact dX
 refine h1.n8 (λB h _=>?_) (gY _);have hw:=zn.fe (B:=B) [1,3,4,5] [0] [.sl 1 [] 5 0 l.length false] [⟨1,296,0,[[]],0⟩,⟨1,0,5,(l.map zN).set v ((qv v0.snap++[C.sl 3 [] 2 0 v0.zq.length false,Bo v0.qQ])),0⟩,⟨1,138,5,[zN v0],0⟩,⟨1,0,2,(v0.zq.map zK).set g ([U g0.zt,C.sl 4 [] 3 0 g0.ends.length false]),0⟩,⟨1,0,3,(g0.ends.map zD).set e ([U e0.head,C.sl 5 [] 1 0 e0.next.length false,I e0.zi]),0⟩,⟨2,3,1,e0.next.map encI,0⟩] tM O O (zc O (zc (zg (zC (enc:=zN) (λ_=>O) O l v)) (zc O (zc (zg (zC (enc:=zK) (λ_=>O) O _ _)) (zc (zg (zC (enc:=zD) (λ_=>O) O _ _)) O)))))
 have e:xy [1,3,4,5] [⟨1,296,0,[[]],0⟩,⟨1,0,5,(l.map zN).set v ((qv v0.snap++[C.sl 3 [] 2 0 v0.zq.length false,Bo v0.qQ])),0⟩,⟨1,138,5,[zN v0],0⟩,⟨1,0,2,(v0.zq.map zK).set g ([U g0.zt,C.sl 4 [] 3 0 g0.ends.length false]),0⟩,⟨1,0,3,(g0.ends.map zD).set e ([U e0.head,C.sl 5 [] 1 0 e0.next.length false,I e0.zi]),0⟩,⟨2,3,1,e0.next.map encI,0⟩]=[⟨1,0,5,(l.map zN).set v ((qv v0.snap++[C.sl 1 [] 2 0 v0.zq.length false,Bo v0.qQ])),0⟩,⟨1,0,2,(v0.zq.map zK).set g ([U g0.zt,C.sl 2 [] 3 0 g0.ends.length false]),0⟩,⟨1,0,3,(g0.ends.map zD).set e ([U e0.head,C.sl 3 [] 1 0 e0.next.length false,I e0.zi]),0⟩,⟨2,3,1,e0.next.map encI,0⟩]:=by
  show zL [1,3,4,5] ⟨1,0,5,(l.map zN).set v ((qv v0.snap++[C.sl 3 [] 2 0 v0.zq.length false,Bo v0.qQ])),0⟩::_=_;rw[zF (enc:=zN) (λ_=>O)];show _::zL [1,3,4,5] ⟨1,0,2,(v0.zq.map zK).set g ([U g0.zt,C.sl 4 [] 3 0 g0.ends.length false]),0⟩::zL [1,3,4,5] ⟨1,0,3,(g0.ends.map zD).set e ([U e0.head,C.sl 5 [] 1 0 e0.next.length false,I e0.zi]),0⟩::_=_;rw[zF (enc:=zK) (λ_=>O),zF (enc:=zD) (λ_=>O)];rfl
 rw[e]at hw;exact hw
structure JN(vs:List fc)(v:Nat)(v0:fc)(g:Nat)(g0:Gr)(e:Nat)(e0:En):Prop extends Gj v0 g g0 e e0 where
 P3:vs.length<1000000000/\∀v∈vs,Gk v
 fH:vs[v]?=some v0
def ZF{vs:List fc}{v:Nat}{v0:fc}{g:Nat}{g0:Gr}{e:Nat}{e0:En}(h:JN vs v v0 g g0 e e0)(H:zl)(hf:qP H=true):tn 211 H [lV vs,.fn 212 [] [],.agg []] (.sl H.length [] 5 0 vs.length false) (H++[⟨1,0,5,(vs.map zN).set v ((qv v0.snap++[C.sl (H.length+1) [] 2 0 v0.zq.length false,Bo v0.qQ])),0⟩,⟨1,0,2,(v0.zq.map zK).set g ([U g0.zt,C.sl (H.length+2) [] 3 0 g0.ends.length false]),0⟩,⟨1,0,3,(g0.ends.map zD).set e ([U e0.head,C.sl (H.length+3) [] 1 0 e0.next.length false,I e0.zi]),0⟩,⟨2,3,1,e0.next.map encI,0⟩]):=by
 have:=AE (X6 g0 g e0 e vs v v0 h.fH h.P3.1 (λy hy=>jM y (h.P3.2 y hy)) (SC h.toGj)) (zc (zg (zC (enc:=zN) (λ_=>O) O _ _)) (zc (zg (zC (enc:=zK) (λ_=>O) O _ _)) (zc (zg (zC (enc:=zD) (λ_=>O) O _ _)) O))) O H hf
 have e9:[(⟨1,0,5,(vs.map zN).set v ((qv v0.snap++[C.sl 1 [] 2 0 v0.zq.length false,Bo v0.qQ])),0⟩:Ob),⟨1,0,2,(v0.zq.map zK).set g ([U g0.zt,C.sl 2 [] 3 0 g0.ends.length false]),0⟩,⟨1,0,3,(g0.ends.map zD).set e ([U e0.head,C.sl 3 [] 1 0 e0.next.length false,I e0.zi]),0⟩,⟨2,3,1,e0.next.map encI,0⟩].map (zE (q9 [] H.length))=[⟨1,0,5,(vs.map zN).set v ((qv v0.snap++[C.sl (H.length+1) [] 2 0 v0.zq.length false,Bo v0.qQ])),0⟩,⟨1,0,2,(v0.zq.map zK).set g ([U g0.zt,C.sl (H.length+2) [] 3 0 g0.ends.length false]),0⟩,⟨1,0,3,(g0.ends.map zD).set e ([U e0.head,C.sl (H.length+3) [] 1 0 e0.next.length false,I e0.zi]),0⟩,⟨2,3,1,e0.next.map encI,0⟩]:=by
  show zE _ ⟨1,0,5,_,0⟩::zE _ ⟨1,0,2,_,0⟩::zE _ ⟨1,0,3,_,0⟩::_=_;rw[zy (enc:=zN) (λ_=>O),zy (enc:=zK) (λ_=>O),zy (enc:=zD) (λ_=>O)]
  rfl
 rw[e9]at this;exact dF
def Bi(l:List (List Int))(hl:l.length<1000000000)(hp:∀x∈l,tn 215 [] [.agg [],lU x] (lU x) []):tn 214 [] [fK l,.fn 215 [] [],.agg []] (.sl 0 [] 1 0 l.length false) [⟨2,226,1,l.map zP,0⟩]:=by
 have m1:(l.map zP).length=l.length:=gp ..;refine zb.zG (fn:=f214) func214 O (uH ?_);rw[m1];refine⟨rfl,aw,by show(24:Int)*_<=_;omega,aw,dd ?_⟩;rw[m1,toNat_cast];refine qa.seq l.length (λk=>((fK l)::.fn 215 [] []::.za::.za::.za::.ref 0 [] 0 0 0::.eS 1 0 []::.sl 1 [] 1 0 l.length false::.za::.za::.za::.za::.za::(fK l)::I l.length::I k::hU ([.za,.za,.za,.za,.za]))) (λk=>[⟨1,296,0,[[]],0⟩,⟨2,226,1,(l.map zP).take k++(List.replicate l.length ([.eS 1 0 []]:List C)).drop k,0⟩]) (λk=>True) ?_ trivial (λk hk hr=>?_) (λhr=>?_)
 ·exact cC
 ·obtain⟨x,hx⟩:∃x,x=l[k]:=⟨_,rfl⟩;have hx2:l[k]?=some x:=by rw[dZ hk,hx]
  have hg:(l.map zP)[k]?=some (zP x):=by rw[gj,hx2];rfl
  conv=>whnf
  refine uF ?_;(refine td hg ?_)
  refine ah (hp x tK) ?_;refine⟨aw,aA,dd ?_⟩;have e1:0+(k:Int).toNat=k:=aj
  rw[e1];refine⟨_,j9 aj hk,rfl,dd ?_⟩;refine .inl ⟨rfl,?_,trivial⟩;have e2:=ja (z:=([.eS 1 0 []]:List C)) (n:=l.length) hg hk;rw[zw aw,<-e2];exact cE 2
 ·exact dq
def Vn(r0:List Int)(x:Int)(l:List Int)(he:r0=x::l)(hl:l.length<1000000000):tn 215 [] [.agg [],lU r0] (.sl 0 [] 1 0 r0.length false) [⟨2,63,1,r0.map jS,0⟩]:=by
 have h1:tn 215 [] [.agg [],lU r0] (.sl 1 [] 1 0 r0.length false) [⟨1,296,0,[[]],0⟩,⟨2,63,1,r0.map jS,0⟩]:=by
  have hc:=XU x l hl;rw[<-he]at hc;refine zb.zG (fn:=f215) func215 O (uH ?_);refine af [] (hc) ?_;exact uJ
 exact h1.n8 (λB h _=>zn.fe [1] [0] _ _ tM O O O) (gY _)
def YM(r0:List Int)(x:Int)(l:List Int)(he:r0=x::l)(hl:l.length<1000000000)(H:zl)(hf:qP H=true):tn 215 H [.agg [],lU r0] (.sl H.length [] 1 0 r0.length false) (H++[⟨2,63,1,r0.map jS,0⟩]):=
 AE (Vn r0 x l he hl) O O H hf
def BY{P:Program}{f:FuncId}{fn:Func}{c:Code}{H2:zl}{args:List C}{r:C}(hf:P.funcs[f]?=some fn)(hb:fn.body=some c)
 (h:wpA P 0 c (entry fn args) [] λex t1 H1=>(ex=.ret\/ex=.normal)/\∃s2 r1,zn 0 ⟨t1,H1⟩ s2/\vL P fn s2=some r1/\zn 0 ⟨[r1],s2.H⟩ ⟨[r],H2⟩):zb P f [] args r H2:=λw E vs hh hl=>by
 have h1:ql P f [] args λr1 H1=>zn 0 ⟨[r1],H1⟩ ⟨[r],H2⟩:=ql.zG hf hb h
 refine(h1 w E vs hh hl).mono ?_;rintro e w' ⟨r1,H1,v,E',hw,h0,h2,h3,g⟩;obtain⟨E2,hs,g2⟩:=hw 0 w' E' ⟨#[v],[]⟩ ⟨h2,LL.one h3,gY _,gY _⟩;have hn2:=hs.heap.n;have hn0:E.n=0:=hh.n;refine⟨v,E2,h0,hs.heap,hs.tmps.cons_inv.1,⟨⟨by rw[hn0];exact gY _,λid hops hi=>by rw[hn0]at hi;omega,λid hops hi=>by rw[hn0]at hi;omega,λb o u hu=>g2.le.St _ _ _ (g.le.St _ _ _ hu),λid k u hi hu=>by rw[hn0]at hi;omega⟩,g2.os.trans g.os,g2.tape.trans g.tape,g2.output.trans g.output,pB g.size g2.size,?_,?_,?_⟩⟩
 ·intro k hk ho;exact di
 ·intro b o u hu;rcases g2.jO b o u hu with h1|h1|h1
  ·exact g.jO b o u h1
  ·exact .inr (.inl (pB g.size h1))
  ·rcases g.own b h1 with h4|h4
   ·exact .inr (.inl h4)
   ·exact .inr (.inr h4)
 ·intro b hb;rcases g2.own b hb with h1|h1
  ·exact .inl (pB g.size h1)
  ·exact g.own b h1
def qw(w:Wor)(h:q8 w):tn 162 [] [Cw w] (Cw w) []:=by
 refine ab func162 ?_;refine ah (vw w.pins h.pins) ?_;refine af [] (Bj w.ze h.ze.1 λv hv=>jM v (h.ze.2 v hv)) ?_;refine ah (kF w.zd h.zd) ?_;refine af [] (Bi w.counts h.counts.1 λr hr=>yf r (h.counts.2 r hr)) ?_;refine ah (CF w.zr h.zr) ?_;exact⟨.inl O,_,(zn.zS 1 0 4 O O O O (.inr O) O aj (shut_map (enc:=zN) (λ_=>O) w.ze) (z5 O)).trans (zn.zS 1 0 6 O O O O (.inr O) O aj (shut_map (enc:=zP) (λ_=>O) w.counts) (z5 O)),rfl⟩
def X5(l:List (List Int))(t:Nat)(r0:(List Int))(hv:l[t]?=some r0)(hl:l.length<1000000000)(hp:∀x∈l,tn 215 [] [.agg [],lU x] (lU x) [])
 (hA:∀H,qP H=true->tn 215 H [.agg [],lU r0] (.sl H.length [] 1 0 r0.length false) (H++[⟨2,63,1,r0.map jS,0⟩])):
  tn 214 [] [fK l,.fn 215 [] [],.agg []] (.sl 0 [] 1 0 l.length false) [⟨1,0,1,(l.map zP).set t ([C.sl 1 [] 1 0 r0.length false]),0⟩,⟨2,63,1,r0.map jS,0⟩]:=by
 have m1:(l.map zP).length=l.length:=gp ..;have hvl:=(dY.1 hv).1
 have h1:tn 214 [] [fK l,.fn 215 [] [],.agg []] (.sl 1 [] 1 0 l.length false) [⟨1,296,0,[[]],0⟩,⟨1,0,1,(l.map zP).set t ([C.sl 2 [] 1 0 r0.length false]),0⟩,⟨2,63,1,r0.map jS,0⟩]:=by
  refine zb.zG (fn:=f214) func214 O (uH ?_);rw[m1];refine⟨rfl,aw,by show(24:Int)*_<=_;omega,aw,dd ?_⟩;rw[m1,toNat_cast];have ZZ:List C:=([.eS 1 0 []]:List C);refine qa.seq l.length (λk=>((fK l)::.fn 215 [] []::.za::.za::.za::.ref 0 [] 0 0 0::.eS 1 0 []::.sl 1 [] 1 0 l.length false::.za::.za::.za::.za::.za::(fK l)::I l.length::I k::hU ([.za,.za,.za,.za,.za]))) (λk=>if k<=t then [⟨1,296,0,[[]],0⟩,⟨1,0,1,((l.map zP).set t ([C.sl 2 [] 1 0 r0.length false])).take k++(List.replicate l.length ([.eS 1 0 []]:List C)).drop k,0⟩] else [⟨1,296,0,[[]],0⟩,⟨1,0,1,((l.map zP).set t ([C.sl 2 [] 1 0 r0.length false])).take k++(List.replicate l.length ([.eS 1 0 []]:List C)).drop k,0⟩,⟨2,63,1,r0.map jS,0⟩]) (λk=>True) ?_ trivial (λk hk hr=>?_) (λhr=>?_)
  ·rw[gk (gY _)];refine zn.trans (zn.C4 1 O λr hr c hc=>?_) (cC);rw[pw hr]at hc;exact gA.1 (rfl:([.eS 1 0 []]:List C).all zB=true) c hc
  ·obtain⟨x,hx⟩:∃x,x=l[k]:=⟨_,rfl⟩;have hx2:l[k]?=some x:=by rw[dZ hk,hx]
   have hxm:x∈l:=bP
   have hg:(l.map zP)[k]?=some (zP x):=by rw[gj,hx2];rfl
   have e1:0+(k:Int).toNat=k:=aj
   have low:∀n j,j<=t\/2<n->∀r∈((l.map zP).set t ([C.sl 2 [] 1 0 r0.length false])).take j++(List.replicate l.length ([.eS 1 0 []]:List C)).drop j,∀c∈r,jc n 9 c=true:=λn j h=>kH (enc:=zP) (λ_=>O) O l l.length (h.imp_right λh=>by simp[jc,qv];omega)
   have own:∀j,∀r∈((l.map zP).set t ([C.sl 2 [] 1 0 r0.length false])).take j++(List.replicate l.length ([.eS 1 0 []]:List C)).drop j,∀c∈r,zB c=true:=λj=>kH (enc:=zP) (λ_=>O) O l l.length (.inr O)
   by_cases hkv:k=t
   ·subst hkv;obtain rfl:r0=x:=by rw[hv]at hx2;exact gm hx2
    have hF:((l.map zP).set k ([C.sl 2 [] 1 0 r0.length false]))[k]?=some ([C.sl 2 [] 1 0 r0.length false]):=by rw[gG,gk O,gk (aq hk)]
    rw[gk (gD _),gf aw];conv=>whnf
    refine uF ?_;(refine td hg ?_)
    refine⟨_,_,hA _ (zc O (zg (own k))),dd ?_⟩;exact dh
   ·have hF:((l.map zP).set t ([C.sl 2 [] 1 0 r0.length false]))[k]?=some (zP x):=by rw[gV (λh=>hkv h.symm)];exact hg
    by_cases eU:k<t
    ·rw[gk aw,gk aw];conv=>whnf
     refine uF ?_;(refine td hg ?_)
     refine ah (hp x hxm) ?_;refine⟨aw,aA,dd ?_⟩;rw[e1];refine⟨_,j9 aj hk,rfl,dd ?_⟩;refine .inl ⟨rfl,?_,trivial⟩;rw[zw aw,<-ja hF hk];refine zn.xw 2 hC O O O (jT O (yi ?_)) O;have lw:=low 2 (k+1) (.inl aw);rw[<-ja (z:=([.eS 1 0 []]:List C)) (n:=l.length) hF hk]at lw;exact lw
    ·rw[gf aw,gf aw];conv=>whnf
     refine uF ?_;(refine td hg ?_)
     refine ah (hp x hxm) ?_;refine⟨aw,aA,dd ?_⟩;rw[e1];refine⟨_,j9 aj hk,rfl,dd ?_⟩;refine .inl ⟨rfl,?_,trivial⟩;rw[zw aw,<-ja hF hk];refine zn.xw 3 hC O O O (jT O (jT (yi ?_) O)) O;have lw:=low 3 (k+1) (.inr aw);rw[<-ja (z:=([.eS 1 0 []]:List C)) (n:=l.length) hF hk]at lw;exact lw
  ·exact dX
 refine h1.n8 (λB h _=>?_) (gY _);have hw:=zn.fe (B:=B) [1,2] [0] [.sl 1 [] 1 0 l.length false] [⟨1,296,0,[[]],0⟩,⟨1,0,1,(l.map zP).set t ([C.sl 2 [] 1 0 r0.length false]),0⟩,⟨2,63,1,r0.map jS,0⟩] tM O O (zc O (zc (zg (zC (enc:=zP) (λ_=>O) O l t)) O))
 have e:xy [1,2] [⟨1,296,0,[[]],0⟩,⟨1,0,1,(l.map zP).set t ([C.sl 2 [] 1 0 r0.length false]),0⟩,⟨2,63,1,r0.map jS,0⟩]=[⟨1,0,1,(l.map zP).set t ([C.sl 1 [] 1 0 r0.length false]),0⟩,⟨2,63,1,r0.map jS,0⟩]:=by
  show zL [1,2] ⟨1,0,1,(l.map zP).set t ([C.sl 2 [] 1 0 r0.length false]),0⟩::_=_;rw[zF (enc:=zP) (λ_=>O)]
  rfl
 rw[e]at hw;exact hw
structure Gh(cs:List (List Int))(t:Nat)(r0:List Int):Prop where
 sm:cs.length<1000000000/\∀r∈cs,r.length<1000000000
 at_:cs[t]?=some r0
 ne:r0≠[]
def ZE{cs:List (List Int)}{t:Nat}{r0:List Int}(h:Gh cs t r0)(H:zl)(hf:qP H=true):tn 214 H [fK cs,.fn 215 [] [],.agg []] (.sl H.length [] 1 0 cs.length false) (H++[⟨1,0,1,(cs.map zP).set t ([C.sl (H.length+1) [] 1 0 r0.length false]),0⟩,⟨2,63,1,r0.map jS,0⟩]):=by
 obtain⟨x,l,hx⟩:∃x l,r0=x::l:=by
  cases hh:r0 with
  |nil=>exact absurd hh h.ne
  |cons x l=>exact⟨x,l,rfl⟩
 have hlen:l.length<1000000000:=by
  have:=h.sm.2 r0 (gh h.at_);rw[hx]at this;exact de
 have:=AE (X5 cs t r0 h.at_ h.sm.1 (λy hy=>yf y (h.sm.2 y hy)) (YM r0 x l hx hlen)) (zc (zg (zC (enc:=zP) (λ_=>O) O _ _)) O) O H hf
 have e9:[(⟨1,0,1,(cs.map zP).set t ([C.sl 1 [] 1 0 r0.length false]),0⟩:Ob),⟨2,63,1,r0.map jS,0⟩].map (zE (q9 [] H.length))=[⟨1,0,1,(cs.map zP).set t ([C.sl (H.length+1) [] 1 0 r0.length false]),0⟩,⟨2,63,1,r0.map jS,0⟩]:=by
  show zE _ ⟨1,0,1,_,0⟩::_=_;rw[zy (enc:=zP) (λ_=>O)]
  rfl
 rw[e9]at this;exact dF
def K6(w:Wor)(h:q8 w)(x:Int)(l:List Int)(hx:w.pins=x::l):tn 162 [] [Cw w] (.agg [I w.zo,I w.current,I w.lock,.sl 0 [] 1 0 w.pins.length false,lV w.ze,lL w.zd,fK w.counts,lR w.zr]) [⟨2,3,1,w.pins.map encI,0⟩]:=by
 have hl:l.length<1000000000:=by have:=h.pins;rw[hx]at this;exact de
 have hc:=NB x l hl;rw[<-hx]at hc;refine BY (fn:=f162) func162 O (uH ?_);refine af [] (hc) ?_;refine af [] (Bj w.ze h.ze.1 λv hv=>jM v (h.ze.2 v hv)) ?_;refine ah (kF w.zd h.zd) ?_;refine af [] (Bi w.counts h.counts.1 λr hr=>yf r (h.counts.2 r hr)) ?_;refine ah (CF w.zr h.zr) ?_;refine⟨.inl O,_,_,(zn.zS 1 0 4 O O O O (.inr O) O aj (shut_map (enc:=zN) (λ_=>O) w.ze) (z5 O)).trans (zn.zS 1 0 6 O O O O (.inr O) O aj (shut_map (enc:=zP) (λ_=>O) w.counts) (z5 O)),rfl,?_⟩;exact zn.fe [3] [0] _ _ O O O (zc O (zc O (zc O (zc O (zc (zg λr hr c hc=>((shut_map (enc:=zN) (λ_=>O) w.ze) r hr c hc).2) (zg λr hr c hc=>((shut_map (enc:=zP) (λ_=>O) w.counts) r hr c hc).2))))))
def Oh{B:Nat}(sel m:List Nat){t t2:List C}{H H2:zl}(hB:C3 B 0 sel=true)(z8:sel.all (λid=>Nat.blt id H.length)=true)(fV:yc sel=true)(fP:qP H=true)(et:(Bx m 0 t).map (xU sel 9)=t2)(e:xy sel H=H2):zn B ⟨t,H⟩ ⟨t2,H2⟩:=by
 subst et e;exact zn.fe sel m t H hB z8 fV fP
def vx(w:Wor)(h:q8 w)(x:fq)(l:List fq)(hx:w.zd=x::l):tn 162 [] [Cw w] (.agg [I w.zo,I w.current,I w.lock,lI w.pins,lV w.ze,.sl 0 [] 4 0 w.zd.length false,fK w.counts,lR w.zr]) [⟨2,144,4,w.zd.map qN,0⟩]:=by
 have hl:l.length<1000000000:=by have:=h.zd;rw[hx]at this;exact de
 have hc:=WR x l hl;rw[<-hx]at hc;refine BY (fn:=f162) func162 O (uH ?_);refine ah (vw w.pins h.pins) ?_;refine af [] (Bj w.ze h.ze.1 λv hv=>jM v (h.ze.2 v hv)) ?_;refine af [] (hc) ?_;refine af [] (Bi w.counts h.counts.1 λr hr=>yf r (h.counts.2 r hr)) ?_;refine ah (CF w.zr h.zr) ?_;refine⟨.inl O,_,_,(zn.zS 1 0 4 O O O O (.inr O) O aj (shut_map (enc:=zN) (λ_=>O) w.ze) (z5 O)).trans (zn.zS 1 0 6 O O O O (.inr O) O aj (shut_map (enc:=zP) (λ_=>O) w.counts) (z5 O)),rfl,?_⟩;exact zn.fe [4] [0] _ _ O O O (zc O (zc O (zc O (zc (zg λr hr c hc=>((shut_map (enc:=zN) (λ_=>O) w.ze) r hr c hc).2) (zc O (zg λr hr c hc=>((shut_map (enc:=zP) (λ_=>O) w.counts) r hr c hc).2))))))
def K5(w:Wor)(h:q8 w)(cs:List (List Int))(hcs:w.counts=cs){t:Nat}{r0:List Int}(hp:Gh cs t r0):tn 162 [] [Cw w] (.agg [I w.zo,I w.current,I w.lock,lI w.pins,lV w.ze,lL w.zd,.sl 0 [] 1 0 cs.length false,lR w.zr]) [⟨1,0,1,(cs.map zP).set t ([C.sl 1 [] 1 0 r0.length false]),0⟩,⟨2,63,1,r0.map jS,0⟩]:=by
 subst hcs;have own:∀i,∀r∈(w.counts.map zP).set t ([C.sl i [] 1 0 r0.length false]),∀c∈r,zB c=true:=λi=>zC (enc:=zP) (λ_=>O) O _ _
 refine BY (fn:=f162) func162 O (uH ?_);refine ah (vw w.pins h.pins) ?_;refine af [] (Bj w.ze h.ze.1 λv hv=>jM v (h.ze.2 v hv)) ?_;refine ah (kF w.zd h.zd) ?_;refine⟨_,_,ZE hp _ (zc O (zc O (zc O O))),dd ?_⟩;refine ah (CF w.zr h.zr) ?_;refine⟨.inl O,_,_,zn.zS 1 0 4 O O O O (.inr O) O aj (shut_map (enc:=zN) (λ_=>O) w.ze) (z5 O),rfl,?_⟩;refine Oh [4,5] [0] O O O (zc O (zc O (zc O (zc (zg λr hr c hc=>((shut_map (enc:=zN) (λ_=>O) w.ze) r hr c hc).2) (zc (zg (own 5)) O))))) O ?_;show zL [4,5] ⟨1,0,1,(w.counts.map zP).set t ([C.sl 5 [] 1 0 r0.length false]),0⟩::_=_;rw[zF (enc:=zP) (λ_=>O)]
 rfl
def Zz(w:Wor)(h:q8 w)(H:zl)(hf:qP H=true):tn 214 H [fK w.counts,.fn 215 [] [],.agg []] (.sl H.length [] 1 0 w.counts.length false) (H++[⟨2,226,1,w.counts.map zP,0⟩]):=
 AE (Bi w.counts h.counts.1 λr hr=>yf r (h.counts.2 r hr)) O O H hf
def yM(w:Wor)(h:q8 w)(vs:List fc)(hvs:w.ze=vs){v:Nat}{v0:fc}{g:Nat}{g0:Gr}{e:Nat}{e0:En}(hp:JN vs v v0 g g0 e e0):tn 162 [] [Cw w] (.agg [I w.zo,I w.current,I w.lock,lI w.pins,.sl 0 [] 5 0 vs.length false,lL w.zd,fK w.counts,lR w.zr]) [⟨1,0,5,(vs.map zN).set v ((qv v0.snap++[C.sl 1 [] 2 0 v0.zq.length false,Bo v0.qQ])),0⟩,⟨1,0,2,(v0.zq.map zK).set g ([U g0.zt,C.sl 2 [] 3 0 g0.ends.length false]),0⟩,⟨1,0,3,(g0.ends.map zD).set e ([U e0.head,C.sl 3 [] 1 0 e0.next.length false,I e0.zi]),0⟩,⟨2,3,1,e0.next.map encI,0⟩]:=by
 subst hvs;have own:∀i,∀r∈(w.ze.map zN).set v ((qv v0.snap++[C.sl i [] 2 0 v0.zq.length false,Bo v0.qQ])),∀c∈r,zB c=true:=λi=>zC (enc:=zN) (λ_=>O) O _ _
 refine BY (fn:=f162) func162 O (uH ?_);refine ah (vw w.pins h.pins) ?_;refine⟨_,_,ZF hp _ O,dd ?_⟩;refine ah (kF w.zd h.zd) ?_;refine⟨_,_,Zz w h _ (zc O (zc O (zc O (zc (zg (own 4)) (zc (zg (zC (enc:=zK) (λ_=>O) O _ _)) (zc (zg (zC (enc:=zD) (λ_=>O) O _ _)) O)))))),dd ?_⟩;refine ah (CF w.zr h.zr) ?_;refine⟨.inl O,_,_,zn.zS 1 0 6 O O O O (.inr O) O aj (shut_map (enc:=zP) (λ_=>O) w.counts) (z5 O),rfl,?_⟩;refine Oh [3,4,5,6] [0] O O O (zc O (zc O (zc O (zc (zg (own 4)) (zc (zg (zC (enc:=zK) (λ_=>O) O _ _)) (zc (zg (zC (enc:=zD) (λ_=>O) O _ _)) (zc O (zg λr hr c hc=>((shut_map (enc:=zP) (λ_=>O) w.counts) r hr c hc).2)))))))) O ?_;show zL [3,4,5,6] ⟨1,0,5,(w.ze.map zN).set v ((qv v0.snap++[C.sl 4 [] 2 0 v0.zq.length false,Bo v0.qQ])),0⟩::zL [3,4,5,6] ⟨1,0,2,(v0.zq.map zK).set g ([U g0.zt,C.sl 5 [] 3 0 g0.ends.length false]),0⟩::zL [3,4,5,6] ⟨1,0,3,(g0.ends.map zD).set e ([U e0.head,C.sl 6 [] 1 0 e0.next.length false,I e0.zi]),0⟩::_=_;rw[zF (enc:=zN) (λ_=>O),zF (enc:=zK) (λ_=>O),zF (enc:=zD) (λ_=>O)]
 rfl
def iQ(i n:Int):Bool:=decide (0<=i) && decide (i<n)
def wV(i n:Int):tn 195 [] [I i,I n] (Bo (iQ i n)) []:=by
 refine ab func195 ?_;refine⟨λh1=>?_,λh1=>?_⟩
 ·refine dd ?_;refine⟨λh2=>?_,λh2=>?_⟩
  ·refine dd ?_
   (exact⟨.inl O,_,.refl _,uN (by unfold iQ;simp at h1 h2 ⊢;omega)⟩)
  ·refine dd ?_
   (exact⟨.inl O,_,.refl _,uN (by unfold iQ;simp at h1 h2 ⊢;omega)⟩)
 ·refine dd ?_
  (exact⟨.inl O,_,.refl _,uN (by unfold iQ;simp at h1 ⊢;omega)⟩)
def Hx{H:zl}{f:FuncId}{caps:List C}{l:List Int}(p:Int->Bool)(hcb:qi prog f=true)(hp:∀r∈l,tn f H ([I r]++caps) (Bo (p r)) H)(hl:l.length<4611686018427387904):
  tn 59 H [lI l,.fn f [] caps] (I (match l.findIdx? p with|some i=>(i:Int)|none=> -1)) H:=by
 refine zb.zG (fn:=f59) func59 O (uH ?_)
 refine qa.inv (λn t1 H1=>∃k,k+n=l.length/\H1=H/\(∀j,j<k->∀r,l[j]?=some r->p r=false)/\
   t1=((lI l)::.fn f [] caps::.za::.za::I 0::.za::.za::I (l.map encI).length::I k::hU ([.za,.za]))) l.length ?_ ?_
 ·exact dc
 rintro n _ _ ⟨k,hk,rfl,hno,rfl⟩;conv=>whnf
 refine⟨λh=>?_,λh=>?_⟩
 ·conv=>whnf
  have eU:k<l.length:=aq h
  refine⟨aw,encI l[k],aZ,uH ?_⟩;rw[hcb];refine⟨_,_,hp _ (gW eU),uH ?_⟩;refine⟨λh2=>?_,λh2=>?_⟩
  ·conv=>whnf
   refine .inr ⟨aj,uH ?_⟩;refine⟨.inl O,_,.refl _,rfl,?_⟩
   have:l.findIdx? p=some k:=by
    rw[gJ];refine⟨eU,h2,λj hj=>?_⟩;simp[hno j hj _ (dZ aw)]
   rw[this]
   rfl
  ·conv=>whnf
   refine .inl ⟨rfl,n-1,_,_,aw,zn.mask [0,1,4,7,8] _ _,k+1,aw,rfl,?_,?_⟩
   ·intro j hj r hr;by_cases hjk:j=k
    ·subst hjk;rw[dZ eU]at hr;cases hr
     exact h2
    ·exact hno j aw r hr
   ·rw[zw aw];rfl
 ·conv=>whnf
  refine .inr ⟨aj,uH ?_⟩;refine⟨.inl O,_,.refl _,rfl,?_⟩
  have:l.findIdx? p=none:=by
   rw[gP];intro x hx;obtain⟨j,hj⟩:=gQ.1 hx;have hjl:=(dY.1 hj).1;have:¬k<l.length:=aq h
   exact hno j aw x hj
  rw[this]
  rfl
def E9{H:zl}{f:FuncId}{caps:List C}{l:List Int}(p:Int->Bool)(hcb:qi prog f=true)(hp:∀r∈l,tn f H ([I r]++caps) (Bo (p r)) H)(hl:l.length<4611686018427387904):
  tn 69 H [lI l,.fn f [] caps] (Bo (l.any p)) H:=by
 refine zb.zG (fn:=f69) func69 O (uH ?_);refine⟨_,_,Hx p hcb hp hl,dd ?_⟩;rw[show decide ((match l.findIdx? p with|some i=>((i:Nat):Int)|none=>(-1:Int))≥(0:Int))=l.any p from BW l p];refine⟨λh=>?_,λh=>?_⟩ <;> rw[h]
 ·exact dk
 ·exact dk
def Ub{H:zl}{f:FuncId}{caps:List C}{l:List En}(p:En->Bool)(hcb:qi prog f=true)(hp:∀r∈l,tn f H ([Go.Slp.Ev r]++caps) (Bo (p r)) H)(hl:l.length<4611686018427387904):
  tn 117 H [lE l,.fn f [] caps] (I (match l.findIdx? p with|some i=>(i:Int)|none=> -1)) H:=by
 refine zb.zG (fn:=f117) func117 O (uH ?_)
 refine qa.inv (λn t1 H1=>∃k,k+n=l.length/\H1=H/\(∀j,j<k->∀r,l[j]?=some r->p r=false)/\
   t1=((lE l)::.fn f [] caps::.za::.za::I 0::.za::.za::I (l.map zD).length::I k::hU ([.za,.za]))) l.length ?_ ?_
 ·exact dc
 rintro n _ _ ⟨k,hk,rfl,hno,rfl⟩;conv=>whnf
 refine⟨λh=>?_,λh=>?_⟩
 ·conv=>whnf
  have eU:k<l.length:=aq h
  refine⟨aw,zD l[k],aZ,uH ?_⟩;rw[hcb];refine⟨_,_,hp _ (gW eU),uH ?_⟩;refine⟨λh2=>?_,λh2=>?_⟩
  ·conv=>whnf
   refine .inr ⟨aj,uH ?_⟩;refine⟨.inl O,_,.refl _,rfl,?_⟩
   have:l.findIdx? p=some k:=by
    rw[gJ];refine⟨eU,h2,λj hj=>?_⟩;simp[hno j hj _ (dZ aw)]
   rw[this]
   rfl
  ·conv=>whnf
   refine .inl ⟨rfl,n-1,_,_,aw,zn.mask [0,1,4,7,8] _ _,k+1,aw,rfl,?_,?_⟩
   ·intro j hj r hr;by_cases hjk:j=k
    ·subst hjk;rw[dZ eU]at hr;cases hr
     exact h2
    ·exact hno j aw r hr
   ·rw[zw aw];rfl
 ·conv=>whnf
  refine .inr ⟨aj,uH ?_⟩;refine⟨.inl O,_,.refl _,rfl,?_⟩
  have:l.findIdx? p=none:=by
   rw[gP];intro x hx;obtain⟨j,hj⟩:=gQ.1 hx;have hjl:=(dY.1 hj).1;have:¬k<l.length:=aq h
   exact hno j aw x hj
  rw[this]
  rfl
def Tk{H:zl}{f:FuncId}{caps:List C}{l:List En}(p:En->Bool)(hcb:qi prog f=true)(hp:∀r∈l,tn f H ([Go.Slp.Ev r]++caps) (Bo (p r)) H)(hl:l.length<4611686018427387904):
  tn 71 H [lE l,.fn f [] caps] (Bo (l.any p)) H:=by
 refine zb.zG (fn:=f71) func71 O (uH ?_);refine⟨_,_,Ub p hcb hp hl,dd ?_⟩;rw[show decide ((match l.findIdx? p with|some i=>((i:Nat):Int)|none=>(-1:Int))≥(0:Int))=l.any p from BW l p];refine⟨λh=>?_,λh=>?_⟩ <;> rw[h]
 ·exact dk
 ·exact dk
def o8(ep p:Int):Bool:=decide (p<0) || decide (p > ep+1)
def RF(w:Wor)(p:Int)(h0:0<=w.zo)(h1:w.zo<=1000000000000):tn 110 [oW w] ([I p]++[.ref 0 [] 8 0 0]) (Bo (o8 w.zo p)) [oW w]:=by
 have e:IntKind.i64.wrap (w.zo+1)=w.zo+1:=qb aw aw;refine zb.zG (fn:=f110) func110 O (uH ?_);refine⟨λh2=>?_,λh2=>?_⟩
 ·refine dd ?_;exact⟨.inl O,_,.refl _,rfl,uN (by unfold o8;rw[h2];rfl)⟩
 ·refine dd ?_;rw[e];refine⟨λh3=>?_,λh3=>?_⟩
  ·refine dd ?_;exact⟨.inl O,_,.refl _,rfl,uN (by unfold o8;rw[h2,h3];rfl)⟩
  ·refine dd ?_;exact⟨.inl O,_,.refl _,rfl,uN (by unfold o8;rw[h2,h3];rfl)⟩
def jX(w:Wor):Bool:=decide (1<=w.pins.length) && decide (w.pins.length<=8) && decide (w.counts.length=w.pins.length) && BT w.counts && decide (0<=w.zo) && decide (w.zo<=1000000000000) && (decide (w.lock=0) || decide (w.lock=1)) && !w.pins.any (o8 w.zo)
def R0(w:Wor)(hp:w.pins.length<4000000000000000000)(hc:w.counts.length<4000000000000000000):tn 62 [] [Cw w] (Bo (jX w)) []:=by
 have m1:(w.pins.map encI).length=w.pins.length:=gp ..;have m2:(w.counts.map zP).length=w.counts.length:=gp ..;refine ab func62 ?_;rw[m1];refine⟨λh1=>?_,λh1=>?_⟩
 ·(have e:jX w=false:=by (unfold jX;(rw[show decide (1<=w.pins.length)=false from by rw[pn];have:=gH h1;omega]);simp));exact dU
 refine dd ?_;refine⟨λh2=>?_,λh2=>?_⟩
 ·(have e:jX w=false:=by (unfold jX;(rw[show decide (w.pins.length<=8)=false from cO]);simp));exact dU
 refine dd ?_;rw[m2];refine⟨λh3=>?_,λh3=>?_⟩
 ·(have e:jX w=false:=by (unfold jX;(rw[show decide (w.counts.length=w.pins.length)=false from by rw[pn];intro hh;simp[hh]at h3]);simp));exact dU
 refine dd ?_;refine ah (Rq w.counts hc) ?_;refine⟨λh4=>?_,λh4=>?_⟩
 rotate_left
 ·(have e:jX w=false:=by (unfold jX;(rw[h4]);simp));exact dU
 refine dd ?_;refine⟨λh5=>?_,λh5=>?_⟩
 ·(have e:jX w=false:=by (unfold jX;(rw[show decide (0<=w.zo)=false from by simp at h5 ⊢;omega]);simp));exact dU
 refine dd ?_;refine⟨λh6=>?_,λh6=>?_⟩
 ·(have e:jX w=false:=by (unfold jX;(rw[show decide (w.zo<=1000000000000)=false from by simp at h6 ⊢;omega]);simp));exact dU
 refine dd ?_;have b0:0<=w.zo:=by simp at h5;omega
 have b1:w.zo<=1000000000000:=by simp at h6;omega
 have hcon:=E9 (H:=[oW w]) (f:=110) (l:=w.pins) (caps:=[.ref 0 [] 8 0 0]) (o8 w.zo) au (λr _=>RF w r b0 b1) aw
 have g0:jX w=((decide (w.lock=0) || decide (w.lock=1)) && !w.pins.any (o8 w.zo)):=by
  have h3':w.counts.length=w.pins.length:=by simp at h3;omega
  unfold jX;rw[show decide (1<=w.pins.length)=true from by rw[decide_eq_true_iff];have:=rk h1;omega,show decide (w.pins.length<=8)=true from cO,show decide (w.counts.length=w.pins.length)=true from aq h3',h4,show decide (0<=w.zo)=true from aq b0,show decide (w.zo<=1000000000000)=true from aq b1]
  rfl
 have fin:∀hl:(decide (w.lock=0) || decide (w.lock=1))=true,jX w=!w.pins.any (o8 w.zo):=λhl=>by rw[g0,hl];rfl
 refine⟨λh7=>?_,λh7=>?_⟩
 ·refine dd ?_;refine⟨λh8=>?_,λh8=>?_⟩
  ·have e:jX w=false:=by rw[g0,show(decide (w.lock=0) || decide (w.lock=1))=false from by simp at h7 h8 ⊢;omega];rfl
   rw[e];refine dd ?_;refine tc ?_
   exact uI
  rw[fin (by simp at h8 ⊢;omega)];refine dd ?_;refine tc ?_
  refine af [0] (hcon) ?_;refine⟨λh9=>?_,λh9=>?_⟩
  ·refine dd ?_
   (exact⟨.inl O,_,.refl _,uN (by rw[h9];rfl)⟩)
  ·refine dd ?_
   (exact⟨.inl O,_,.refl _,uN (by rw[h9];rfl)⟩)
 ·rw[fin (by simp at h7 ⊢;omega)];refine dd ?_;refine tc ?_
  refine af [0] (hcon) ?_;refine⟨λh9=>?_,λh9=>?_⟩
  ·refine dd ?_
   (exact⟨.inl O,_,.refl _,uN (by rw[h9];rfl)⟩)
  ·refine dd ?_
   (exact⟨.inl O,_,.refl _,uN (by rw[h9];rfl)⟩)
def AF(x:fF)(e:En):Bool:=!Go.Slp.ft e || (e.next.length:Int) != x.xP
def RQ(x:fF)(e:En)(he:e.ok):tn 112 [oC x] ([Go.Slp.Ev e]++[.ref 0 [] 4 0 0]) (Bo (AF x e)) [oC x]:=by
 have m1:(e.next.map encI).length=e.next.length:=gp ..;refine zb.zG (fn:=f112) func112 O (uH ?_);refine ah (Go.Slp.DT e he) ?_;refine⟨λh1=>?_,λh1=>?_⟩
 rotate_left
 ·refine dd ?_;exact⟨.inl O,_,zn.keep [3] 1 _ _ O O O O,rfl,uN (by unfold AF;rw[h1];rfl)⟩
 ·refine dd ?_;rw[m1];refine⟨λh2=>?_,λh2=>?_⟩
  ·refine dd ?_;exact⟨.inl O,_,zn.keep [3] 1 _ _ O O O O,rfl,uN (by unfold AF;rw[h1,h2];rfl)⟩
  ·refine dd ?_;exact⟨.inl O,_,zn.keep [3] 1 _ _ O O O O,rfl,uN (by unfold AF;rw[h1,h2];rfl)⟩
structure Kn(v:fc):Prop where
 snap:Aa v.snap
 zq:v.zq.length<1000000000000
 ends : ∀g∈v.zq, g.ends.length<1000000000000 /\ ∀e∈g.ends, e.ok
def Bv(v:fc)(i:Nat):Bool:=match v.zq[i]?,v.snap.zk[i]? with
 |some g,some x=>decide (g.ends.length=x.zJ.length) && !g.ends.any (AF x)
 |_,_=>true
def nB(v:fc):Bool:=yY v.snap && decide (v.zq.length=v.snap.zk.length) && (List.range v.zq.length).all (Bv v)
def Hc(v:fc)(hv:Kn v):tn 64 [] [Cv v] (Bo (nB v)) []:=by
 have m1:(v.zq.map zK).length=v.zq.length:=gp ..;have m2:(v.snap.zk.map yE).length=v.snap.zk.length:=gp ..;have hgl:=hv.zq;refine ab func64 ?_;refine ah (KW v.snap hv.snap) ?_;refine⟨λh1=>?_,λh1=>?_⟩
 rotate_left
 ·have e:nB v=false:=by unfold nB;rw[h1];rfl
  rw[e];refine dd ?_;refine tc ?_
  exact uI
 refine dd ?_;rw[m1,m2];refine⟨λh2=>?_,λh2=>?_⟩
 ·have e:nB v=false:=by unfold nB;rw[show decide (v.zq.length=v.snap.zk.length)=false from by rw[pn];intro hh;simp[hh]at h2,sQ];rfl
  rw[e];refine dd ?_;refine tc ?_
  exact uI
 have h2':v.zq.length=v.snap.zk.length:=ba
 refine dd ?_;refine tc ?_
 rw[m1];refine qa.seq v.zq.length (λk=>(.za::.ref 0 [] 5 0 0::Bo false::hU (hU (.za::.za::.za::(lG v.zq)::I v.zq.length::I k::hU (hU (hU ([.za]))))))) (λk=>[⟨1,138,5,[zN v],0⟩]) (λk=>∀j,j<k->Bv v j=true) ?_ aj (λk hk hr=>?_) (λhr=>?_)
 ·exact cC
 ·obtain⟨g,hg⟩:∃g,g=v.zq[k]:=⟨_,rfl⟩;obtain⟨x,hx⟩:∃x,x=v.snap.zk[k]'aw:=⟨_,rfl⟩;have gg:(v.zq.map zK)[k]?=some (zK g):=by rw[gj,dZ hk,hg];rfl
  have gx:(v.snap.zk.map yE)[k]?=some (yE x):=by rw[gj,dZ aw,hx];rfl
  have hgm:g∈v.zq:=by rw[hg];exact gW hk
  have me:(g.ends.map zD).length=g.ends.length:=gp ..;have mh:(x.zJ.map kU).length=x.zJ.length:=gp ..
  have hd:Bv v k=(decide (g.ends.length=x.zJ.length) && !g.ends.any (AF x)):=by
   unfold Bv;rw[dZ hk,dZ aw,<-hg,<-hx]
  have bad:Bv v k=false->nB v=false:=λh=>by
   have:(List.range v.zq.length).all (Bv v)=false:=by rw[sF];exact⟨k,aq hk,aI⟩
   unfold nB;rw[this,sQ]
  have hcon:=Tk (H:=[oC x]) (f:=112) (l:=g.ends) (caps:=[.ref 0 [] 4 0 0]) (AF x) au (λr hr=>RQ x r ((hv.ends g hgm).2 r hr)) (by have:=(hv.ends g hgm).1;omega);conv=>whnf
  refine uF ?_;(refine td gg ?_)
  (refine td gx ?_)
  rw[me,mh];refine⟨λh3=>?_,λh3=>?_⟩
  ·rw[bad (by rw[hd,show decide (g.ends.length=x.zJ.length)=false from by rw[pn];intro hh;simp[hh]at h3];rfl)];refine dd ?_;refine tc ?_
   (refine .inr ⟨aj,uH ?_⟩)
   exact uI
  refine dd ?_;refine af [2] (hcon) ?_;refine⟨λh4=>?_,λh4=>?_⟩
  ·rw[bad (by rw[hd,h4,ur,sQ])];refine dd ?_;refine tc ?_
   (refine .inr ⟨aj,uH ?_⟩)
   exact uI
  refine dd ?_;refine tc ?_
  refine .inl ⟨rfl,?_,λj hj=>?_⟩
  ·exact dG
  ·by_cases e:j=k
   ·subst e;rw[hd,h4];simp at h3 ⊢;omega
   ·exact hr j aw
 ·have e:nB v=true:=by
   unfold nB;rw[h1,show decide (v.zq.length=v.snap.zk.length)=true from aq h2',rX,rX,gA]
   exactλi hi=>hr i (aq hi)
  rw[e];refine uD ?_;exact uI
def yW(l:List fA):List (Int×Value):=l.foldl (λm r=>ye m r.version (Value.bool r.gone)) []
def vQ(l:List fA)(i:Int):Bool:=match ((je (yW l) i).bind λj=>((yW l)[j]?).map (·.2):Option Value) with
 |some (.bool b)=>b
 |_=>false
def Xk{m:List (Int×Value)}(h:∀kv∈m,∃b,kv.2=Value.bool b)(k:Int)(b:Bool):∀kv∈ye m k (Value.bool b),∃b,kv.2=Value.bool b:=λkv hm=>by
 unfold ye at hm;split at hm
 ·rcases pM hm with hm|rfl
  ·exact h kv hm
  ·exact⟨b,rfl⟩
 ·rcases gO.1 hm with hm|hm
  ·exact h kv hm
  ·rw[gN.1 hm];exact⟨b,rfl⟩
def UI(l:List fA):∀kv∈yW l,∃b,kv.2=Value.bool b:=by
 unfold yW
 suffices key:∀(l:List fA) (m:List (Int×Value)),(∀kv∈m,∃b,kv.2=Value.bool b)->∀kv∈l.foldl (λm r=>ye m r.version (Value.bool r.gone)) m,∃b,kv.2=Value.bool b from key l [] aj
 intro l
 induction l with
 |nil=>intro m h;exact h
 |cons r l ih=>intro m h;exact ih _ (Xk h _ _)
def Ye(l:List fA)(i:Int):(((je (yW l) i).bind λj=>((yW l)[j]?).map (·.2)).getD (Value.bool false))=Value.bool (vQ l i):=by
 unfold vQ;cases h:(je (yW l) i).bind λj=>((yW l)[j]?).map (·.2) with
 |none=>rfl
 |some v=>
  obtain⟨j,_,hj⟩:=gU.1 h;obtain⟨kv,h1,rfl⟩:=gT.1 hj;obtain⟨b,hb⟩:=UI l kv (gh h1);simp only[pL];rw[hb]
def WB(l:List fA){k:Nat}{r:fA}(h:l[k]?=some r):yW (l.take (k+1))=ye (yW (l.take k)) r.version (Value.bool r.gone):=by
 obtain⟨hk,rfl⟩:=dY.1 h;unfold yW;rw[p7 hk,sE]
 rfl
structure fY(w:Wor):Prop where
 pins:w.pins.length<1000000000000
 ze:w.ze.length<1000000000000/\∀v∈w.ze,Kn v
 zd:w.zd.length<1000000000000/\∀l∈w.zd,l.ok
 counts:w.counts.length<1000000000000/\∀r∈w.counts,r.length<1000000000000
 zr:w.zr.length<1000000000000
def yF(w:Wor)(r:fA):Bool:=decide (r.version≥(w.ze.length:Int)) || r.version == w.current || decide (r.at_ > w.zo)
def oJ(w:Wor)(i:Nat):Bool:=match w.ze[i]? with
 |some v=>nB v && (v.qQ == vQ w.zr i)
 |none=>true
def wb(w:Wor)(i:Nat):Bool:=match w.zd[i]? with
 |some l=>Go.Gat.ft l && decide (zx w.zd l.name=i)
 |none=>true
def xQ(w:Wor):Bool:=jX w && (decide (0<=w.current) && decide (w.current<w.ze.length)) && Go.Lim.ft w.zr && !w.zr.any (yF w) && (List.range w.ze.length).all (oJ w) && (List.range w.zd.length).all (wb w)
def RS(w:Wor)(hw:fY w):tn 34 [] [Cw w] (Bo (xQ w)) []:=by
 have m1:(w.ze.map zN).length=w.ze.length:=gp ..;have m2:(w.zr.map xF).length=w.zr.length:=gp ..;have m3:(w.zd.map qN).length=w.zd.length:=gp ..;have b1:=hw.pins;have b2:=hw.ze.1;have b3:=hw.zd.1;have b4:=hw.counts.1;have b5:=hw.zr;refine ab func34 ?_;refine ah (R0 w aw aw) ?_;refine⟨λh1=>?_,λh1=>?_⟩
 rotate_left
 ·(have e:xQ w=false:=by (unfold xQ;(rw[h1]);simp));exact dU
 refine dd ?_;refine⟨λh2=>?_,λh2=>?_⟩
 ·(have e:xQ w=false:=by (unfold xQ;(rw[show decide (0<=w.current)=false from cO]);simp));exact dU
 refine dd ?_;rw[m1];refine⟨λh3=>?_,λh3=>?_⟩
 ·(have e:xQ w=false:=by (unfold xQ;(rw[show decide (w.current<w.ze.length)=false from by simp at h3 ⊢;omega]);simp));exact dU
 refine dd ?_;refine ah (Go.Lim.DT (l:=w.zr) aw) ?_;refine⟨λh4=>?_,λh4=>?_⟩
 rotate_left
 ·(have e:xQ w=false:=by (unfold xQ;(rw[h4]);simp));exact dU
 refine dd ?_;refine tc ?_
 intro b;refine dd ?_;rw[m2]
 have g0:xQ w=(!w.zr.any (yF w) && (List.range w.ze.length).all (oJ w) && (List.range w.zd.length).all (wb w)):=by
  unfold xQ;rw[h1,show decide (0<=w.current)=true from cO,show decide (w.current<w.ze.length)=true from by simp at h3 ⊢;omega,h4]
  rfl
 refine qa.seq w.zr.length (λk=>(.za::.ref 0 [] 8 0 0::Bo false:: .v (.map (some b)):: .za::.za::.za::.za::.za::.za::hU (hU (hU (lR w.zr::I w.zr.length::I k:: .za::.za::.za::.za::.za::.za::hU (jp (hU (hU (hU ([])))))))))) (λk=>[oW w,fN b (jk qk (yW (w.zr.take k))) (yW (w.zr.take k)).length]) (λk=>∀j,(h:j<w.zr.length)->j<k->yF w w.zr[j]=false) ?_ aj (λk hk hr=>?_) (λhr=>?_)
 ·exact cC
 ·obtain⟨r,hx⟩:∃r,r=w.zr[k]:=⟨_,rfl⟩;have hx2:w.zr[k]?=some r:=by rw[dZ hk,hx]
  have hg:(w.zr.map xF)[k]?=some (xF r):=by rw[gj,hx2];rfl
  have bad:yF w r=true->xQ w=false:=λh=>by
   have:w.zr.any (yF w)=true:=pZ.2 ⟨r,gh hx2,h⟩;rw[g0,this];rfl
  conv=>whnf
  refine uF ?_;(refine td hg ?_)
  rw[m1];refine⟨λh5=>?_,λh5=>?_⟩
  ·(rw[bad (by unfold yF;rw[h5];rfl)]);refine dd ?_;refine tc ?_;(refine .inr ⟨aj,uH ?_⟩);exact uI
  refine dd ?_;refine⟨λh6=>?_,λh6=>?_⟩
  ·(rw[bad (by unfold yF;rw[h6,uf];rfl)]);refine dd ?_;refine tc ?_;(refine .inr ⟨aj,uH ?_⟩);exact uI
  refine dd ?_;refine⟨λh7=>?_,λh7=>?_⟩
  ·(rw[bad (by unfold yF;rw[h7,uf])]);refine dd ?_;refine tc ?_;(refine .inr ⟨aj,uH ?_⟩);exact uI
  refine dd ?_;refine tc ?_
  refine⟨λq=>?_,λq=>?_⟩
  all_goals
   refine dd ?_;refine⟨_,_,fg.mapUpdate (id:=1) _ _ _ _ (.inl O) underlying155 (i5.int underlying3) O O r.version (λE u h=>jB h) (.bool r.gone) (λE u h=>by rw[q];exact jB h),dd ?_⟩;refine .inl ⟨rfl,?_,λj hj hjk=>?_⟩
   ·rw[zw aw,<-WB w.zr hx2];exact cE 2
   ·by_cases e:j=k
    ·subst e;rw[<-hx];unfold yF;rw[h5,h6,h7];rfl
    ·exact hr j hj aw
 have hl0:w.zr.any (yF w)=false:=by
  rw[pd];intro x hx;obtain⟨j,hj,rfl⟩:=pz.1 hx;simp[hr j hj hj]
 rw[pQ];refine uD ?_;rw[m1];have g1:xQ w=((List.range w.ze.length).all (oJ w) && (List.range w.zd.length).all (wb w)):=by rw[g0,hl0];rfl
 refine qa.seq w.ze.length (λk=>(.za::.ref 0 [] 8 0 0::Bo false:: .v (.map (some b)):: .za::.za::.za::.za::.za::.za::.za::hU (jp (hU (hU (lV w.ze::I w.ze.length::I k:: .za::.za::.za::.za::.za::hU (hU (hU (hU ([])))))))))) (λk=>[oW w,fN b (jk qk (yW (w.zr))) (yW (w.zr)).length]) (λk=>∀j,j<k->oJ w j=true) ?_ aj (λk hk hr=>?_) (λhr=>?_)
 ·exact cC
 ·obtain⟨v,hx⟩:∃v,v=w.ze[k]:=⟨_,rfl⟩;have hx2:w.ze[k]?=some v:=by rw[dZ hk,hx]
  have hg:(w.ze.map zN)[k]?=some (zN v):=by rw[gj,hx2];rfl
  have hd:oJ w k=(nB v && (v.qQ == vQ w.zr k)):=by unfold oJ;rw[hx2]
  have bad:oJ w k=false->xQ w=false:=λh=>by
   have:(List.range w.ze.length).all (oJ w)=false:=by rw[sF];exact⟨k,aq hk,aI⟩
   rw[g1,this];rfl
  conv=>whnf
  refine uF ?_;(refine td hg ?_)
  refine ah (Hc v (hw.ze.2 v (gh hx2))) ?_;refine⟨λh5=>?_,λh5=>?_⟩
  rotate_left
  ·(rw[bad (by rw[hd,h5];rfl)]);refine dd ?_;refine tc ?_;(refine .inr ⟨aj,uH ?_⟩);exact uI
  refine dd ?_;refine⟨λq=>?_,λq=>?_⟩
  all_goals
   refine dd ?_;refine⟨_,_,fg.lookup (id:=1) _ _ _ O underlying155 (i5.int underlying3) O O (k:Int) (λE u h=>jB h) (c:=Bo (vQ w.zr k)) O O (λE=>by rw[Ye];exact .v _ O),dd ?_⟩;refine⟨λq2=>?_,λq2=>?_⟩
   ·(rw[bad (by rw[hd,q];simp at q2;simp[q2])]);refine dd ?_;refine tc ?_;(refine .inr ⟨aj,uH ?_⟩);exact uI
   refine dd ?_;refine tc ?_
   refine .inl ⟨rfl,?_,λj hj=>?_⟩
   ·rw[zw aw];exact cE 2
   ·by_cases e:j=k
    ·subst e;rw[hd,h5,q];simp at q2;simp[q2]
    ·exact hr j aw
 have hv0:(List.range w.ze.length).all (oJ w)=true:=by
  rw[gA]
  exactλi hi=>hr i (aq hi)
 have g2:xQ w=(List.range w.zd.length).all (wb w):=by rw[g1,hv0];rfl
 refine uD ?_;rw[m3];refine qa.seq w.zd.length (λk=>(.za::.ref 0 [] 8 0 0::Bo false:: .v (.map (some b)):: .za::.za::.za::hU (jp (jp (hU (lL w.zd::I w.zd.length::I k:: .za::hU (hU ([])))))))) (λk=>[oW w,fN b (jk qk (yW (w.zr))) (yW (w.zr)).length]) (λk=>∀j,j<k->wb w j=true) ?_ aj (λk hk hr=>?_) (λhr=>?_)
 ·exact cC
 ·obtain⟨l,hx⟩:∃l,l=w.zd[k]:=⟨_,rfl⟩;have hx2:w.zd[k]?=some l:=by rw[dZ hk,hx]
  have hg:(w.zd.map qN)[k]?=some (qN l):=by rw[gj,hx2];rfl
  have hd:wb w k=(Go.Gat.ft l && decide (zx w.zd l.name=k)):=by unfold wb;rw[hx2]
  have bad:wb w k=false->xQ w=false:=λh=>by
   have:(List.range w.zd.length).all (wb w)=false:=by rw[sF];exact⟨k,aq hk,aI⟩
   rw[g2,this]
  conv=>whnf
  refine uF ?_;(refine td hg ?_)
  refine ah (Go.Gat.DT l (hw.zd.2 l (gh hx2))) ?_;refine⟨λh5=>?_,λh5=>?_⟩
  rotate_left
  ·(rw[bad (by rw[hd,h5];rfl)]);refine dd ?_;refine tc ?_;(refine .inr ⟨aj,uH ?_⟩);exact uI
  refine dd ?_;refine ah (E4 w.zd l.name aw) ?_;refine⟨λh6=>?_,λh6=>?_⟩
  ·(rw[bad (by rw[hd,show decide (zx w.zd l.name=(k:Int))=false from by rw[pn];intro hh;simp[hh]at h6,sQ])]);refine dd ?_;refine tc ?_;(refine .inr ⟨aj,uH ?_⟩);exact uI
  refine dd ?_;refine tc ?_
  refine .inl ⟨rfl,?_,λj hj=>?_⟩
  ·rw[zw aw];exact cE 2
  ·by_cases e:j=k
   ·subst e;rw[hd,h5];simp at h6;simp[h6]
   ·exact hr j aw
 ·have hl1:(List.range w.zd.length).all (wb w)=true:=by
   rw[gA]
   exactλi hi=>hr i (aq hi)
  rw[g2,hl1];refine uD ?_;exact uI
end Go.Wor
