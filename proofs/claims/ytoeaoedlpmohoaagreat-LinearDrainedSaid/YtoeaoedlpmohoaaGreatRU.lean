import Derived.Test.YtoeaoedlpmohoaaGreatRF
import Derived.Test.YtoeaoedlpmohoaaGreatRS
import Derived.Test.YtoeaoedlpmohoaaGreatRT
set_option linter.all false
set_option maxRecDepth 100000
set_option maxHeartbeats 4000000
namespace Go.Wor
open Go.Ab Go.Proofs Tryz Go.Hy Go.Gat Go.Nam Go.Hos Go.Con Go.Sna
def kY(l:List fA)(n:Int):fA:=if 0<=n/\n<l.length then (l[n.toNat]?).getD [] else []
def vN(l:List ic)(n:Int):fA:=if 0<=n/\n<l.length then ((l[n.toNat]?).map (·.name)).getD [] else []
def Al(s:Sna)(r:mz):nu:=⟨kY s.zd r.listen,r.host,r.path,vN s.zk r.zg⟩
def mj(s:Sna):ib:=⟨s.zd,s.rules.map (Al s),s.zk⟩
def vB(s:Sna):Bool:=(qO (mj s)).1 == 0
structure oZ(s:Sna):Prop where
 zd:s.zd.length<1000000000000/\∀x∈s.zd,x.length<4000000000000000000
 rules:s.rules.length<1000000000000/\∀r∈s.rules,r.host.length<1000000000000000/\r.path.length<1000000000000000
 zk:s.zk.length<1000000000000/\∀x∈s.zk,x.name.length<4000000000000000000/\x.zL.length<4000000000000000000
def oZ.cfg{s:Sna}(h:oZ s):x3 (mj s):=by
 refine⟨h.zd,⟨by simpa [mj] using h.rules.1,λr hr=>?_⟩,h.zk⟩;simp only[mj,pd]at hr;obtain⟨q,hq,rfl⟩:=hr;refine⟨?_,(h.rules.2 q hq).1,(h.rules.2 q hq).2,?_⟩
 ·show(kY s.zd q.listen).length<_;unfold kY;split
  ·cases hx:s.zd[q.listen.toNat]? with
   |none=>simp
   |some x=>exact h.zd.2 x (gA hx)
  ·simp
 ·show(vN s.zk q.zg).length<_;unfold vN;split
  ·cases hx:s.zk[q.zg.toNat]? with
   |none=>simp
   |some x=>exact(h.zk.2 x (gA hx)).1
  ·simp
def RM(s:Sna)(hs:oZ s):tn 146 [] [Cs s] (Cf (mj s)) []:=by
 have m1:(s.rules.map vc).length=s.rules.length:=gE ..;have m2:(s.zd.map qv).length=s.zd.length:=gE ..;have m3:(s.zk.map xc).length=s.zk.length:=gE ..;have hl:=hs.rules.1;refine ab func146 ?_;rw[m1];refine zZ.seq s.rules.length (λk=>(.za::.ref 0 [] 3 0 0:: .ref 1 [] 3 0 0:: .ref 2 [] 3 0 0:: .za::mC (lQ s.rules::I s.rules.length::I k:: .za::.za::.za::.za::.za::mC (mC (mC (mC (mC (mC ([]))))))))) (λk=>[⟨1,66,3,[ql s],0⟩,⟨1,26,3,[[.fp 1 0 [],.fp 1 0 [],.fp 1 0 []]],0⟩,⟨1,26,3,[[lT s.zd,.gl 3 4 (((s.rules.take k).map (Al s)).map wI),lC s.zk]],0⟩,⟨4,135,4,((s.rules.take k).map (Al s)).map wI,0⟩]) (λk=>True) ?_ trivial (λk hk hr=>?_) (λhr=>?_)
 ·refine zp.trans (zp.Ac 2 1 135 4 rfl rfl (.inl rfl) rfl rfl) ?_;exact cC
 ·obtain⟨r,hx⟩:∃r,r=s.rules[k]:=⟨_,rfl⟩;have hg:(s.rules.map vc)[k]?=some (vc r):=by rw[gz,gp hk,hx];rfl
  have hlg:(((s.rules.take k).map (Al s)).map wI).length=k:=aA
  have eg:((s.rules.take (k+1)).map (Al s)).map wI=((s.rules.take k).map (Al s)).map wI++[wI (Al s r)]:=bP
  have hv:∀a b,a=kY s.zd r.listen->b=vN s.zk r.zg->wI ⟨a,r.host,r.path,b⟩=wI (Al s r):=λa b h1 h2=>by rw[h1,h2];rfl
  conv=>whnf
  refine uF ?_;(refine td hg ?_)
  refine⟨λh1=>?_,λh1=>?_⟩
  rotate_left
  ·refine dd ?_;refine tc ?_
   refine⟨λq1=>?_,λq1=>?_⟩;rotate_left;(focus (refine dd ?_;refine tc ?_;(refine⟨rfl,.inr rfl,bQ,cG,dd ?_⟩);(refine .inl ⟨rfl,?_,trivial⟩);(rw[zw aw,eg,<-hv _ _ cH cI]);exact cE 4));refine dd ?_;(rw[m3]);refine⟨λq2=>?_,λq2=>?_⟩;rotate_left;(focus (refine dd ?_;refine tc ?_;(refine⟨rfl,.inr rfl,bQ,cG,dd ?_⟩);(refine .inl ⟨rfl,?_,trivial⟩);(rw[zw aw,eg,<-hv _ _ cH cJ]);exact cE 4));(have q3:r.zg.toNat<s.zk.length:=by simp at q1 q2;omega);(have gq:(s.zk.map xc)[r.zg.toNat]?=some (xc s.zk[r.zg.toNat]):=by rw[gz,gp q3];rfl);refine dd ?_;refine tc ?_;(refine⟨bU,_,gq,dd ?_⟩);(refine⟨rfl,.inr rfl,bQ,cG,dd ?_⟩);(refine .inl ⟨rfl,?_,trivial⟩);(rw[zw aw,eg,<-hv _ _ cH (by unfold vN;rw[gC (by simp at q1 q2;omega),gp q3])]);exact cE 4
  refine dd ?_;rw[m2];refine⟨λh2=>?_,λh2=>?_⟩
  rotate_left
  ·refine dd ?_;refine tc ?_
   refine⟨λq1=>?_,λq1=>?_⟩;rotate_left;(focus (refine dd ?_;refine tc ?_;(refine⟨rfl,.inr rfl,bQ,cG,dd ?_⟩);(refine .inl ⟨rfl,?_,trivial⟩);(rw[zw aw,eg,<-hv _ _ cK cI]);exact cE 4));refine dd ?_;(rw[m3]);refine⟨λq2=>?_,λq2=>?_⟩;rotate_left;(focus (refine dd ?_;refine tc ?_;(refine⟨rfl,.inr rfl,bQ,cG,dd ?_⟩);(refine .inl ⟨rfl,?_,trivial⟩);(rw[zw aw,eg,<-hv _ _ cK cJ]);exact cE 4));(have q3:r.zg.toNat<s.zk.length:=by simp at q1 q2;omega);(have gq:(s.zk.map xc)[r.zg.toNat]?=some (xc s.zk[r.zg.toNat]):=by rw[gz,gp q3];rfl);refine dd ?_;refine tc ?_;(refine⟨bU,_,gq,dd ?_⟩);(refine⟨rfl,.inr rfl,bQ,cG,dd ?_⟩);(refine .inl ⟨rfl,?_,trivial⟩);(rw[zw aw,eg,<-hv _ _ cK (by unfold vN;rw[gC (by simp at q1 q2;omega),gp q3])]);exact cE 4
  have h3:r.listen.toNat<s.zd.length:=cw
  have gl:(s.zd.map qv)[r.listen.toNat]?=some (qv s.zd[r.listen.toNat]):=by rw[gz,gp h3];rfl
  refine dd ?_;refine tc ?_
  refine⟨cx,_,gl,dd ?_⟩;refine⟨λq1=>?_,λq1=>?_⟩;rotate_left;(focus (refine dd ?_;refine tc ?_;(refine⟨rfl,.inr rfl,bQ,cG,dd ?_⟩);(refine .inl ⟨rfl,?_,trivial⟩);(rw[zw aw,eg,<-hv _ _ (by unfold kY;rw[gC cw,gp h3]) cI]);exact cE 4));refine dd ?_;(rw[m3]);refine⟨λq2=>?_,λq2=>?_⟩;rotate_left;(focus (refine dd ?_;refine tc ?_;(refine⟨rfl,.inr rfl,bQ,cG,dd ?_⟩);(refine .inl ⟨rfl,?_,trivial⟩);(rw[zw aw,eg,<-hv _ _ (by unfold kY;rw[gC cw,gp h3]) cJ]);exact cE 4));(have q3:r.zg.toNat<s.zk.length:=by simp at q1 q2;omega);(have gq:(s.zk.map xc)[r.zg.toNat]?=some (xc s.zk[r.zg.toNat]):=by rw[gz,gp q3];rfl);refine dd ?_;refine tc ?_;(refine⟨bU,_,gq,dd ?_⟩);(refine⟨rfl,.inr rfl,bQ,cG,dd ?_⟩);(refine .inl ⟨rfl,?_,trivial⟩);(rw[zw aw,eg,<-hv _ _ (by unfold kY;rw[gC cw,gp h3]) (by unfold vN;rw[gC (by simp at q1 q2;omega),gp q3])]);exact cE 4
 ·refine uD ?_;rw[pQ];exact uI
def KN(s:Sna)(hs:oZ s):tn 117 [] [Cs s] (Bo (vB s)) []:=by
 refine ab func117 ?_;refine ah (RM s hs) ?_;refine ah (check_sound (mj s) hs.cfg) ?_;refine⟨λh=>?_,λh=>?_⟩
 ·refine dd ?_
  (exact⟨.inl rfl,_,.refl _,uN (by unfold vB;exact h.symm)⟩)
 ·refine dd ?_
  (exact⟨.inl rfl,_,.refl _,uN (by unfold vB;exact h.symm)⟩)
end Go.Wor
namespace Go.Wor
open Go.Ab Go.Proofs Tryz Go.Hy Go.Gat Go.Nam Go.Hos Go.Con Go.Sna
open Go.Slp (kO Kp)
def Bg{f:Nat->Int}{n:Nat}(h:(jZ f n).1=0):∀j,j<n->f j=0:=λj hj=>by
 unfold jZ at h;split at h
 ·rename_i i hi;rw[List.find?_range_eq_some]at hi;exact absurd h (aq hi.1)
 ·rename_i hn;rw[uv]at hn;simpa using hn j hj
structure Gw(x:ic):Prop where
 name:xL x.name=true
 xb:x.xb=1\/x.xb=2
 xR:1<=x.xR/\x.xR<=4
 zL:1<=x.zL.length/\x.zL.length<=4
structure nR(s:Sna):Prop where
 zd:1<=s.zd.length/\s.zd.length<=4
 rules:1<=s.rules.length/\s.rules.length<=8
 zk:1<=s.zk.length/\s.zk.length<=4
 all:∀x∈s.zk,Gw x
def j3{s:Sna}(h:vB s=true):nR s:=by
 unfold vB at h;have h:(qO (mj s)).1=0:=aq h
 unfold qO at h;split at h
 ·contradiction
 rename_i h1;split at h
 ·contradiction
 rename_i h2;split at h
 ·contradiction
 rename_i h3;have h1:(vm (mj s)).1=0:=aq h1
 unfold vm at h1;split at h1
 ·cases h1
 rename_i h4;have e:(mj s).zO.length=s.rules.length:=by simp[mj]
 rw[e]at h4;simp only[show(mj s).zd=s.zd from rfl,show(mj s).zk=s.zk from rfl]at h4;have b:∀n:Nat,∀m:Int,¬(decide (1<=(n:Int)) && decide ((n:Int)<=m))=false->1<=n/\(n:Int)<=m:=λn m hh=>by simp at hh;omega
 have q1:=b s.zd.length 4 λhh=>h4 (.inl (.inl hh))
 have q2:=b s.rules.length 8 λhh=>h4 (.inl (.inr hh))
 have q3:=b s.zk.length 4 λhh=>h4 (.inr hh)
 refine⟨aw,aw,aw,λx hx=>?_⟩;obtain⟨i,hi,rfl⟩:=pF.1 hx;have h5:=Bg (f:=nK s.zk) (n:=s.zk.length) (Decidable.of_not_not h3) i hi;unfold nK at h5;rw[gp hi]at h5;dsimp only at h5;split at h5
 ·cases h5
 rename_i p1;split at h5
 ·cases h5
 split at h5
 ·cases h5
 rename_i p2;split at h5
 ·cases h5
 rename_i p3;split at h5
 ·cases h5
 rename_i p4;refine⟨aq p1,?_,?_,?_⟩
 ·by_cases a:s.zk[i].xb=1
  ·exact .inl a
  ·by_cases a2:s.zk[i].xb=2
   ·exact .inr a2
   ·exact absurd ⟨a,a2⟩ p2
 ·simp at p3;omega
 ·simp at p4;omega
abbrev xI(x:ic):En:=(kO x.xR).1
def WZ{x:ic}(h:Gw x):kO x.xR=(xI x,0):=by
 have:=h.xR;unfold xI kO;rw[gu aw]
def l9(x:ic):Gr:=⟨0,List.replicate x.zL.length (xI x)⟩
abbrev zxH:Sna:=⟨[],[],[]⟩
abbrev Gu:fB:=⟨zxH,[],false⟩
def q8(s:Sna):fB×Int:=if vB s then (⟨s,s.zk.map l9,false⟩,0) else (Gu,1)
abbrev Cv(v:fB):C:=.agg (zK v)
abbrev tV(r:fB×Int):C:=.fC [Cv r.1,I r.2]
def K5(s:Sna)(hs:oZ s):tn 85 [] [Cs s] (tV (q8 s)) []:=by
 have m1:(s.zk.map xc).length=s.zk.length:=gE ..;refine ab func85 ?_;refine ah (KN s hs) ?_;refine⟨λh1=>?_,λh1=>?_⟩
 rotate_left
 ·have e:q8 s=(Gu,1):=by unfold q8;rw[gu aZ]
  rw[e];refine dd ?_;refine tc ?_
  exact⟨.inl rfl,_,zp.var 1 rfl rfl rfl (.cons (WC.nil 0 1) (.cons (WC.nil 0 4) (.cons (WC.nil 0 4) (.cons (WC.nil 0 2) (.cons (.refl _) .nil))))),rfl⟩
 have e:q8 s=(⟨s,s.zk.map l9,false⟩,0):=by unfold q8;rw[gC h1]
 have hg:=j3 h1;rw[e];refine dd ?_;refine tc ?_
 rw[m1];refine zZ.seq s.zk.length (λk=>(.za::.ref 0 [] 3 0 0::.ref 1 [] 5 0 0::I 0::.ref 2 [] 5 0 0::mC (.za::.za::.za::.za::(lC s.zk)::I s.zk.length::I k::mC (mC (mC (mC ([.za]))))))) (λk=>[⟨1,66,3,[ql s],0⟩,⟨1,69,5,[[.fp 1 0 [],.fp 1 0 [],.fp 1 0 [],.fp 1 0 [],Bo false]],0⟩,⟨1,69,5,[ql s++[.gl 3 2 (((s.zk.take k).map l9).map zF),Bo false]],0⟩,⟨4,72,2,((s.zk.take k).map l9).map zF,0⟩]) (λk=>True) ?_ trivial (λk hk hr=>?_) (λhr=>?_)
 ·refine zp.trans (zp.Ac 2 3 72 2 rfl rfl (.inl rfl) rfl rfl) ?_;exact cC
 ·obtain⟨x,hx⟩:∃x,x=s.zk[k]:=⟨_,rfl⟩;have hgx:(s.zk.map xc)[k]?=some (xc x):=by rw[gz,gp hk,hx];rfl
  have hgood:=hg.all x tK;have hc4:=hg.zk.2;have h4:=hgood.zL.2;have hlg:(((s.zk.take k).map l9).map zF).length=k:=aA
  have eg:((s.zk.take (k+1)).map l9).map zF=((s.zk.take k).map l9).map zF++[zF (l9 x)]:=bP
  have mh:(x.zL.map kN).length=x.zL.length:=gE ..
  have fs:tn 118 [] [I x.xR] (.fC [.agg (zx (xI x)),I 0]) []:=by
   have:=Kp x.xR;rw[WZ hgood]at this;exact dM
  conv=>whnf
  refine uF ?_;(refine td hgx ?_)
  rw[mh];refine zZ.seq x.zL.length (λj=>(.za::.ref 0 [] 3 0 0::.ref 1 [] 5 0 0::I 0::.ref 2 [] 5 0 0::.za::.ref 4 [] 4 0 0::.ref 5 [] 2 0 0::mC (.za::(lC s.zk)::I s.zk.length::I k::.za::.za::.za::.za::.za::I x.zL.length::I j::mC (mC (mC ([.za,.za])))))) (λj=>[⟨1,66,3,[ql s],0⟩,⟨1,69,5,[[.fp 1 0 [],.fp 1 0 [],.fp 1 0 [],.fp 1 0 [],Bo false]],0⟩,⟨1,69,5,[ql s++[.gl 3 2 (((s.zk.take k).map l9).map zF),Bo false]],0⟩,⟨4,72,2,((s.zk.take k).map l9).map zF,0⟩,⟨1,79,4,[xc x],0⟩,⟨1,72,2,[[U 0,.gl 6 3 ((List.replicate j (xI x)).map zx)]],0⟩,⟨4,74,3,((List.replicate j (xI x)).map zx),0⟩]) (λk=>True) ?_ trivial (λj hj hr=>?_) (λhr=>?_)
  ·refine zp.trans (zp.Ac 5 1 74 3 rfl rfl (.inl rfl) rfl rfl) ?_;exact cC
  ·have hle:(((List.replicate j (xI x)).map zx)).length=j:=by simp
   have ee:((List.replicate (j+1) (xI x)).map zx)=((List.replicate j (xI x)).map zx)++[zx (xI x)]:=by rw[eI,rp];rfl
   conv=>whnf
   refine uF ?_;refine ah fs ?_;refine tc ?_
   refine⟨rfl,.inr rfl,by rw[hle];simp[maxLen];omega,by rw[hle];show(j+1)*40<=_;omega,dd ?_⟩;refine .inl ⟨rfl,?_,trivial⟩;rw[zw aw,ee];exact cE 7
  ·refine uD ?_;refine⟨rfl,.inr rfl,bQ,by rw[hlg];show(k+1)*32<=_;omega,dd ?_⟩;refine .inl ⟨rfl,?_,trivial⟩;rw[zw aw,eg];exact cE 4
 ·refine uD ?_;rw[pQ];exact uI
def wT(n:Int):List (List Int)×Int:=if n<1\/8<n then ([],1) else (List.replicate n.toNat [0,0,0,0,0,0],0)
abbrev P5(r:List (List Int)×Int):C:=.fC [ig r.1,I r.2]
def BN(c:List (List Int)):Bool:=c.all (λr=>r.length == 6) && decide (1<=c.length) && decide (c.length<=8)
def Nw{rows:List (List C)}(h:(rows.all λr=>r.all λc=>ju c && zy c)=true):∀r∈rows,∀c∈r,ju c=true/\zy c=true:=λr hr c hc=>by
 have:=gI.1 (gI.1 h r hr) c hc;simpa using this
def shut_map{α:Type}{enc:α->List C}(h:∀x,(enc x).all (λc=>ju c && zy c)=true)(l:List α):∀r∈l.map enc,∀c∈r,ju c=true/\zy c=true:=
 Nw (by rw[List.all_map];exact gI.2 λx _=>h x)
def yl{n ty sz fz:Nat}{rows:List (List C)}(h:∀r∈rows,∀c∈r,jg n 9 c=true):qV n [⟨1,ty,sz,rows,fz⟩]=true:=by
 unfold qV;simp only[sg,uw,uh];simp;exact h
def YS{α:Type}(a b:α){k n:Nat}(h:k<n):(List.replicate k a++List.replicate (n-k) b).set k a=List.replicate (k+1) a++List.replicate (n-(k+1)) b:=by
 rw[sY _ _ aj];have e:n-k=(n-(k+1))+1:=aw
 simp only[sW,rR];rw[e,sO,um,eI,pG]
 rfl
def YR{α:Type}(a b:α){k n:Nat}(h:k<n):(List.replicate k a++List.replicate (n-k) b)[k]?=some b:=by
 rw[gO aj];simp only[sW,rR];have e:n-k=(n-(k+1))+1:=aw
 rw[e,sO]
 rfl
def Rd(n:Int):tn 86 [] [I n] (P5 (wT n)) []:=by
 refine ab func86 ?_;refine⟨λh1=>?_,λh1=>?_⟩
 ·have e:wT n=([],1):=by unfold wT;rw[gC cx]
  rw[e];refine dd ?_;refine tc ?_
  exact dw
 refine dd ?_;refine⟨λh2=>?_,λh2=>?_⟩
 ·have e:wT n=([],1):=by unfold wT;rw[gC aY]
  rw[e];refine dd ?_;refine tc ?_
  exact dw
 have b1:1<=n/\n<=8:=cw
 have e:wT n=(List.replicate n.toNat [0,0,0,0,0,0],0):=by unfold wT;rw[gu aw]
 rw[e];refine dd ?_;refine⟨rfl,aw,by show(24:Int)*n<=_;omega,aw,dd ?_⟩;refine zZ.seq n.toNat (λk=>(I n::.za::.fp 1 0 []::I 0::.sl 0 [] 1 0 n.toNat false::mC (.za::.za::I n.toNat::I k::mC ([])))) (λk=>[⟨1,0,1,(List.replicate k [lU [0,0,0,0,0,0]]++List.replicate (n.toNat-k) [C.fp 1 0 []]),0⟩]) (λk=>True) ?_ trivial (λk hk hr=>?_) (λhr=>?_)
 ·refine zp.trans (zp.CY 0 rfl (by intro r hr c hc;rw[pE hr]at hc;rw[gS.1 hc];rfl)) ?_;exact cC
 ·conv=>whnf
  refine uF ?_;refine⟨rfl,ar,by show(8:Int)*6<=_;decide,ar,dd ?_⟩;refine⟨aw,aA,dd ?_⟩;have e1:0+(k:Int).toNat=k:=aj
  rw[e1];refine⟨_,YR _ _ hk,rfl,dd ?_⟩;refine .inl ⟨rfl,?_,trivial⟩;refine zp.trans (zp.zV 0 k 0 (r:=[.sl 1 [] 1 0 6 false]) rfl (by rw[gM,gC rfl,gC aA];rfl) rfl rfl (.inr rfl) rfl rfl ?_ ?_) ?_
  ·exact Nw (rows:=List.replicate 6 [U 0]) rfl
  ·intro r hr c hc;rcases pT hr with hr|rfl
   ·rcases gT.1 hr with hr|hr <;> (rw[pE hr]at hc;rw[gS.1 hc];rfl)
   ·rw[gS.1 hc];rfl
  ·have e3:(List.replicate k [lU [0,0,0,0,0,0]]++List.replicate (n.toNat-k) [C.fp 1 0 []]).set k [lU [0,0,0,0,0,0]]=(List.replicate (k+1) [lU [0,0,0,0,0,0]]++List.replicate (n.toNat-(k+1)) [C.fp 1 0 []]):=YS _ _ hk;rw[pw,<-e3,zw aw];refine zp.xy 1 hU rfl rfl rfl (yl (rows:=(List.replicate k [lU [0,0,0,0,0,0]]++List.replicate (n.toNat-k) [C.fp 1 0 []]).set k [lU [0,0,0,0,0,0]]) λr hr c hc=>?_) rfl;rw[e3]at hr;rcases gT.1 hr with hr|hr <;> (rw[pE hr]at hc;rw[gS.1 hc];rfl)
 ·refine uD ?_;have e4:(List.replicate n.toNat [(0:Int),0,0,0,0,0]).map zP=(List.replicate n.toNat [lU [0,0,0,0,0,0]]++List.replicate (n.toNat-n.toNat) [C.fp 1 0 []]):=by rw[List.map_replicate,rR,List.replicate_zero,rE];rfl
  have sh:∀r∈(List.replicate n.toNat [lU [0,0,0,0,0,0]]++List.replicate (n.toNat-n.toNat) [C.fp 1 0 []]),∀c∈r,ju c=true/\zy c=true:=by
   rw[rR,List.replicate_zero,rE];intro r hr c hc;rw[pE hr]at hc;rw[gS.1 hc];exact⟨rfl,rfl⟩
  refine⟨.inl rfl,_,zp.KS 2 rfl rfl (.inl rfl) aj sh,?_⟩;rw[<-e4]
  rfl
def Q5(c:List (List Int))(hc:c.length<4000000000000000000):tn 248 [] [ig c] (Bo (BN c)) []:=by
 have m1:(c.map zP).length=c.length:=gE ..;refine ab func248 ?_;rw[m1];refine zZ.seq c.length (λk=>((ig c)::.za::Bo false::.za::.za::(ig c)::I c.length::I k::mC ([.za,.za,.za,.za,.za,.za,.za]))) (λk=>[]) (λk=>∀j,(h:j<c.length)->j<k->(c[j].length == 6)=true) ?_ aj (λk hk hr=>?_) (λhr=>?_)
 ·exact cC
 ·obtain⟨x,hx⟩:∃x,x=c[k]:=⟨_,rfl⟩;have hg:(c.map zP)[k]?=some (zP x):=by rw[gz,gp hk,hx];rfl
  have mx:(x.map jW).length=x.length:=gE ..;conv=>whnf
  refine uF ?_;(refine td hg ?_)
  rw[mx];refine⟨λh1=>?_,λh1=>?_⟩
  ·have hf:c.all (λr=>r.length == 6)=false:=by
    rw[sK];exact⟨x,bN,by simp at h1 ⊢;omega⟩
   have e:BN c=false:=by unfold BN;rw[hf];rfl
   rw[e];refine dd ?_;(refine .inr ⟨aj,uH ?_⟩)
   exact uI
  ·refine dd ?_;refine .inl ⟨rfl,?_,λj hj hjk=>?_⟩
   ·rw[zw aw];exact cE 0
   ·by_cases e:j=k
    ·subst e;rw[<-hx];simp at h1 ⊢;omega
    ·exact hr j hj aw
 ·have ht:c.all (λr=>r.length == 6)=true:=by
   rw[gI];intro r hr';obtain⟨j,hj,rfl⟩:=pF.1 hr';exact hr j hj hj
  have e:BN c=(decide (1<=c.length) && decide (c.length<=8)):=by unfold BN;rw[ht];rfl
  rw[e];refine uD ?_;rw[m1];refine⟨λh1=>?_,λh1=>?_⟩
  ·refine dd ?_;rw[m1];refine⟨λh2=>?_,λh2=>?_⟩
   ·refine dd ?_;refine tc ?_
    (exact⟨.inl rfl,_,.refl _,uN (by symm;simp at h1 h2 ⊢;omega)⟩)
   ·refine dd ?_;refine tc ?_
    (exact⟨.inl rfl,_,.refl _,uN (by symm;simp at h1 h2 ⊢;omega)⟩)
  ·refine dd ?_;refine tc ?_
   (exact⟨.inl rfl,_,.refl _,uN (by symm;simp at h1 ⊢;omega)⟩)
abbrev Cw(w:Wor):C:=.agg (zU w)
abbrev tW(r:Wor×Int):C:=.fC [Cw r.1,I r.2]
abbrev BY:Wor:=⟨0,0,0,[],[],[],[],[]⟩
def kF(s:fA):fQ:=⟨s,false,0,false⟩
def CN(l:List fA)(i:Nat):Bool:=match l[i]? with
 |some s=>xL s && decide (zM ((l.take i).map kF) s<0)
 |none=>true
def BL(l:List fA):Bool:=(List.range l.length).all (CN l)
def lS(s:Sna)(l:List fA)(n:Int):Wor×Int:=
 if vB s=false\/n<1\/8<n\/BL l=false then (BY,1)
 else (⟨0,0,0,List.replicate n.toNat 0,[(q8 s).1],l.map kF,List.replicate n.toNat [0,0,0,0,0,0],[]⟩,0)
def Wp(s:Sna)(l:List fA)(n:Int)(hs:oZ s)(hl:l.length<1000000000/\∀x∈l,x.length<4000000000000000000):tn 57 [] [Cs s,lT l,I n] (tW (lS s l n)) []:=by
 have m1:(l.map qv).length=l.length:=gE ..;have cs:=K5 s hs;refine ab func57 ?_;by_cases h0:vB s=true
 rotate_left
 ·have e:lS s l n=(BY,1):=by unfold lS;rw[gC (.inl (aq h0))]
  have e2:q8 s=(Gu,1):=by unfold q8;rw[gu h0]
  rw[e2]at cs;have cs:tn 85 [] [Cs s] (.fC [Cv Gu,I 1]) []:=cs;rw[e];refine ah cs ?_;refine tc ?_
  exact cY
 have e2:q8 s=((q8 s).1,0):=by unfold q8;rw[gC h0]
 rw[e2]at cs;have cs:tn 85 [] [Cs s] (.fC [Cv (q8 s).1,I 0]) []:=cs;have hn:=Rd n;refine ah cs ?_;refine tc ?_
 by_cases h1:n<1\/8<n
 ·have e:lS s l n=(BY,1):=by unfold lS;rw[gC aw]
  have e3:wT n=([],1):=by unfold wT;rw[gC h1]
  rw[e3]at hn;have hn:tn 86 [] [I n] (.fC [ig [],I 1]) []:=hn;rw[e];refine ah hn ?_;refine tc ?_
  exact cY
 have e3:wT n=(List.replicate n.toNat [0,0,0,0,0,0],0):=by unfold wT;rw[gu h1]
 rw[e3]at hn;have hn:tn 86 [] [I n] (.fC [ig (List.replicate n.toNat [0,0,0,0,0,0]),I 0]) []:=hn;refine ah hn ?_;refine tc ?_
 refine .inl ⟨⟨false,[0,3],[2],[]⟩,au,uH ?_⟩;refine⟨rfl,aw,by show(8:Int)*n<=_;omega,aw,dd ?_⟩;refine hZ ?_
 rw[m1];have hb:BL l=false->lS s l n=(BY,1):=λh=>by unfold lS;rw[gC (.inr (.inr (.inr h)))]
 refine zZ.seq l.length (λk=>(.za::.za::.za::.ref 0 [] 3 0 0:: .za::.za::.ref 1 [] 8 0 0::I 0:: .za::.za::.za::.ref 3 [] 8 0 0:: .za::.za::mC (mC (mC (lT l::I l.length::I k:: .za::.za::.za::.za::.za::.za::.za::mC (mC ([]))))))) (λk=>[⟨1,66,3,[ql s],0⟩,⟨1,38,8,[[I 0,I 0,I 0,.fp 1 0 [],.fp 1 0 [],.fp 1 0 [],.fp 1 0 [],.fp 1 0 []]],0⟩,⟨1,69,5,[zK (q8 s).1],0⟩,⟨1,38,8,[[I 0,I 0,I 0,.fp 0 1 (List.replicate n.toNat [I 0]),.fp 1 5 [zK (q8 s).1],.gl 4 4 (((l.take k).map kF).map qW),ig (List.replicate n.toNat [0,0,0,0,0,0]),.fp 1 0 []]],0⟩,⟨4,76,4,((l.take k).map kF).map qW,0⟩]) (λk=>∀j,j<k->CN l j=true) ?_ aj (λk hk hr=>?_) (λhr=>?_)
 ·refine zp.trans (zp.Ac 3 5 76 4 rfl rfl (.inl rfl) rfl rfl) ?_;exact cC
 ·obtain⟨x,hx⟩:∃x,x=l[k]:=⟨_,rfl⟩;have hx2:l[k]?=some x:=by rw[gp hk,hx]
  have hg:(l.map qv)[k]?=some (qv x):=by rw[gz,hx2];rfl
  have hxm:x∈l:=bN
  have hno:CN l k=(xL x && decide (zM ((l.take k).map kF) x<0)):=by unfold CN;rw[hx2]
  have bad:CN l k=false->lS s l n=(BY,1):=λh=>hb (by unfold BL;rw[sK];exact⟨k,aq hk,aH⟩)
  have hlg:(((l.take k).map kF).map qW).length=k:=aA
  have eg:((l.take (k+1)).map kF).map qW=((l.take k).map kF).map qW++[qW (kF x)]:=bP
  conv=>whnf
  refine uF ?_;(refine td hg ?_)
  refine ah (yB x (by have:=hl.2 x hxm;omega)) ?_;refine⟨λh2=>?_,λh2=>?_⟩
  rotate_left
  ·rw[bad (by rw[hno,h2];rfl)];refine dd ?_;refine tc ?_
   (refine .inr ⟨aj,uH ?_⟩)
   exact cY
  refine dd ?_;refine ah (EU ((l.take k).map kF) x aA) ?_;refine⟨λh3=>?_,λh3=>?_⟩
  ·rw[bad (by rw[hno,show decide (zM ((l.take k).map kF) x<0)=false from by simp at h3 ⊢;omega,sX])];refine dd ?_;refine tc ?_
   (refine .inr ⟨aj,uH ?_⟩)
   exact cY
  refine dd ?_;refine tc ?_
  refine⟨rfl,.inr rfl,bQ,by rw[hlg];show(k+1)*40<=_;omega,dd ?_⟩;refine .inl ⟨rfl,?_,λj hj=>?_⟩
  ·rw[zw aw,eg];exact cE 5
  ·by_cases e:j=k
   ·subst e;rw[hno,h2];simp at h3 ⊢;omega
   ·exact hr j aw
 ·have qc:BL l=true:=by
   unfold BL;rw[gI];intro i hi;exact hr i (aq hi)
  have e:lS s l n=(⟨0,0,0,List.replicate n.toNat 0,[(q8 s).1],l.map kF,List.replicate n.toNat [0,0,0,0,0,0],[]⟩,0):=by unfold lS;rw[gu (by simp only[h0,qc];simp;omega)]
  rw[e];refine uD ?_;rw[pQ];refine⟨.inl rfl,_,zp.var 1 rfl rfl rfl (.cons (.refl _) (.cons (.refl _) (.cons (.refl _) (.cons (.refl _) (.cons (WC.share 1 5 _) (.cons (.refl _) (.cons (.refl _) (.cons (WC.nil 0 3) .nil)))))))),?_⟩
  have e9:zU ⟨0,0,0,List.replicate n.toNat 0,[(q8 s).1],l.map kF,List.replicate n.toNat [0,0,0,0,0,0],[]⟩=[I 0,I 0,I 0,.fp 0 1 (List.replicate n.toNat [I 0]),.fp 0 5 [zK (q8 s).1],lL (l.map kF),ig (List.replicate n.toNat [0,0,0,0,0,0]),.fp 0 3 []]:=by
   have e8:(List.replicate n.toNat (0:Int)).map encI=List.replicate n.toNat [I 0]:=List.map_replicate;show [I 0,I 0,I 0,C.fp 0 1 ((List.replicate n.toNat (0:Int)).map encI),_,_,_,_]=_;rw[e8]
   rfl
  show _=some (C.fC [C.agg (zU ⟨0,0,0,List.replicate n.toNat 0,[(q8 s).1],l.map kF,List.replicate n.toNat [0,0,0,0,0,0],[]⟩),I 0]);rw[e9]
  rfl
end Go.Wor
namespace Go.Wor
open Go.Ab Go.Proofs Tryz Go.Hy Go.Gat Go.Nam Go.Hos Go.Con Go.Sna
def j9{F:List (List C)}{z:List C}{k n:Nat}(hF:F.length=n)(h:k<n):(F.take k++(List.replicate n z).drop k)[k]?=some z:=by
 rw[gO aA,sB,rj,sQ,gC aw]
def jd{F:List (List C)}{x z:List C}{k n:Nat}(hx:F[k]?=some x)(hn:k<n):(F.take k++(List.replicate n z).drop k).set k x=F.take (k+1)++(List.replicate n z).drop (k+1):=by
 obtain⟨hk,rfl⟩:=gm.1 hx;have e1:(F.take k).length=k:=aA
 rw[sY _ _ aw,e1,rR,List.drop_replicate,List.drop_replicate,rb hk,pG];have e2:n-k=(n-(k+1))+1:=aw
 rw[e2,sO]
 rfl
def vd{F:List (List C)}{z:List C}{n:Nat}(hF:F.length=n):F.take n++(List.replicate n z).drop n=F:=by
 rw[sD aw,List.drop_of_length_le aj,rE]
def M3(x:Int)(l:List Int)(hl:l.length<1000000000):tn 198 [] [lI (x::l)] (.sl 0 [] 1 0 (x::l).length false) [⟨2,3,1,(x::l).map encI,0⟩]:=by
 have e:0+((l.map encI).length+1)=(x::l).length:=aj
 rw[<-e];refine zb.zI (fn:=f198) func198 rfl (uH ?_);refine⟨aj,uH ?_⟩;refine .inr ⟨.inl rfl,ay,bb,uH ?_⟩;exact uJ
def vt(l:List Int)(hl:l.length<1000000000):tn 198 [] [lI l] (lI l) []:=by
 cases l with
 |nil=>
  refine ab func198 ?_;refine⟨?_,?_⟩
  ·refine dd ?_;exact dw
  ·refine dd ?_;refine .inr ⟨rfl,dd ?_⟩;exact⟨.inl rfl,_,zp.cell 2 rfl ((WC.none 1 1 1).trans (WC.share 1 1 [])),rfl⟩
 |cons x l=>
  have hl3:l.length+1<1000000000:=aq hl
  refine ab func198 ?_;refine⟨aj,uH ?_⟩;refine .inr ⟨.inl rfl,ay,bb,uH ?_⟩;exact dz
def Xi(x:Int)(l:List Int)(hl:l.length<1000000000):tn 241 [] [lU (x::l)] (.sl 0 [] 1 0 (x::l).length false) [⟨2,48,1,(x::l).map jW,0⟩]:=by
 have e:0+((l.map jW).length+1)=(x::l).length:=aj
 rw[<-e];refine zb.zI (fn:=f241) func241 rfl (uH ?_);refine⟨aj,uH ?_⟩;refine .inr ⟨.inl rfl,ay,bb,uH ?_⟩;exact uJ
def Xj(l:List Int)(hl:l.length<1000000000):tn 241 [] [lU l] (lU l) []:=by
 cases l with
 |nil=>
  refine ab func241 ?_;refine⟨?_,?_⟩
  ·refine dd ?_;exact dw
  ·refine dd ?_;refine .inr ⟨rfl,dd ?_⟩;exact⟨.inl rfl,_,zp.cell 2 rfl ((WC.none 1 1 1).trans (WC.share 1 1 [])),rfl⟩
 |cons x l=>
  have hl3:l.length+1<1000000000:=aq hl
  refine ab func241 ?_;refine⟨aj,uH ?_⟩;refine .inr ⟨.inl rfl,ay,bb,uH ?_⟩;exact dz
def Xh(x:fQ)(l:List fQ)(hl:l.length<1000000000):tn 201 [] [lL (x::l)] (.sl 0 [] 4 0 (x::l).length false) [⟨2,76,4,(x::l).map qW,0⟩]:=by
 have e:0+((l.map qW).length+1)=(x::l).length:=aj
 rw[<-e];refine zb.zI (fn:=f201) func201 rfl (uH ?_);refine⟨aj,uH ?_⟩;refine .inr ⟨.inl rfl,ay,by show _*40<=_;simp;omega,uH ?_⟩;exact uJ
def ky(l:List fQ)(hl:l.length<1000000000):tn 201 [] [lL l] (lL l) []:=by
 cases l with
 |nil=>
  refine ab func201 ?_;refine⟨?_,?_⟩
  ·refine dd ?_;exact⟨.inl rfl,_,zp.cell 2 rfl (WC.nil 0 4),rfl⟩
  ·refine dd ?_;refine .inr ⟨rfl,dd ?_⟩;exact⟨.inl rfl,_,zp.cell 2 rfl ((WC.none 1 4 4).trans (WC.share 1 4 [])),rfl⟩
 |cons x l=>
  have hl3:l.length+1<1000000000:=aq hl
  refine ab func201 ?_;refine⟨aj,uH ?_⟩;refine .inr ⟨.inl rfl,ay,by show _*40<=_;simp;omega,uH ?_⟩;exact dz
def M4(x:fT)(l:List fT)(hl:l.length<1000000000):tn 204 [] [lR (x::l)] (.sl 0 [] 3 0 (x::l).length false) [⟨2,254,3,(x::l).map xH,0⟩]:=by
 have e:0+((l.map xH).length+1)=(x::l).length:=aj
 rw[<-e];refine zb.zI (fn:=f204) func204 rfl (uH ?_);refine⟨aj,uH ?_⟩;refine .inr ⟨.inl rfl,ay,by show _*24<=_;simp;omega,uH ?_⟩;exact uJ
def Cn(l:List fT)(hl:l.length<1000000000):tn 204 [] [lR l] (lR l) []:=by
 cases l with
 |nil=>
  refine ab func204 ?_;refine⟨?_,?_⟩
  ·refine dd ?_;exact⟨.inl rfl,_,zp.cell 2 rfl (WC.nil 0 3),rfl⟩
  ·refine dd ?_;refine .inr ⟨rfl,dd ?_⟩;exact⟨.inl rfl,_,zp.cell 2 rfl ((WC.none 1 3 3).trans (WC.share 1 3 [])),rfl⟩
 |cons x l=>
  have hl3:l.length+1<1000000000:=aq hl
  refine ab func204 ?_;refine⟨aj,uH ?_⟩;refine .inr ⟨.inl rfl,ay,by show _*24<=_;simp;omega,uH ?_⟩;exact dz
def L0(e:En)(he:e.next.length<1000000000):tn 254 [] [.agg [],.agg (zx e)] (.agg (zx e)) []:=by
 refine ab func254 ?_;refine ah (vt e.next he) ?_;exact uI
def X9(l:List En)(hl:l.length<1000000000)(hp:∀x∈l,tn 254 [] [.agg [],.agg (zx x)] (.agg (zx x)) []):tn 253 [] [lE l,.fn 254 [] [],.agg []] (.sl 0 [] 3 0 l.length false) [⟨2,74,3,l.map zx,0⟩]:=by
 have m1:(l.map zx).length=l.length:=gE ..;refine zb.zI (fn:=f253) func253 rfl (uH ?_);rw[m1];refine⟨rfl,aw,by show(40:Int)*_<=_;omega,aw,dd ?_⟩;rw[m1,toNat_cast];refine zZ.seq l.length (λk=>((lE l)::.fn 254 [] []::.za::.za::.za::.ref 0 [] 0 0 0::.fp 1 0 []::.sl 1 [] 3 0 l.length false::.za::.za::.za::.za::.za::(lE l)::I l.length::I k::mC ([.za,.za,.za,.za,.za]))) (λk=>[⟨1,283,0,[[]],0⟩,⟨2,74,3,(l.map zx).take k++(List.replicate l.length [U 0,.fp 1 0 [],I 0]).drop k,0⟩]) (λk=>True) ?_ trivial (λk hk hr=>?_) (λhr=>?_)
 ·exact cC
 ·obtain⟨x,hx⟩:∃x,x=l[k]:=⟨_,rfl⟩;have hx2:l[k]?=some x:=by rw[gp hk,hx]
  have hg:(l.map zx)[k]?=some (zx x):=by rw[gz,hx2];rfl
  conv=>whnf
  refine uF ?_;(refine td hg ?_)
  refine ah (hp x tK) ?_;refine⟨aw,aA,dd ?_⟩;have e1:0+(k:Int).toNat=k:=aj
  rw[e1];refine⟨_,j9 aj hk,rfl,dd ?_⟩;refine .inl ⟨rfl,?_,trivial⟩;have e2:=jd (z:=[U 0,.fp 1 0 [],I 0]) (n:=l.length) hg hk;rw[zw aw,<-e2];exact cE 2
 ·exact dy
def z6{r:List C}(h:r.all zy=true):∀q∈[r],∀c∈q,zy c=true:=λq hq c hc=>by
 rw[gS.1 hq]at hc;exact gI.1 h c hc
def J2(g:Gr):Prop:=g.ends.length<1000000000/\∀e∈g.ends,e.next.length<1000000000
def Gp(v:fB):Prop:=v.zm.length<1000000000/\∀g∈v.zm,J2 g
structure jf(w:Wor):Prop where
 pins:w.pins.length<1000000000
 ze:w.ze.length<1000000000/\∀v∈w.ze,Gp v
 zd:w.zd.length<1000000000
 counts:w.counts.length<1000000000/\∀r∈w.counts,r.length<1000000000
 zu:w.zu.length<1000000000
def KT(g:Gr)(hg:J2 g):tn 240 [] [.agg [],.agg (zF g)] (.agg (zF g)) []:=by
 refine ab func240 ?_;refine af [] (X9 g.ends hg.1 λe he=>L0 e (hg.2 e he)) ?_;exact⟨.inl rfl,_,zp.zV 2 0 1 rfl rfl rfl rfl (.inr rfl) rfl aj (shut_map (enc:=zx) (λ_=>rfl) g.ends) (z6 rfl),rfl⟩
def Yb(l:List Gr)(hl:l.length<1000000000)(hp:∀x∈l,tn 240 [] [.agg [],.agg (zF x)] (.agg (zF x)) []):tn 239 [] [lG l,.fn 240 [] [],.agg []] (.sl 0 [] 2 0 l.length false) [⟨2,72,2,l.map zF,0⟩]:=by
 have m1:(l.map zF).length=l.length:=gE ..;refine zb.zI (fn:=f239) func239 rfl (uH ?_);rw[m1];refine⟨rfl,aw,by show(32:Int)*_<=_;omega,aw,dd ?_⟩;rw[m1,toNat_cast];refine zZ.seq l.length (λk=>((lG l)::.fn 240 [] []::.za::.za::.za::.ref 0 [] 0 0 0::.fp 1 0 []::.sl 1 [] 2 0 l.length false::.za::.za::.za::.za::.za::(lG l)::I l.length::I k::mC ([.za,.za,.za,.za,.za]))) (λk=>[⟨1,283,0,[[]],0⟩,⟨2,72,2,(l.map zF).take k++(List.replicate l.length ([U 0,.fp 1 0 []]:List C)).drop k,0⟩]) (λk=>True) ?_ trivial (λk hk hr=>?_) (λhr=>?_)
 ·exact cC
 ·obtain⟨x,hx⟩:∃x,x=l[k]:=⟨_,rfl⟩;have hx2:l[k]?=some x:=by rw[gp hk,hx]
  have hg:(l.map zF)[k]?=some (zF x):=by rw[gz,hx2];rfl
  conv=>whnf
  refine uF ?_;(refine td hg ?_)
  refine ah (hp x tK) ?_;refine⟨aw,aA,dd ?_⟩;have e1:0+(k:Int).toNat=k:=aj
  rw[e1];refine⟨_,j9 aj hk,rfl,dd ?_⟩;refine .inl ⟨rfl,?_,trivial⟩;have e2:=jd (z:=([U 0,.fp 1 0 []]:List C)) (n:=l.length) hg hk;rw[zw aw,<-e2];exact cE 2
 ·exact dy
def jR(v:fB)(hv:Gp v):tn 200 [] [.agg [],.agg (zK v)] (.agg (zK v)) []:=by
 refine ab func200 ?_;refine af [] (Yb v.zm hv.1 λg hg=>KT g (hv.2 g hg)) ?_;exact⟨.inl rfl,_,zp.zV 2 0 3 rfl rfl rfl rfl (.inr rfl) rfl aj (shut_map (enc:=zF) (λ_=>rfl) v.zm) (z6 rfl),rfl⟩
def Bc(l:List fB)(hl:l.length<1000000000)(hp:∀x∈l,tn 200 [] [.agg [],.agg (zK x)] (.agg (zK x)) []):tn 199 [] [lV l,.fn 200 [] [],.agg []] (.sl 0 [] 5 0 l.length false) [⟨2,69,5,l.map zK,0⟩]:=by
 have m1:(l.map zK).length=l.length:=gE ..;refine zb.zI (fn:=f199) func199 rfl (uH ?_);rw[m1];refine⟨rfl,aw,by show(104:Int)*_<=_;omega,aw,dd ?_⟩;rw[m1,toNat_cast];refine zZ.seq l.length (λk=>((lV l)::.fn 200 [] []::.za::.za::.za::.ref 0 [] 0 0 0::.fp 1 0 []::.sl 1 [] 5 0 l.length false::.za::.za::.za::.za::.za::(lV l)::I l.length::I k::mC ([.za,.za,.za,.za,.za]))) (λk=>[⟨1,283,0,[[]],0⟩,⟨2,69,5,(l.map zK).take k++(List.replicate l.length ([.fp 1 0 [],.fp 1 0 [],.fp 1 0 [],.fp 1 0 [],Bo false]:List C)).drop k,0⟩]) (λk=>True) ?_ trivial (λk hk hr=>?_) (λhr=>?_)
 ·exact cC
 ·obtain⟨x,hx⟩:∃x,x=l[k]:=⟨_,rfl⟩;have hx2:l[k]?=some x:=by rw[gp hk,hx]
  have hg:(l.map zK)[k]?=some (zK x):=by rw[gz,hx2];rfl
  conv=>whnf
  refine uF ?_;(refine td hg ?_)
  refine ah (hp x tK) ?_;refine⟨aw,aA,dd ?_⟩;have e1:0+(k:Int).toNat=k:=aj
  rw[e1];refine⟨_,j9 aj hk,rfl,dd ?_⟩;refine .inl ⟨rfl,?_,trivial⟩;have e2:=jd (z:=([.fp 1 0 [],.fp 1 0 [],.fp 1 0 [],.fp 1 0 [],Bo false]:List C)) (n:=l.length) hg hk;rw[zw aw,<-e2];exact cE 2
 ·exact dy
def yh(r:List Int)(hr:r.length<1000000000):tn 203 [] [.agg [],lU r] (lU r) []:=by
 refine ab func203 ?_;refine ah (Xj r hr) ?_;exact uI
def LC(H':zl)(ρ:Nat->Nat):∀(i:Nat) (K:zl),nX [] H' ρ i K=K
 |_,[]=>rfl
 |i,ob::K=>by unfold nX;rw[LC H' ρ (i+1) K];rfl
def Az{P:Program}{f:FuncId}{args:List C}{r:C}{H':zl}(h:zb P f [] args r H')(hR:qY H'=true)(ha:args.map (xW [] 9)=args)(H:zl)(hf:qY H=true):
  zb P f H args (yP (jc [] H.length) 9 r) (H++H'.map (zG (jc [] H.length))):=by
 have:=h.part [] hR (K:=H) rfl ha rfl rfl hf;have e:wc [] H H'=H++H'.map (zG (jc [] H.length)):=by unfold wc;rw[LC];rfl
 rwa [e]at this
def NH{α:Type}{enc:α->List C}{f:C->C}(hf:∀x,(enc x).map f=enc x)(l:List α)(v:Nat)(row:List C):(((l.map enc).set v row).map λr=>r.map f)=(l.map enc).set v (row.map f):=by
 rw[rH,rY]
 congr 1
 exact sA λx _=>hf x
def jX{n:Nat}{x:Ob}{H:zl}(h1:qV n [x]=true)(h2:qV n H=true):qV n (x::H)=true:=by
 unfold qV at *;simp only[sg,uw,uh] at *;rw[h1,h2];rfl
def zc{x:Ob}{H:zl}(h1:qY [x]=true)(h2:qY H=true):qY (x::H)=true:=by
 unfold qY at *;simp only[sg,uw,uh] at *;rw[h1,h2];rfl
def zj{ty sz fz:Nat}{rows:List (List C)}(h:∀r∈rows,∀c∈r,zy c=true):qY [⟨1,ty,sz,rows,fz⟩]=true:=by
 unfold qY;simp only[sg,uw,uh];rw[gI]
 exactλr hr=>gI.2 λc hc=>h r hr c hc
def zB{α:Type}{enc:α->List C}{p:C->Bool}(h:∀x,(enc x).all p=true){row:List C}(hr:row.all p=true)(l:List α)(v:Nat):∀r∈(l.map enc).set v row,∀c∈r,p c=true:=λr hm c hc=>by
 rcases pT hm with hm|rfl
 ·obtain⟨x,_,rfl⟩:=pd.1 hm;exact gI.1 (h x) c hc
 ·exact gI.1 hr c hc
def kB{α:Type}{enc:α->List C}{p:C->Bool}(h:∀x,(enc x).all p=true){row z:List C}(hz:z.all p=true)(l:List α){v k:Nat}(n:Nat)(hr:k<=v\/row.all p=true):∀r∈((l.map enc).set v row).take k++(List.replicate n z).drop k,∀c∈r,p c=true:=λr hm c hc=>by
 rcases gT.1 hm with hm|hm
 ·rcases hr with hr|hr
  ·rw[List.take_set_of_le hr]at hm;obtain⟨x,_,rfl⟩:=pd.1 (rP hm);exact gI.1 (h x) c hc
  ·exact zB h hr l v r (rP hm) c hc
 ·rw[pE (sL hm)]at hc;exact gI.1 hz c hc
def Tk(e0:En)(x:Int)(l:List Int)(he:e0.next=x::l)(hl:l.length<1000000000):tn 254 [] [.agg [],.agg (zx e0)] (.agg [U e0.head,C.sl 0 [] 1 0 e0.next.length false,I e0.zi]) [⟨2,3,1,e0.next.map encI,0⟩]:=by
 have h1:tn 254 [] [.agg [],.agg (zx e0)] (.agg [U e0.head,C.sl 3 [] 1 0 e0.next.length false,I e0.zi]) [⟨1,283,0,[[]],0⟩,⟨1,74,3,[[U e0.head,C.sl 3 [] 1 0 e0.next.length false,I e0.zi]],0⟩,⟨1,74,3,[[U e0.head,C.sl 3 [] 1 0 e0.next.length false,I e0.zi]],0⟩,⟨2,3,1,e0.next.map encI,0⟩]:=by
  have hc:=M3 x l hl;rw[<-he]at hc;refine zb.zI (fn:=f254) func254 rfl (uH ?_);refine af [] (hc) ?_;exact uJ
 exact h1.n9 (λB h _=>zp.fD [3] [0] _ _ tM rfl rfl rfl) (pb _)
def WU(e0:En)(x:Int)(l:List Int)(he:e0.next=x::l)(hl:l.length<1000000000)(H:zl)(hf:qY H=true):tn 254 H [.agg [],.agg (zx e0)] (.agg ([U e0.head,C.sl H.length [] 1 0 e0.next.length false,I e0.zi])) (H++[⟨2,3,1,e0.next.map encI,0⟩]):=
 Az (Tk e0 x l he hl) rfl rfl H hf
def zH{α:Type}{enc:α->List C}{sel:List Nat}(hf:∀x,(enc x).map (xW sel 9)=enc x)(l:List α)(v:Nat)(row:List C)(ty sz fz:Nat):zN sel ⟨1,ty,sz,(l.map enc).set v row,fz⟩=⟨1,ty,sz,(l.map enc).set v (row.map (xW sel 9)),fz⟩:=by
 show(⟨1,ty,sz,((l.map enc).set v row).map (λr=>r.map (xW sel 9)),fz⟩:Ob)=_;rw[NH hf]
def zC{α:Type}{enc:α->List C}{ρ:Nat->Nat}(hf:∀x,(enc x).map (yP ρ 9)=enc x)(l:List α)(v:Nat)(row:List C)(ty sz fz:Nat):zG ρ ⟨1,ty,sz,(l.map enc).set v row,fz⟩=⟨1,ty,sz,(l.map enc).set v (row.map (yP ρ 9)),fz⟩:=by
 show(⟨1,ty,sz,((l.map enc).set v row).map (λr=>r.map (yP ρ 9)),fz⟩:Ob)=_;rw[NH hf]
def WQ(l:List En)(e:Nat)(e0:En)(hv:l[e]?=some e0)(hl:l.length<1000000000)(hp:∀x∈l,tn 254 [] [.agg [],.agg (zx x)] (.agg (zx x)) [])
 (hA:∀H,qY H=true->tn 254 H [.agg [],.agg (zx e0)] (.agg ([U e0.head,C.sl H.length [] 1 0 e0.next.length false,I e0.zi])) (H++[⟨2,3,1,e0.next.map encI,0⟩])):
  tn 253 [] [lE l,.fn 254 [] [],.agg []] (.sl 0 [] 3 0 l.length false) [⟨1,0,3,(l.map zx).set e ([U e0.head,C.sl 1 [] 1 0 e0.next.length false,I e0.zi]),0⟩,⟨2,3,1,e0.next.map encI,0⟩]:=by
 have m1:(l.map zx).length=l.length:=gE ..;have hvl:=(gm.1 hv).1
 have h1:tn 253 [] [lE l,.fn 254 [] [],.agg []] (.sl 1 [] 3 0 l.length false) [⟨1,283,0,[[]],0⟩,⟨1,0,3,(l.map zx).set e ([U e0.head,C.sl 3 [] 1 0 e0.next.length false,I e0.zi]),0⟩,⟨1,74,3,[zx e0],0⟩,⟨2,3,1,e0.next.map encI,0⟩]:=by
  refine zb.zI (fn:=f253) func253 rfl (uH ?_);rw[m1];refine⟨rfl,aw,by show(40:Int)*_<=_;omega,aw,dd ?_⟩;rw[m1,toNat_cast];have ZZ:List C:=([U 0,.fp 1 0 [],I 0]:List C);refine zZ.seq l.length (λk=>((lE l)::.fn 254 [] []::.za::.za::.za::.ref 0 [] 0 0 0::.fp 1 0 []::.sl 1 [] 3 0 l.length false::.za::.za::.za::.za::.za::(lE l)::I l.length::I k::mC ([.za,.za,.za,.za,.za]))) (λk=>if k<=e then [⟨1,283,0,[[]],0⟩,⟨1,0,3,((l.map zx).set e ([U e0.head,C.sl 3 [] 1 0 e0.next.length false,I e0.zi])).take k++(List.replicate l.length ([U 0,.fp 1 0 [],I 0]:List C)).drop k,0⟩] else [⟨1,283,0,[[]],0⟩,⟨1,0,3,((l.map zx).set e ([U e0.head,C.sl 3 [] 1 0 e0.next.length false,I e0.zi])).take k++(List.replicate l.length ([U 0,.fp 1 0 [],I 0]:List C)).drop k,0⟩,⟨1,74,3,[zx e0],0⟩,⟨2,3,1,e0.next.map encI,0⟩]) (λk=>True) ?_ trivial (λk hk hr=>?_) (λhr=>?_)
  ·rw[gC (pb _)];refine zp.trans (zp.CY 1 rfl λr hr c hc=>?_) (cC);rw[pE hr]at hc;exact gI.1 (rfl:([U 0,.fp 1 0 [],I 0]:List C).all zy=true) c hc
  ·obtain⟨x,hx⟩:∃x,x=l[k]:=⟨_,rfl⟩;have hx2:l[k]?=some x:=by rw[gp hk,hx]
   have hxm:x∈l:=bN
   have hg:(l.map zx)[k]?=some (zx x):=by rw[gz,hx2];rfl
   have e1:0+(k:Int).toNat=k:=aj
   have low:∀n j,j<=e\/3<n->∀r∈((l.map zx).set e ([U e0.head,C.sl 3 [] 1 0 e0.next.length false,I e0.zi])).take j++(List.replicate l.length ([U 0,.fp 1 0 [],I 0]:List C)).drop j,∀c∈r,jg n 9 c=true:=λn j h=>kB (enc:=zx) (λ_=>rfl) rfl l l.length (h.imp_right λh=>by simp[jg,ql];omega)
   have own:∀j,∀r∈((l.map zx).set e ([U e0.head,C.sl 3 [] 1 0 e0.next.length false,I e0.zi])).take j++(List.replicate l.length ([U 0,.fp 1 0 [],I 0]:List C)).drop j,∀c∈r,zy c=true:=λj=>kB (enc:=zx) (λ_=>rfl) rfl l l.length (.inr rfl)
   by_cases hkv:k=e
   ·subst hkv;obtain rfl:e0=x:=by rw[hv]at hx2;exact gF hx2
    have hF:((l.map zx).set k ([U e0.head,C.sl 3 [] 1 0 e0.next.length false,I e0.zi]))[k]?=some ([U e0.head,C.sl 3 [] 1 0 e0.next.length false,I e0.zi]):=by rw[gM,gC rfl,gC (aq hk)]
    rw[gC (gJ _),gu aw];conv=>whnf
    refine uF ?_;(refine td hg ?_)
    refine⟨_,_,hA _ (zc rfl (zc (zj (own k)) rfl)),dd ?_⟩;exact dh
   ·have hF:((l.map zx).set e ([U e0.head,C.sl 3 [] 1 0 e0.next.length false,I e0.zi]))[k]?=some (zx x):=by rw[pq (λh=>hkv h.symm)];exact hg
    by_cases ft:k<e
    ·rw[gC aw,gC aw];conv=>whnf
     refine uF ?_;(refine td hg ?_)
     refine ah (hp x hxm) ?_;refine⟨aw,aA,dd ?_⟩;rw[e1];refine⟨_,j9 aj hk,rfl,dd ?_⟩;refine .inl ⟨rfl,?_,trivial⟩;rw[zw aw,<-jd hF hk];refine zp.xy 2 hU rfl rfl rfl (jX rfl (yl ?_)) rfl;have lw:=low 2 (k+1) (.inl aw);rw[<-jd (z:=([U 0,.fp 1 0 [],I 0]:List C)) (n:=l.length) hF hk]at lw;exact lw
    ·rw[gu aw,gu aw];conv=>whnf
     refine uF ?_;(refine td hg ?_)
     refine ah (hp x hxm) ?_;refine⟨aw,aA,dd ?_⟩;rw[e1];refine⟨_,j9 aj hk,rfl,dd ?_⟩;refine .inl ⟨rfl,?_,trivial⟩;rw[zw aw,<-jd hF hk];refine zp.xy 4 hU rfl rfl rfl (jX rfl (jX (yl ?_) (jX rfl rfl))) rfl;have lw:=low 4 (k+1) (.inr aw);rw[<-jd (z:=([U 0,.fp 1 0 [],I 0]:List C)) (n:=l.length) hF hk]at lw;exact lw
  ·exact gk
 refine h1.n9 (λB h _=>?_) (pb _);have hw:=zp.fD (B:=B) [1,3] [0] [.sl 1 [] 3 0 l.length false] [⟨1,283,0,[[]],0⟩,⟨1,0,3,(l.map zx).set e ([U e0.head,C.sl 3 [] 1 0 e0.next.length false,I e0.zi]),0⟩,⟨1,74,3,[zx e0],0⟩,⟨2,3,1,e0.next.map encI,0⟩] tM rfl rfl (zc rfl (zc (zj (zB (enc:=zx) (λ_=>rfl) rfl l e)) (zc rfl rfl)))
 have e:xA [1,3] [⟨1,283,0,[[]],0⟩,⟨1,0,3,(l.map zx).set e ([U e0.head,C.sl 3 [] 1 0 e0.next.length false,I e0.zi]),0⟩,⟨1,74,3,[zx e0],0⟩,⟨2,3,1,e0.next.map encI,0⟩]=[⟨1,0,3,(l.map zx).set e ([U e0.head,C.sl 1 [] 1 0 e0.next.length false,I e0.zi]),0⟩,⟨2,3,1,e0.next.map encI,0⟩]:=by
  show zN [1,3] ⟨1,0,3,(l.map zx).set e ([U e0.head,C.sl 3 [] 1 0 e0.next.length false,I e0.zi]),0⟩::_=_;rw[zH (enc:=zx) (λ_=>rfl)]
  rfl
 rw[e]at hw;exact hw
structure Gm(g0:Gr)(e:Nat)(e0:En):Prop where
 sm:J2 g0
 at_:g0.ends[e]?=some e0
 ne:e0.next≠[]
def X8{g0:Gr}{e:Nat}{e0:En}(h:Gm g0 e e0)(H:zl)(hf:qY H=true):tn 253 H [lE g0.ends,.fn 254 [] [],.agg []] (.sl H.length [] 3 0 g0.ends.length false) (H++[⟨1,0,3,(g0.ends.map zx).set e ([U e0.head,C.sl (H.length+1) [] 1 0 e0.next.length false,I e0.zi]),0⟩,⟨2,3,1,e0.next.map encI,0⟩]):=by
 obtain⟨x,l,hx⟩:∃x l,e0.next=x::l:=by
  cases hh:e0.next with
  |nil=>exact absurd hh h.ne
  |cons x l=>exact⟨x,l,rfl⟩
 have hlen:l.length<1000000000:=by
  have:=h.sm.2 e0 (gA h.at_);rw[hx]at this;exact de
 have:=Az (WQ g0.ends e e0 h.at_ h.sm.1 (λy hy=>L0 y (h.sm.2 y hy)) (WU e0 x l hx hlen)) (zc (zj (zB (enc:=zx) (λ_=>rfl) rfl _ _)) rfl) rfl H hf
 have e9:[(⟨1,0,3,(g0.ends.map zx).set e ([U e0.head,C.sl 1 [] 1 0 e0.next.length false,I e0.zi]),0⟩:Ob),⟨2,3,1,e0.next.map encI,0⟩].map (zG (jc [] H.length))=[⟨1,0,3,(g0.ends.map zx).set e ([U e0.head,C.sl (H.length+1) [] 1 0 e0.next.length false,I e0.zi]),0⟩,⟨2,3,1,e0.next.map encI,0⟩]:=by
  show zG _ ⟨1,0,3,_,0⟩::_=_;rw[zC (enc:=zx) (λ_=>rfl)]
  rfl
 rw[e9]at this;exact dM
def RT{g0:Gr}{e:Nat}{e0:En}(h:Gm g0 e e0):tn 240 [] [.agg [],.agg (zF g0)] (.agg [U g0.zt,C.sl 0 [] 3 0 g0.ends.length false]) [⟨1,0,3,(g0.ends.map zx).set e ([U e0.head,C.sl 1 [] 1 0 e0.next.length false,I e0.zi]),0⟩,⟨2,3,1,e0.next.map encI,0⟩]:=by
 have own:∀i,∀r∈(g0.ends.map zx).set e ([U e0.head,C.sl i [] 1 0 e0.next.length false,I e0.zi]),∀c∈r,zy c=true:=λi=>zB (enc:=zx) (λ_=>rfl) rfl _ _
 have h1:tn 240 [] [.agg [],.agg (zF g0)] (.agg [U g0.zt,C.sl 3 [] 3 0 g0.ends.length false]) [⟨1,283,0,[[]],0⟩,⟨1,72,2,[[U g0.zt,C.sl 3 [] 3 0 g0.ends.length false]],0⟩,⟨1,72,2,[[U g0.zt,C.sl 3 [] 3 0 g0.ends.length false]],0⟩,⟨1,0,3,(g0.ends.map zx).set e ([U e0.head,C.sl 4 [] 1 0 e0.next.length false,I e0.zi]),0⟩,⟨2,3,1,e0.next.map encI,0⟩]:=by
  refine zb.zI (fn:=f240) func240 rfl (uH ?_);refine⟨_,_,X8 h _ rfl,dd ?_⟩;exact uJ
 refine h1.n9 (λB hB _=>?_) (pb _);have hw:=zp.fD (B:=B) [3,4] [0] [.agg [U g0.zt,C.sl 3 [] 3 0 g0.ends.length false]] [⟨1,283,0,[[]],0⟩,⟨1,72,2,[[U g0.zt,C.sl 3 [] 3 0 g0.ends.length false]],0⟩,⟨1,72,2,[[U g0.zt,C.sl 3 [] 3 0 g0.ends.length false]],0⟩,⟨1,0,3,(g0.ends.map zx).set e ([U e0.head,C.sl 4 [] 1 0 e0.next.length false,I e0.zi]),0⟩,⟨2,3,1,e0.next.map encI,0⟩] (by rw[show B=0 from aq hB];rfl) rfl rfl (zc rfl (zc rfl (zc rfl (zc (zj (own 4)) rfl))))
 have e:xA [3,4] [⟨1,283,0,[[]],0⟩,⟨1,72,2,[[U g0.zt,C.sl 3 [] 3 0 g0.ends.length false]],0⟩,⟨1,72,2,[[U g0.zt,C.sl 3 [] 3 0 g0.ends.length false]],0⟩,⟨1,0,3,(g0.ends.map zx).set e ([U e0.head,C.sl 4 [] 1 0 e0.next.length false,I e0.zi]),0⟩,⟨2,3,1,e0.next.map encI,0⟩]=[⟨1,0,3,(g0.ends.map zx).set e ([U e0.head,C.sl 1 [] 1 0 e0.next.length false,I e0.zi]),0⟩,⟨2,3,1,e0.next.map encI,0⟩]:=by
  show zN [3,4] ⟨1,0,3,(g0.ends.map zx).set e ([U e0.head,C.sl 4 [] 1 0 e0.next.length false,I e0.zi]),0⟩::_=_;rw[zH (enc:=zx) (λ_=>rfl)]
  rfl
 rw[e]at hw;exact hw
def S7{g0:Gr}{e:Nat}{e0:En}(h:Gm g0 e e0)(H:zl)(hf:qY H=true):tn 240 H [.agg [],.agg (zF g0)] (.agg ([U g0.zt,C.sl H.length [] 3 0 g0.ends.length false])) (H++[⟨1,0,3,(g0.ends.map zx).set e ([U e0.head,C.sl (H.length+1) [] 1 0 e0.next.length false,I e0.zi]),0⟩,⟨2,3,1,e0.next.map encI,0⟩]):=by
 have:=Az (RT h) (zc (zj (zB (enc:=zx) (λ_=>rfl) rfl _ _)) rfl) rfl H hf
 have e9:[(⟨1,0,3,(g0.ends.map zx).set e ([U e0.head,C.sl 1 [] 1 0 e0.next.length false,I e0.zi]),0⟩:Ob),⟨2,3,1,e0.next.map encI,0⟩].map (zG (jc [] H.length))=[⟨1,0,3,(g0.ends.map zx).set e ([U e0.head,C.sl (H.length+1) [] 1 0 e0.next.length false,I e0.zi]),0⟩,⟨2,3,1,e0.next.map encI,0⟩]:=by
  show zG _ ⟨1,0,3,_,0⟩::_=_;rw[zC (enc:=zx) (λ_=>rfl)]
  rfl
 rw[e9]at this;exact dM
def WR(e0:En)(e:Nat)(l:List Gr)(g:Nat)(g0:Gr)(hv:l[g]?=some g0)(hl:l.length<1000000000)(hp:∀x∈l,tn 240 [] [.agg [],.agg (zF x)] (.agg (zF x)) [])
 (hA:∀H,qY H=true->tn 240 H [.agg [],.agg (zF g0)] (.agg ([U g0.zt,C.sl H.length [] 3 0 g0.ends.length false])) (H++[⟨1,0,3,(g0.ends.map zx).set e ([U e0.head,C.sl (H.length+1) [] 1 0 e0.next.length false,I e0.zi]),0⟩,⟨2,3,1,e0.next.map encI,0⟩])):
  tn 239 [] [lG l,.fn 240 [] [],.agg []] (.sl 0 [] 2 0 l.length false) [⟨1,0,2,(l.map zF).set g ([U g0.zt,C.sl 1 [] 3 0 g0.ends.length false]),0⟩,⟨1,0,3,(g0.ends.map zx).set e ([U e0.head,C.sl 2 [] 1 0 e0.next.length false,I e0.zi]),0⟩,⟨2,3,1,e0.next.map encI,0⟩]:=by
 have m1:(l.map zF).length=l.length:=gE ..;have hvl:=(gm.1 hv).1
 have h1:tn 239 [] [lG l,.fn 240 [] [],.agg []] (.sl 1 [] 2 0 l.length false) [⟨1,283,0,[[]],0⟩,⟨1,0,2,(l.map zF).set g ([U g0.zt,C.sl 3 [] 3 0 g0.ends.length false]),0⟩,⟨1,72,2,[zF g0],0⟩,⟨1,0,3,(g0.ends.map zx).set e ([U e0.head,C.sl 4 [] 1 0 e0.next.length false,I e0.zi]),0⟩,⟨2,3,1,e0.next.map encI,0⟩]:=by
  refine zb.zI (fn:=f239) func239 rfl (uH ?_);rw[m1];refine⟨rfl,aw,by show(32:Int)*_<=_;omega,aw,dd ?_⟩;rw[m1,toNat_cast];have ZZ:List C:=([U 0,.fp 1 0 []]:List C);refine zZ.seq l.length (λk=>((lG l)::.fn 240 [] []::.za::.za::.za::.ref 0 [] 0 0 0::.fp 1 0 []::.sl 1 [] 2 0 l.length false::.za::.za::.za::.za::.za::(lG l)::I l.length::I k::mC ([.za,.za,.za,.za,.za]))) (λk=>if k<=g then [⟨1,283,0,[[]],0⟩,⟨1,0,2,((l.map zF).set g ([U g0.zt,C.sl 3 [] 3 0 g0.ends.length false])).take k++(List.replicate l.length ([U 0,.fp 1 0 []]:List C)).drop k,0⟩] else [⟨1,283,0,[[]],0⟩,⟨1,0,2,((l.map zF).set g ([U g0.zt,C.sl 3 [] 3 0 g0.ends.length false])).take k++(List.replicate l.length ([U 0,.fp 1 0 []]:List C)).drop k,0⟩,⟨1,72,2,[zF g0],0⟩,⟨1,0,3,(g0.ends.map zx).set e ([U e0.head,C.sl 4 [] 1 0 e0.next.length false,I e0.zi]),0⟩,⟨2,3,1,e0.next.map encI,0⟩]) (λk=>True) ?_ trivial (λk hk hr=>?_) (λhr=>?_)
  ·rw[gC (pb _)];refine zp.trans (zp.CY 1 rfl λr hr c hc=>?_) (cC);rw[pE hr]at hc;exact gI.1 (rfl:([U 0,.fp 1 0 []]:List C).all zy=true) c hc
  ·obtain⟨x,hx⟩:∃x,x=l[k]:=⟨_,rfl⟩;have hx2:l[k]?=some x:=by rw[gp hk,hx]
   have hxm:x∈l:=bN
   have hg:(l.map zF)[k]?=some (zF x):=by rw[gz,hx2];rfl
   have e1:0+(k:Int).toNat=k:=aj
   have low:∀n j,j<=g\/3<n->∀r∈((l.map zF).set g ([U g0.zt,C.sl 3 [] 3 0 g0.ends.length false])).take j++(List.replicate l.length ([U 0,.fp 1 0 []]:List C)).drop j,∀c∈r,jg n 9 c=true:=λn j h=>kB (enc:=zF) (λ_=>rfl) rfl l l.length (h.imp_right λh=>by simp[jg,ql];omega)
   have own:∀j,∀r∈((l.map zF).set g ([U g0.zt,C.sl 3 [] 3 0 g0.ends.length false])).take j++(List.replicate l.length ([U 0,.fp 1 0 []]:List C)).drop j,∀c∈r,zy c=true:=λj=>kB (enc:=zF) (λ_=>rfl) rfl l l.length (.inr rfl)
   by_cases hkv:k=g
   ·subst hkv;obtain rfl:g0=x:=by rw[hv]at hx2;exact gF hx2
    have hF:((l.map zF).set k ([U g0.zt,C.sl 3 [] 3 0 g0.ends.length false]))[k]?=some ([U g0.zt,C.sl 3 [] 3 0 g0.ends.length false]):=by rw[gM,gC rfl,gC (aq hk)]
    rw[gC (gJ _),gu aw];conv=>whnf
    refine uF ?_;(refine td hg ?_)
    refine⟨_,_,hA _ (zc rfl (zc (zj (own k)) rfl)),dd ?_⟩;exact dh
   ·have hF:((l.map zF).set g ([U g0.zt,C.sl 3 [] 3 0 g0.ends.length false]))[k]?=some (zF x):=by rw[pq (λh=>hkv h.symm)];exact hg
    by_cases ft:k<g
    ·rw[gC aw,gC aw];conv=>whnf
     refine uF ?_;(refine td hg ?_)
     refine ah (hp x hxm) ?_;refine⟨aw,aA,dd ?_⟩;rw[e1];refine⟨_,j9 aj hk,rfl,dd ?_⟩;refine .inl ⟨rfl,?_,trivial⟩;rw[zw aw,<-jd hF hk];refine zp.xy 2 hU rfl rfl rfl (jX rfl (yl ?_)) rfl;have lw:=low 2 (k+1) (.inl aw);rw[<-jd (z:=([U 0,.fp 1 0 []]:List C)) (n:=l.length) hF hk]at lw;exact lw
    ·rw[gu aw,gu aw];conv=>whnf
     refine uF ?_;(refine td hg ?_)
     refine ah (hp x hxm) ?_;refine⟨aw,aA,dd ?_⟩;rw[e1];refine⟨_,j9 aj hk,rfl,dd ?_⟩;refine .inl ⟨rfl,?_,trivial⟩;rw[zw aw,<-jd hF hk];refine zp.xy 5 hU rfl rfl rfl (jX rfl (jX (yl ?_) (jX rfl (jX (yl (zB (enc:=zx) (λ_=>rfl) rfl _ _)) rfl)))) rfl;have lw:=low 5 (k+1) (.inr aw);rw[<-jd (z:=([U 0,.fp 1 0 []]:List C)) (n:=l.length) hF hk]at lw;exact lw
  ·exact gk
 refine h1.n9 (λB h _=>?_) (pb _);have hw:=zp.fD (B:=B) [1,3,4] [0] [.sl 1 [] 2 0 l.length false] [⟨1,283,0,[[]],0⟩,⟨1,0,2,(l.map zF).set g ([U g0.zt,C.sl 3 [] 3 0 g0.ends.length false]),0⟩,⟨1,72,2,[zF g0],0⟩,⟨1,0,3,(g0.ends.map zx).set e ([U e0.head,C.sl 4 [] 1 0 e0.next.length false,I e0.zi]),0⟩,⟨2,3,1,e0.next.map encI,0⟩] tM rfl rfl (zc rfl (zc (zj (zB (enc:=zF) (λ_=>rfl) rfl l g)) (zc rfl (zc (zj (zB (enc:=zx) (λ_=>rfl) rfl _ _)) rfl))))
 have e:xA [1,3,4] [⟨1,283,0,[[]],0⟩,⟨1,0,2,(l.map zF).set g ([U g0.zt,C.sl 3 [] 3 0 g0.ends.length false]),0⟩,⟨1,72,2,[zF g0],0⟩,⟨1,0,3,(g0.ends.map zx).set e ([U e0.head,C.sl 4 [] 1 0 e0.next.length false,I e0.zi]),0⟩,⟨2,3,1,e0.next.map encI,0⟩]=[⟨1,0,2,(l.map zF).set g ([U g0.zt,C.sl 1 [] 3 0 g0.ends.length false]),0⟩,⟨1,0,3,(g0.ends.map zx).set e ([U e0.head,C.sl 2 [] 1 0 e0.next.length false,I e0.zi]),0⟩,⟨2,3,1,e0.next.map encI,0⟩]:=by
  show zN [1,3,4] ⟨1,0,2,(l.map zF).set g ([U g0.zt,C.sl 3 [] 3 0 g0.ends.length false]),0⟩::_=_;rw[zH (enc:=zF) (λ_=>rfl)];show _::zN [1,3,4] ⟨1,0,3,(g0.ends.map zx).set e ([U e0.head,C.sl 4 [] 1 0 e0.next.length false,I e0.zi]),0⟩::_=_;rw[zH (enc:=zx) (λ_=>rfl)];rfl
 rw[e]at hw;exact hw
structure Gn(v0:fB)(g:Nat)(g0:Gr)(e:Nat)(e0:En):Prop extends Gm g0 e e0 where
 lq:Gp v0
 fR:v0.zm[g]?=some g0
def Ya{v0:fB}{g:Nat}{g0:Gr}{e:Nat}{e0:En}(h:Gn v0 g g0 e e0)(H:zl)(hf:qY H=true):tn 239 H [lG v0.zm,.fn 240 [] [],.agg []] (.sl H.length [] 2 0 v0.zm.length false) (H++[⟨1,0,2,(v0.zm.map zF).set g ([U g0.zt,C.sl (H.length+1) [] 3 0 g0.ends.length false]),0⟩,⟨1,0,3,(g0.ends.map zx).set e ([U e0.head,C.sl (H.length+2) [] 1 0 e0.next.length false,I e0.zi]),0⟩,⟨2,3,1,e0.next.map encI,0⟩]):=by
 have:=Az (WR e0 e v0.zm g g0 h.fR h.lq.1 (λy hy=>KT y (h.lq.2 y hy)) (S7 h.toGm)) (zc (zj (zB (enc:=zF) (λ_=>rfl) rfl _ _)) (zc (zj (zB (enc:=zx) (λ_=>rfl) rfl _ _)) rfl)) rfl H hf
 have e9:[(⟨1,0,2,(v0.zm.map zF).set g ([U g0.zt,C.sl 1 [] 3 0 g0.ends.length false]),0⟩:Ob),⟨1,0,3,(g0.ends.map zx).set e ([U e0.head,C.sl 2 [] 1 0 e0.next.length false,I e0.zi]),0⟩,⟨2,3,1,e0.next.map encI,0⟩].map (zG (jc [] H.length))=[⟨1,0,2,(v0.zm.map zF).set g ([U g0.zt,C.sl (H.length+1) [] 3 0 g0.ends.length false]),0⟩,⟨1,0,3,(g0.ends.map zx).set e ([U e0.head,C.sl (H.length+2) [] 1 0 e0.next.length false,I e0.zi]),0⟩,⟨2,3,1,e0.next.map encI,0⟩]:=by
  show zG _ ⟨1,0,2,_,0⟩::zG _ ⟨1,0,3,_,0⟩::_=_;rw[zC (enc:=zF) (λ_=>rfl),zC (enc:=zx) (λ_=>rfl)]
  rfl
 rw[e9]at this;exact dM
def Rf{v0:fB}{g:Nat}{g0:Gr}{e:Nat}{e0:En}(h:Gn v0 g g0 e e0):tn 200 [] [.agg [],.agg (zK v0)] (.agg (ql v0.snap++[C.sl 0 [] 2 0 v0.zm.length false,Bo v0.qt])) [⟨1,0,2,(v0.zm.map zF).set g ([U g0.zt,C.sl 1 [] 3 0 g0.ends.length false]),0⟩,⟨1,0,3,(g0.ends.map zx).set e ([U e0.head,C.sl 2 [] 1 0 e0.next.length false,I e0.zi]),0⟩,⟨2,3,1,e0.next.map encI,0⟩]:=by
 have h1:tn 200 [] [.agg [],.agg (zK v0)] (.agg (ql v0.snap++[C.sl 3 [] 2 0 v0.zm.length false,Bo v0.qt])) [⟨1,283,0,[[]],0⟩,⟨1,69,5,[(ql v0.snap++[C.sl 3 [] 2 0 v0.zm.length false,Bo v0.qt])],0⟩,⟨1,69,5,[(ql v0.snap++[C.sl 3 [] 2 0 v0.zm.length false,Bo v0.qt])],0⟩,⟨1,0,2,(v0.zm.map zF).set g ([U g0.zt,C.sl 4 [] 3 0 g0.ends.length false]),0⟩,⟨1,0,3,(g0.ends.map zx).set e ([U e0.head,C.sl 5 [] 1 0 e0.next.length false,I e0.zi]),0⟩,⟨2,3,1,e0.next.map encI,0⟩]:=by
  refine zb.zI (fn:=f200) func200 rfl (uH ?_);refine⟨_,_,Ya h _ rfl,dd ?_⟩;exact uJ
 refine h1.n9 (λB hB _=>?_) (pb _);have hw:=zp.fD (B:=B) [3,4,5] [0] [.agg (ql v0.snap++[C.sl 3 [] 2 0 v0.zm.length false,Bo v0.qt])] [⟨1,283,0,[[]],0⟩,⟨1,69,5,[(ql v0.snap++[C.sl 3 [] 2 0 v0.zm.length false,Bo v0.qt])],0⟩,⟨1,69,5,[(ql v0.snap++[C.sl 3 [] 2 0 v0.zm.length false,Bo v0.qt])],0⟩,⟨1,0,2,(v0.zm.map zF).set g ([U g0.zt,C.sl 4 [] 3 0 g0.ends.length false]),0⟩,⟨1,0,3,(g0.ends.map zx).set e ([U e0.head,C.sl 5 [] 1 0 e0.next.length false,I e0.zi]),0⟩,⟨2,3,1,e0.next.map encI,0⟩] (by rw[show B=0 from aq hB];rfl) rfl rfl (zc rfl (zc rfl (zc rfl (zc (zj (zB (enc:=zF) (λ_=>rfl) rfl _ _)) (zc (zj (zB (enc:=zx) (λ_=>rfl) rfl _ _)) rfl)))))
 have e:xA [3,4,5] [⟨1,283,0,[[]],0⟩,⟨1,69,5,[(ql v0.snap++[C.sl 3 [] 2 0 v0.zm.length false,Bo v0.qt])],0⟩,⟨1,69,5,[(ql v0.snap++[C.sl 3 [] 2 0 v0.zm.length false,Bo v0.qt])],0⟩,⟨1,0,2,(v0.zm.map zF).set g ([U g0.zt,C.sl 4 [] 3 0 g0.ends.length false]),0⟩,⟨1,0,3,(g0.ends.map zx).set e ([U e0.head,C.sl 5 [] 1 0 e0.next.length false,I e0.zi]),0⟩,⟨2,3,1,e0.next.map encI,0⟩]=[⟨1,0,2,(v0.zm.map zF).set g ([U g0.zt,C.sl 1 [] 3 0 g0.ends.length false]),0⟩,⟨1,0,3,(g0.ends.map zx).set e ([U e0.head,C.sl 2 [] 1 0 e0.next.length false,I e0.zi]),0⟩,⟨2,3,1,e0.next.map encI,0⟩]:=by
  show zN [3,4,5] ⟨1,0,2,(v0.zm.map zF).set g ([U g0.zt,C.sl 4 [] 3 0 g0.ends.length false]),0⟩::zN [3,4,5] ⟨1,0,3,(g0.ends.map zx).set e ([U e0.head,C.sl 5 [] 1 0 e0.next.length false,I e0.zi]),0⟩::_=_;rw[zH (enc:=zF) (λ_=>rfl),zH (enc:=zx) (λ_=>rfl)]
  rfl
 rw[e]at hw;exact hw
def Sn{v0:fB}{g:Nat}{g0:Gr}{e:Nat}{e0:En}(h:Gn v0 g g0 e e0)(H:zl)(hf:qY H=true):tn 200 H [.agg [],.agg (zK v0)] (.agg ((ql v0.snap++[C.sl H.length [] 2 0 v0.zm.length false,Bo v0.qt]))) (H++[⟨1,0,2,(v0.zm.map zF).set g ([U g0.zt,C.sl (H.length+1) [] 3 0 g0.ends.length false]),0⟩,⟨1,0,3,(g0.ends.map zx).set e ([U e0.head,C.sl (H.length+2) [] 1 0 e0.next.length false,I e0.zi]),0⟩,⟨2,3,1,e0.next.map encI,0⟩]):=by
 have:=Az (Rf h) (zc (zj (zB (enc:=zF) (λ_=>rfl) rfl _ _)) (zc (zj (zB (enc:=zx) (λ_=>rfl) rfl _ _)) rfl)) rfl H hf
 have e9:[(⟨1,0,2,(v0.zm.map zF).set g ([U g0.zt,C.sl 1 [] 3 0 g0.ends.length false]),0⟩:Ob),⟨1,0,3,(g0.ends.map zx).set e ([U e0.head,C.sl 2 [] 1 0 e0.next.length false,I e0.zi]),0⟩,⟨2,3,1,e0.next.map encI,0⟩].map (zG (jc [] H.length))=[⟨1,0,2,(v0.zm.map zF).set g ([U g0.zt,C.sl (H.length+1) [] 3 0 g0.ends.length false]),0⟩,⟨1,0,3,(g0.ends.map zx).set e ([U e0.head,C.sl (H.length+2) [] 1 0 e0.next.length false,I e0.zi]),0⟩,⟨2,3,1,e0.next.map encI,0⟩]:=by
  show zG _ ⟨1,0,2,_,0⟩::zG _ ⟨1,0,3,_,0⟩::_=_;rw[zC (enc:=zF) (λ_=>rfl),zC (enc:=zx) (λ_=>rfl)]
  rfl
 rw[e9]at this;exact dM
def WT(g0:Gr)(g:Nat)(e0:En)(e:Nat)(l:List fB)(v:Nat)(v0:fB)(hv:l[v]?=some v0)(hl:l.length<1000000000)(hp:∀x∈l,tn 200 [] [.agg [],.agg (zK x)] (.agg (zK x)) [])
 (hA:∀H,qY H=true->tn 200 H [.agg [],.agg (zK v0)] (.agg ((ql v0.snap++[C.sl H.length [] 2 0 v0.zm.length false,Bo v0.qt]))) (H++[⟨1,0,2,(v0.zm.map zF).set g ([U g0.zt,C.sl (H.length+1) [] 3 0 g0.ends.length false]),0⟩,⟨1,0,3,(g0.ends.map zx).set e ([U e0.head,C.sl (H.length+2) [] 1 0 e0.next.length false,I e0.zi]),0⟩,⟨2,3,1,e0.next.map encI,0⟩])):
  tn 199 [] [lV l,.fn 200 [] [],.agg []] (.sl 0 [] 5 0 l.length false) [⟨1,0,5,(l.map zK).set v ((ql v0.snap++[C.sl 1 [] 2 0 v0.zm.length false,Bo v0.qt])),0⟩,⟨1,0,2,(v0.zm.map zF).set g ([U g0.zt,C.sl 2 [] 3 0 g0.ends.length false]),0⟩,⟨1,0,3,(g0.ends.map zx).set e ([U e0.head,C.sl 3 [] 1 0 e0.next.length false,I e0.zi]),0⟩,⟨2,3,1,e0.next.map encI,0⟩]:=by
 have m1:(l.map zK).length=l.length:=gE ..;have hvl:=(gm.1 hv).1
 have h1:tn 199 [] [lV l,.fn 200 [] [],.agg []] (.sl 1 [] 5 0 l.length false) [⟨1,283,0,[[]],0⟩,⟨1,0,5,(l.map zK).set v ((ql v0.snap++[C.sl 3 [] 2 0 v0.zm.length false,Bo v0.qt])),0⟩,⟨1,69,5,[zK v0],0⟩,⟨1,0,2,(v0.zm.map zF).set g ([U g0.zt,C.sl 4 [] 3 0 g0.ends.length false]),0⟩,⟨1,0,3,(g0.ends.map zx).set e ([U e0.head,C.sl 5 [] 1 0 e0.next.length false,I e0.zi]),0⟩,⟨2,3,1,e0.next.map encI,0⟩]:=by
  refine zb.zI (fn:=f199) func199 rfl (uH ?_);rw[m1];refine⟨rfl,aw,by show(104:Int)*_<=_;omega,aw,dd ?_⟩;rw[m1,toNat_cast];have ZZ:List C:=([.fp 1 0 [],.fp 1 0 [],.fp 1 0 [],.fp 1 0 [],Bo false]:List C);refine zZ.seq l.length (λk=>((lV l)::.fn 200 [] []::.za::.za::.za::.ref 0 [] 0 0 0::.fp 1 0 []::.sl 1 [] 5 0 l.length false::.za::.za::.za::.za::.za::(lV l)::I l.length::I k::mC ([.za,.za,.za,.za,.za]))) (λk=>if k<=v then [⟨1,283,0,[[]],0⟩,⟨1,0,5,((l.map zK).set v ((ql v0.snap++[C.sl 3 [] 2 0 v0.zm.length false,Bo v0.qt]))).take k++(List.replicate l.length ([.fp 1 0 [],.fp 1 0 [],.fp 1 0 [],.fp 1 0 [],Bo false]:List C)).drop k,0⟩] else [⟨1,283,0,[[]],0⟩,⟨1,0,5,((l.map zK).set v ((ql v0.snap++[C.sl 3 [] 2 0 v0.zm.length false,Bo v0.qt]))).take k++(List.replicate l.length ([.fp 1 0 [],.fp 1 0 [],.fp 1 0 [],.fp 1 0 [],Bo false]:List C)).drop k,0⟩,⟨1,69,5,[zK v0],0⟩,⟨1,0,2,(v0.zm.map zF).set g ([U g0.zt,C.sl 4 [] 3 0 g0.ends.length false]),0⟩,⟨1,0,3,(g0.ends.map zx).set e ([U e0.head,C.sl 5 [] 1 0 e0.next.length false,I e0.zi]),0⟩,⟨2,3,1,e0.next.map encI,0⟩]) (λk=>True) ?_ trivial (λk hk hr=>?_) (λhr=>?_)
  ·rw[gC (pb _)];refine zp.trans (zp.CY 1 rfl λr hr c hc=>?_) (cC);rw[pE hr]at hc;exact gI.1 (rfl:([.fp 1 0 [],.fp 1 0 [],.fp 1 0 [],.fp 1 0 [],Bo false]:List C).all zy=true) c hc
  ·obtain⟨x,hx⟩:∃x,x=l[k]:=⟨_,rfl⟩;have hx2:l[k]?=some x:=by rw[gp hk,hx]
   have hxm:x∈l:=bN
   have hg:(l.map zK)[k]?=some (zK x):=by rw[gz,hx2];rfl
   have e1:0+(k:Int).toNat=k:=aj
   have low:∀n j,j<=v\/3<n->∀r∈((l.map zK).set v ((ql v0.snap++[C.sl 3 [] 2 0 v0.zm.length false,Bo v0.qt]))).take j++(List.replicate l.length ([.fp 1 0 [],.fp 1 0 [],.fp 1 0 [],.fp 1 0 [],Bo false]:List C)).drop j,∀c∈r,jg n 9 c=true:=λn j h=>kB (enc:=zK) (λ_=>rfl) rfl l l.length (h.imp_right λh=>by simp[jg,ql];omega)
   have own:∀j,∀r∈((l.map zK).set v ((ql v0.snap++[C.sl 3 [] 2 0 v0.zm.length false,Bo v0.qt]))).take j++(List.replicate l.length ([.fp 1 0 [],.fp 1 0 [],.fp 1 0 [],.fp 1 0 [],Bo false]:List C)).drop j,∀c∈r,zy c=true:=λj=>kB (enc:=zK) (λ_=>rfl) rfl l l.length (.inr rfl)
   by_cases hkv:k=v
   ·subst hkv;obtain rfl:v0=x:=by rw[hv]at hx2;exact gF hx2
    have hF:((l.map zK).set k ((ql v0.snap++[C.sl 3 [] 2 0 v0.zm.length false,Bo v0.qt])))[k]?=some ((ql v0.snap++[C.sl 3 [] 2 0 v0.zm.length false,Bo v0.qt])):=by rw[gM,gC rfl,gC (aq hk)]
    rw[gC (gJ _),gu aw];conv=>whnf
    refine uF ?_;(refine td hg ?_)
    refine⟨_,_,hA _ (zc rfl (zc (zj (own k)) rfl)),dd ?_⟩;exact dh
   ·have hF:((l.map zK).set v ((ql v0.snap++[C.sl 3 [] 2 0 v0.zm.length false,Bo v0.qt])))[k]?=some (zK x):=by rw[pq (λh=>hkv h.symm)];exact hg
    by_cases ft:k<v
    ·rw[gC aw,gC aw];conv=>whnf
     refine uF ?_;(refine td hg ?_)
     refine ah (hp x hxm) ?_;refine⟨aw,aA,dd ?_⟩;rw[e1];refine⟨_,j9 aj hk,rfl,dd ?_⟩;refine .inl ⟨rfl,?_,trivial⟩;rw[zw aw,<-jd hF hk];refine zp.xy 2 hU rfl rfl rfl (jX rfl (yl ?_)) rfl;have lw:=low 2 (k+1) (.inl aw);rw[<-jd (z:=([.fp 1 0 [],.fp 1 0 [],.fp 1 0 [],.fp 1 0 [],Bo false]:List C)) (n:=l.length) hF hk]at lw;exact lw
    ·rw[gu aw,gu aw];conv=>whnf
     refine uF ?_;(refine td hg ?_)
     refine ah (hp x hxm) ?_;refine⟨aw,aA,dd ?_⟩;rw[e1];refine⟨_,j9 aj hk,rfl,dd ?_⟩;refine .inl ⟨rfl,?_,trivial⟩;rw[zw aw,<-jd hF hk];refine zp.xy 6 hU rfl rfl rfl (jX rfl (jX (yl ?_) (jX rfl (jX (yl (zB (enc:=zF) (λ_=>rfl) rfl _ _)) (jX (yl (zB (enc:=zx) (λ_=>rfl) rfl _ _)) rfl))))) rfl;have lw:=low 6 (k+1) (.inr aw);rw[<-jd (z:=([.fp 1 0 [],.fp 1 0 [],.fp 1 0 [],.fp 1 0 [],Bo false]:List C)) (n:=l.length) hF hk]at lw;exact lw
  ·exact gk
 refine h1.n9 (λB h _=>?_) (pb _);have hw:=zp.fD (B:=B) [1,3,4,5] [0] [.sl 1 [] 5 0 l.length false] [⟨1,283,0,[[]],0⟩,⟨1,0,5,(l.map zK).set v ((ql v0.snap++[C.sl 3 [] 2 0 v0.zm.length false,Bo v0.qt])),0⟩,⟨1,69,5,[zK v0],0⟩,⟨1,0,2,(v0.zm.map zF).set g ([U g0.zt,C.sl 4 [] 3 0 g0.ends.length false]),0⟩,⟨1,0,3,(g0.ends.map zx).set e ([U e0.head,C.sl 5 [] 1 0 e0.next.length false,I e0.zi]),0⟩,⟨2,3,1,e0.next.map encI,0⟩] tM rfl rfl (zc rfl (zc (zj (zB (enc:=zK) (λ_=>rfl) rfl l v)) (zc rfl (zc (zj (zB (enc:=zF) (λ_=>rfl) rfl _ _)) (zc (zj (zB (enc:=zx) (λ_=>rfl) rfl _ _)) rfl)))))
 have e:xA [1,3,4,5] [⟨1,283,0,[[]],0⟩,⟨1,0,5,(l.map zK).set v ((ql v0.snap++[C.sl 3 [] 2 0 v0.zm.length false,Bo v0.qt])),0⟩,⟨1,69,5,[zK v0],0⟩,⟨1,0,2,(v0.zm.map zF).set g ([U g0.zt,C.sl 4 [] 3 0 g0.ends.length false]),0⟩,⟨1,0,3,(g0.ends.map zx).set e ([U e0.head,C.sl 5 [] 1 0 e0.next.length false,I e0.zi]),0⟩,⟨2,3,1,e0.next.map encI,0⟩]=[⟨1,0,5,(l.map zK).set v ((ql v0.snap++[C.sl 1 [] 2 0 v0.zm.length false,Bo v0.qt])),0⟩,⟨1,0,2,(v0.zm.map zF).set g ([U g0.zt,C.sl 2 [] 3 0 g0.ends.length false]),0⟩,⟨1,0,3,(g0.ends.map zx).set e ([U e0.head,C.sl 3 [] 1 0 e0.next.length false,I e0.zi]),0⟩,⟨2,3,1,e0.next.map encI,0⟩]:=by
  show zN [1,3,4,5] ⟨1,0,5,(l.map zK).set v ((ql v0.snap++[C.sl 3 [] 2 0 v0.zm.length false,Bo v0.qt])),0⟩::_=_;rw[zH (enc:=zK) (λ_=>rfl)];show _::zN [1,3,4,5] ⟨1,0,2,(v0.zm.map zF).set g ([U g0.zt,C.sl 4 [] 3 0 g0.ends.length false]),0⟩::zN [1,3,4,5] ⟨1,0,3,(g0.ends.map zx).set e ([U e0.head,C.sl 5 [] 1 0 e0.next.length false,I e0.zi]),0⟩::_=_;rw[zH (enc:=zF) (λ_=>rfl),zH (enc:=zx) (λ_=>rfl)];rfl
 rw[e]at hw;exact hw
structure Br(vs:List fB)(v:Nat)(v0:fB)(g:Nat)(g0:Gr)(e:Nat)(e0:En):Prop extends Gn v0 g g0 e e0 where
 Pp:vs.length<1000000000/\∀v∈vs,Gp v
 ij:vs[v]?=some v0
def Yd{vs:List fB}{v:Nat}{v0:fB}{g:Nat}{g0:Gr}{e:Nat}{e0:En}(h:Br vs v v0 g g0 e e0)(H:zl)(hf:qY H=true):tn 199 H [lV vs,.fn 200 [] [],.agg []] (.sl H.length [] 5 0 vs.length false) (H++[⟨1,0,5,(vs.map zK).set v ((ql v0.snap++[C.sl (H.length+1) [] 2 0 v0.zm.length false,Bo v0.qt])),0⟩,⟨1,0,2,(v0.zm.map zF).set g ([U g0.zt,C.sl (H.length+2) [] 3 0 g0.ends.length false]),0⟩,⟨1,0,3,(g0.ends.map zx).set e ([U e0.head,C.sl (H.length+3) [] 1 0 e0.next.length false,I e0.zi]),0⟩,⟨2,3,1,e0.next.map encI,0⟩]):=by
 have:=Az (WT g0 g e0 e vs v v0 h.ij h.Pp.1 (λy hy=>jR y (h.Pp.2 y hy)) (Sn h.toGn)) (zc (zj (zB (enc:=zK) (λ_=>rfl) rfl _ _)) (zc (zj (zB (enc:=zF) (λ_=>rfl) rfl _ _)) (zc (zj (zB (enc:=zx) (λ_=>rfl) rfl _ _)) rfl))) rfl H hf
 have e9:[(⟨1,0,5,(vs.map zK).set v ((ql v0.snap++[C.sl 1 [] 2 0 v0.zm.length false,Bo v0.qt])),0⟩:Ob),⟨1,0,2,(v0.zm.map zF).set g ([U g0.zt,C.sl 2 [] 3 0 g0.ends.length false]),0⟩,⟨1,0,3,(g0.ends.map zx).set e ([U e0.head,C.sl 3 [] 1 0 e0.next.length false,I e0.zi]),0⟩,⟨2,3,1,e0.next.map encI,0⟩].map (zG (jc [] H.length))=[⟨1,0,5,(vs.map zK).set v ((ql v0.snap++[C.sl (H.length+1) [] 2 0 v0.zm.length false,Bo v0.qt])),0⟩,⟨1,0,2,(v0.zm.map zF).set g ([U g0.zt,C.sl (H.length+2) [] 3 0 g0.ends.length false]),0⟩,⟨1,0,3,(g0.ends.map zx).set e ([U e0.head,C.sl (H.length+3) [] 1 0 e0.next.length false,I e0.zi]),0⟩,⟨2,3,1,e0.next.map encI,0⟩]:=by
  show zG _ ⟨1,0,5,_,0⟩::zG _ ⟨1,0,2,_,0⟩::zG _ ⟨1,0,3,_,0⟩::_=_;rw[zC (enc:=zK) (λ_=>rfl),zC (enc:=zF) (λ_=>rfl),zC (enc:=zx) (λ_=>rfl)]
  rfl
 rw[e9]at this;exact dM
def Bb(l:List (List Int))(hl:l.length<1000000000)(hp:∀x∈l,tn 203 [] [.agg [],lU x] (lU x) []):tn 202 [] [ig l,.fn 203 [] [],.agg []] (.sl 0 [] 1 0 l.length false) [⟨2,212,1,l.map zP,0⟩]:=by
 have m1:(l.map zP).length=l.length:=gE ..;refine zb.zI (fn:=f202) func202 rfl (uH ?_);rw[m1];refine⟨rfl,aw,by show(24:Int)*_<=_;omega,aw,dd ?_⟩;rw[m1,toNat_cast];refine zZ.seq l.length (λk=>((ig l)::.fn 203 [] []::.za::.za::.za::.ref 0 [] 0 0 0::.fp 1 0 []::.sl 1 [] 1 0 l.length false::.za::.za::.za::.za::.za::(ig l)::I l.length::I k::mC ([.za,.za,.za,.za,.za]))) (λk=>[⟨1,283,0,[[]],0⟩,⟨2,212,1,(l.map zP).take k++(List.replicate l.length ([.fp 1 0 []]:List C)).drop k,0⟩]) (λk=>True) ?_ trivial (λk hk hr=>?_) (λhr=>?_)
 ·exact cC
 ·obtain⟨x,hx⟩:∃x,x=l[k]:=⟨_,rfl⟩;have hx2:l[k]?=some x:=by rw[gp hk,hx]
  have hg:(l.map zP)[k]?=some (zP x):=by rw[gz,hx2];rfl
  conv=>whnf
  refine uF ?_;(refine td hg ?_)
  refine ah (hp x tK) ?_;refine⟨aw,aA,dd ?_⟩;have e1:0+(k:Int).toNat=k:=aj
  rw[e1];refine⟨_,j9 aj hk,rfl,dd ?_⟩;refine .inl ⟨rfl,?_,trivial⟩;have e2:=jd (z:=([.fp 1 0 []]:List C)) (n:=l.length) hg hk;rw[zw aw,<-e2];exact cE 2
 ·exact dy
def TQ(r0:List Int)(x:Int)(l:List Int)(he:r0=x::l)(hl:l.length<1000000000):tn 203 [] [.agg [],lU r0] (.sl 0 [] 1 0 r0.length false) [⟨2,48,1,r0.map jW,0⟩]:=by
 have h1:tn 203 [] [.agg [],lU r0] (.sl 1 [] 1 0 r0.length false) [⟨1,283,0,[[]],0⟩,⟨2,48,1,r0.map jW,0⟩]:=by
  have hc:=Xi x l hl;rw[<-he]at hc;refine zb.zI (fn:=f203) func203 rfl (uH ?_);refine af [] (hc) ?_;exact uJ
 exact h1.n9 (λB h _=>zp.fD [1] [0] _ _ tM rfl rfl rfl) (pb _)
def Xw(r0:List Int)(x:Int)(l:List Int)(he:r0=x::l)(hl:l.length<1000000000)(H:zl)(hf:qY H=true):tn 203 H [.agg [],lU r0] (.sl H.length [] 1 0 r0.length false) (H++[⟨2,48,1,r0.map jW,0⟩]):=
 Az (TQ r0 x l he hl) rfl rfl H hf
def BO{P:Program}{f:FuncId}{fn:Func}{c:Code}{H2:zl}{args:List C}{r:C}(hf:P.funcs[f]?=some fn)(hb:fn.body=some c)
 (h:wpA P 0 c (entry fn args) [] λex t1 H1=>(ex=.ret\/ex=.normal)/\∃s2 r1,zp 0 ⟨t1,H1⟩ s2/\vJ P fn s2=some r1/\zp 0 ⟨[r1],s2.H⟩ ⟨[r],H2⟩):zb P f [] args r H2:=λw E vs hh hl=>by
 have h1:qs P f [] args λr1 H1=>zp 0 ⟨[r1],H1⟩ ⟨[r],H2⟩:=qs.zI hf hb h
 refine(h1 w E vs hh hl).mono ?_;rintro e w' ⟨r1,H1,v,E',hw,h0,h2,h3,g⟩;obtain⟨E2,hs,g2⟩:=hw 0 w' E' ⟨#[v],[]⟩ ⟨h2,LL.one h3,pb _,pb _⟩;have hn2:=hs.heap.n;have hn0:E.n=0:=hh.n;refine⟨v,E2,h0,hs.heap,hs.tmps.cons_inv.1,⟨⟨by rw[hn0];exact pb _,λid hops hi=>by rw[hn0]at hi;omega,λid hops hi=>by rw[hn0]at hi;omega,λb o u hu=>g2.le.St _ _ _ (g.le.St _ _ _ hu),λid k u hi hu=>by rw[hn0]at hi;omega⟩,g2.os.trans g.os,g2.tape.trans g.tape,g2.output.trans g.output,pM g.size g2.size,?_,?_,?_⟩⟩
 ·intro k hk ho;exact dj
 ·intro b o u hu;rcases g2.jS b o u hu with h1|h1|h1
  ·exact g.jS b o u h1
  ·exact .inr (.inl (pM g.size h1))
  ·rcases g.own b h1 with h4|h4
   ·exact .inr (.inl h4)
   ·exact .inr (.inr h4)
 ·intro b hb;rcases g2.own b hb with h1|h1
  ·exact .inl (pM g.size h1)
  ·exact g.own b h1
def qE(w:Wor)(h:jf w):tn 152 [] [Cw w] (Cw w) []:=by
 refine ab func152 ?_;refine ah (vt w.pins h.pins) ?_;refine af [] (Bc w.ze h.ze.1 λv hv=>jR v (h.ze.2 v hv)) ?_;refine ah (ky w.zd h.zd) ?_;refine af [] (Bb w.counts h.counts.1 λr hr=>yh r (h.counts.2 r hr)) ?_;refine ah (Cn w.zu h.zu) ?_;exact⟨.inl rfl,_,(zp.zV 1 0 4 rfl rfl rfl rfl (.inr rfl) rfl aj (shut_map (enc:=zK) (λ_=>rfl) w.ze) (z6 rfl)).trans (zp.zV 1 0 6 rfl rfl rfl rfl (.inr rfl) rfl aj (shut_map (enc:=zP) (λ_=>rfl) w.counts) (z6 rfl)),rfl⟩
def WS(l:List (List Int))(t:Nat)(r0:(List Int))(hv:l[t]?=some r0)(hl:l.length<1000000000)(hp:∀x∈l,tn 203 [] [.agg [],lU x] (lU x) [])
 (hA:∀H,qY H=true->tn 203 H [.agg [],lU r0] (.sl H.length [] 1 0 r0.length false) (H++[⟨2,48,1,r0.map jW,0⟩])):
  tn 202 [] [ig l,.fn 203 [] [],.agg []] (.sl 0 [] 1 0 l.length false) [⟨1,0,1,(l.map zP).set t ([C.sl 1 [] 1 0 r0.length false]),0⟩,⟨2,48,1,r0.map jW,0⟩]:=by
 have m1:(l.map zP).length=l.length:=gE ..;have hvl:=(gm.1 hv).1
 have h1:tn 202 [] [ig l,.fn 203 [] [],.agg []] (.sl 1 [] 1 0 l.length false) [⟨1,283,0,[[]],0⟩,⟨1,0,1,(l.map zP).set t ([C.sl 2 [] 1 0 r0.length false]),0⟩,⟨2,48,1,r0.map jW,0⟩]:=by
  refine zb.zI (fn:=f202) func202 rfl (uH ?_);rw[m1];refine⟨rfl,aw,by show(24:Int)*_<=_;omega,aw,dd ?_⟩;rw[m1,toNat_cast];have ZZ:List C:=([.fp 1 0 []]:List C);refine zZ.seq l.length (λk=>((ig l)::.fn 203 [] []::.za::.za::.za::.ref 0 [] 0 0 0::.fp 1 0 []::.sl 1 [] 1 0 l.length false::.za::.za::.za::.za::.za::(ig l)::I l.length::I k::mC ([.za,.za,.za,.za,.za]))) (λk=>if k<=t then [⟨1,283,0,[[]],0⟩,⟨1,0,1,((l.map zP).set t ([C.sl 2 [] 1 0 r0.length false])).take k++(List.replicate l.length ([.fp 1 0 []]:List C)).drop k,0⟩] else [⟨1,283,0,[[]],0⟩,⟨1,0,1,((l.map zP).set t ([C.sl 2 [] 1 0 r0.length false])).take k++(List.replicate l.length ([.fp 1 0 []]:List C)).drop k,0⟩,⟨2,48,1,r0.map jW,0⟩]) (λk=>True) ?_ trivial (λk hk hr=>?_) (λhr=>?_)
  ·rw[gC (pb _)];refine zp.trans (zp.CY 1 rfl λr hr c hc=>?_) (cC);rw[pE hr]at hc;exact gI.1 (rfl:([.fp 1 0 []]:List C).all zy=true) c hc
  ·obtain⟨x,hx⟩:∃x,x=l[k]:=⟨_,rfl⟩;have hx2:l[k]?=some x:=by rw[gp hk,hx]
   have hxm:x∈l:=bN
   have hg:(l.map zP)[k]?=some (zP x):=by rw[gz,hx2];rfl
   have e1:0+(k:Int).toNat=k:=aj
   have low:∀n j,j<=t\/2<n->∀r∈((l.map zP).set t ([C.sl 2 [] 1 0 r0.length false])).take j++(List.replicate l.length ([.fp 1 0 []]:List C)).drop j,∀c∈r,jg n 9 c=true:=λn j h=>kB (enc:=zP) (λ_=>rfl) rfl l l.length (h.imp_right λh=>by simp[jg,ql];omega)
   have own:∀j,∀r∈((l.map zP).set t ([C.sl 2 [] 1 0 r0.length false])).take j++(List.replicate l.length ([.fp 1 0 []]:List C)).drop j,∀c∈r,zy c=true:=λj=>kB (enc:=zP) (λ_=>rfl) rfl l l.length (.inr rfl)
   by_cases hkv:k=t
   ·subst hkv;obtain rfl:r0=x:=by rw[hv]at hx2;exact gF hx2
    have hF:((l.map zP).set k ([C.sl 2 [] 1 0 r0.length false]))[k]?=some ([C.sl 2 [] 1 0 r0.length false]):=by rw[gM,gC rfl,gC (aq hk)]
    rw[gC (gJ _),gu aw];conv=>whnf
    refine uF ?_;(refine td hg ?_)
    refine⟨_,_,hA _ (zc rfl (zj (own k))),dd ?_⟩;exact dh
   ·have hF:((l.map zP).set t ([C.sl 2 [] 1 0 r0.length false]))[k]?=some (zP x):=by rw[pq (λh=>hkv h.symm)];exact hg
    by_cases ft:k<t
    ·rw[gC aw,gC aw];conv=>whnf
     refine uF ?_;(refine td hg ?_)
     refine ah (hp x hxm) ?_;refine⟨aw,aA,dd ?_⟩;rw[e1];refine⟨_,j9 aj hk,rfl,dd ?_⟩;refine .inl ⟨rfl,?_,trivial⟩;rw[zw aw,<-jd hF hk];refine zp.xy 2 hU rfl rfl rfl (jX rfl (yl ?_)) rfl;have lw:=low 2 (k+1) (.inl aw);rw[<-jd (z:=([.fp 1 0 []]:List C)) (n:=l.length) hF hk]at lw;exact lw
    ·rw[gu aw,gu aw];conv=>whnf
     refine uF ?_;(refine td hg ?_)
     refine ah (hp x hxm) ?_;refine⟨aw,aA,dd ?_⟩;rw[e1];refine⟨_,j9 aj hk,rfl,dd ?_⟩;refine .inl ⟨rfl,?_,trivial⟩;rw[zw aw,<-jd hF hk];refine zp.xy 3 hU rfl rfl rfl (jX rfl (jX (yl ?_) rfl)) rfl;have lw:=low 3 (k+1) (.inr aw);rw[<-jd (z:=([.fp 1 0 []]:List C)) (n:=l.length) hF hk]at lw;exact lw
  ·exact gk
 refine h1.n9 (λB h _=>?_) (pb _);have hw:=zp.fD (B:=B) [1,2] [0] [.sl 1 [] 1 0 l.length false] [⟨1,283,0,[[]],0⟩,⟨1,0,1,(l.map zP).set t ([C.sl 2 [] 1 0 r0.length false]),0⟩,⟨2,48,1,r0.map jW,0⟩] tM rfl rfl (zc rfl (zc (zj (zB (enc:=zP) (λ_=>rfl) rfl l t)) rfl))
 have e:xA [1,2] [⟨1,283,0,[[]],0⟩,⟨1,0,1,(l.map zP).set t ([C.sl 2 [] 1 0 r0.length false]),0⟩,⟨2,48,1,r0.map jW,0⟩]=[⟨1,0,1,(l.map zP).set t ([C.sl 1 [] 1 0 r0.length false]),0⟩,⟨2,48,1,r0.map jW,0⟩]:=by
  show zN [1,2] ⟨1,0,1,(l.map zP).set t ([C.sl 2 [] 1 0 r0.length false]),0⟩::_=_;rw[zH (enc:=zP) (λ_=>rfl)]
  rfl
 rw[e]at hw;exact hw
structure Gl(cs:List (List Int))(t:Nat)(r0:List Int):Prop where
 sm:cs.length<1000000000/\∀r∈cs,r.length<1000000000
 at_:cs[t]?=some r0
 ne:r0≠[]
def Yc{cs:List (List Int)}{t:Nat}{r0:List Int}(h:Gl cs t r0)(H:zl)(hf:qY H=true):tn 202 H [ig cs,.fn 203 [] [],.agg []] (.sl H.length [] 1 0 cs.length false) (H++[⟨1,0,1,(cs.map zP).set t ([C.sl (H.length+1) [] 1 0 r0.length false]),0⟩,⟨2,48,1,r0.map jW,0⟩]):=by
 obtain⟨x,l,hx⟩:∃x l,r0=x::l:=by
  cases hh:r0 with
  |nil=>exact absurd hh h.ne
  |cons x l=>exact⟨x,l,rfl⟩
 have hlen:l.length<1000000000:=by
  have:=h.sm.2 r0 (gA h.at_);rw[hx]at this;exact de
 have:=Az (WS cs t r0 h.at_ h.sm.1 (λy hy=>yh y (h.sm.2 y hy)) (Xw r0 x l hx hlen)) (zc (zj (zB (enc:=zP) (λ_=>rfl) rfl _ _)) rfl) rfl H hf
 have e9:[(⟨1,0,1,(cs.map zP).set t ([C.sl 1 [] 1 0 r0.length false]),0⟩:Ob),⟨2,48,1,r0.map jW,0⟩].map (zG (jc [] H.length))=[⟨1,0,1,(cs.map zP).set t ([C.sl (H.length+1) [] 1 0 r0.length false]),0⟩,⟨2,48,1,r0.map jW,0⟩]:=by
  show zG _ ⟨1,0,1,_,0⟩::_=_;rw[zC (enc:=zP) (λ_=>rfl)]
  rfl
 rw[e9]at this;exact dM
def KQ(w:Wor)(h:jf w)(x:Int)(l:List Int)(hx:w.pins=x::l):tn 152 [] [Cw w] (.agg [I w.zr,I w.current,I w.lock,.sl 0 [] 1 0 w.pins.length false,lV w.ze,lL w.zd,ig w.counts,lR w.zu]) [⟨2,3,1,w.pins.map encI,0⟩]:=by
 have hl:l.length<1000000000:=by have:=h.pins;rw[hx]at this;exact de
 have hc:=M3 x l hl;rw[<-hx]at hc;refine BO (fn:=f152) func152 rfl (uH ?_);refine af [] (hc) ?_;refine af [] (Bc w.ze h.ze.1 λv hv=>jR v (h.ze.2 v hv)) ?_;refine ah (ky w.zd h.zd) ?_;refine af [] (Bb w.counts h.counts.1 λr hr=>yh r (h.counts.2 r hr)) ?_;refine ah (Cn w.zu h.zu) ?_;refine⟨.inl rfl,_,_,(zp.zV 1 0 4 rfl rfl rfl rfl (.inr rfl) rfl aj (shut_map (enc:=zK) (λ_=>rfl) w.ze) (z6 rfl)).trans (zp.zV 1 0 6 rfl rfl rfl rfl (.inr rfl) rfl aj (shut_map (enc:=zP) (λ_=>rfl) w.counts) (z6 rfl)),rfl,?_⟩;exact zp.fD [3] [0] _ _ rfl rfl rfl (zc rfl (zc rfl (zc rfl (zc rfl (zc (zj λr hr c hc=>((shut_map (enc:=zK) (λ_=>rfl) w.ze) r hr c hc).2) (zj λr hr c hc=>((shut_map (enc:=zP) (λ_=>rfl) w.counts) r hr c hc).2))))))
def NR{B:Nat}(sel m:List Nat){t t2:List C}{H H2:zl}(hB:CX B 0 sel=true)(qc:sel.all (λid=>Nat.blt id H.length)=true)(iv:yd sel=true)(ir:qY H=true)(et:(Bp m 0 t).map (xW sel 9)=t2)(e:xA sel H=H2):zp B ⟨t,H⟩ ⟨t2,H2⟩:=by
 subst et e;exact zp.fD sel m t H hB qc iv ir
def vu(w:Wor)(h:jf w)(x:fQ)(l:List fQ)(hx:w.zd=x::l):tn 152 [] [Cw w] (.agg [I w.zr,I w.current,I w.lock,lI w.pins,lV w.ze,.sl 0 [] 4 0 w.zd.length false,ig w.counts,lR w.zu]) [⟨2,76,4,w.zd.map qW,0⟩]:=by
 have hl:l.length<1000000000:=by have:=h.zd;rw[hx]at this;exact de
 have hc:=Xh x l hl;rw[<-hx]at hc;refine BO (fn:=f152) func152 rfl (uH ?_);refine ah (vt w.pins h.pins) ?_;refine af [] (Bc w.ze h.ze.1 λv hv=>jR v (h.ze.2 v hv)) ?_;refine af [] (hc) ?_;refine af [] (Bb w.counts h.counts.1 λr hr=>yh r (h.counts.2 r hr)) ?_;refine ah (Cn w.zu h.zu) ?_;refine⟨.inl rfl,_,_,(zp.zV 1 0 4 rfl rfl rfl rfl (.inr rfl) rfl aj (shut_map (enc:=zK) (λ_=>rfl) w.ze) (z6 rfl)).trans (zp.zV 1 0 6 rfl rfl rfl rfl (.inr rfl) rfl aj (shut_map (enc:=zP) (λ_=>rfl) w.counts) (z6 rfl)),rfl,?_⟩;exact zp.fD [4] [0] _ _ rfl rfl rfl (zc rfl (zc rfl (zc rfl (zc (zj λr hr c hc=>((shut_map (enc:=zK) (λ_=>rfl) w.ze) r hr c hc).2) (zc rfl (zj λr hr c hc=>((shut_map (enc:=zP) (λ_=>rfl) w.counts) r hr c hc).2))))))
def KE(w:Wor)(h:jf w)(cs:List (List Int))(hcs:w.counts=cs){t:Nat}{r0:List Int}(hp:Gl cs t r0):tn 152 [] [Cw w] (.agg [I w.zr,I w.current,I w.lock,lI w.pins,lV w.ze,lL w.zd,.sl 0 [] 1 0 cs.length false,lR w.zu]) [⟨1,0,1,(cs.map zP).set t ([C.sl 1 [] 1 0 r0.length false]),0⟩,⟨2,48,1,r0.map jW,0⟩]:=by
 subst hcs;have own:∀i,∀r∈(w.counts.map zP).set t ([C.sl i [] 1 0 r0.length false]),∀c∈r,zy c=true:=λi=>zB (enc:=zP) (λ_=>rfl) rfl _ _
 refine BO (fn:=f152) func152 rfl (uH ?_);refine ah (vt w.pins h.pins) ?_;refine af [] (Bc w.ze h.ze.1 λv hv=>jR v (h.ze.2 v hv)) ?_;refine ah (ky w.zd h.zd) ?_;refine⟨_,_,Yc hp _ (zc rfl (zc rfl (zc rfl rfl))),dd ?_⟩;refine ah (Cn w.zu h.zu) ?_;refine⟨.inl rfl,_,_,zp.zV 1 0 4 rfl rfl rfl rfl (.inr rfl) rfl aj (shut_map (enc:=zK) (λ_=>rfl) w.ze) (z6 rfl),rfl,?_⟩;refine NR [4,5] [0] rfl rfl rfl (zc rfl (zc rfl (zc rfl (zc (zj λr hr c hc=>((shut_map (enc:=zK) (λ_=>rfl) w.ze) r hr c hc).2) (zc (zj (own 5)) rfl))))) rfl ?_;show zN [4,5] ⟨1,0,1,(w.counts.map zP).set t ([C.sl 5 [] 1 0 r0.length false]),0⟩::_=_;rw[zH (enc:=zP) (λ_=>rfl)]
 rfl
def X7(w:Wor)(h:jf w)(H:zl)(hf:qY H=true):tn 202 H [ig w.counts,.fn 203 [] [],.agg []] (.sl H.length [] 1 0 w.counts.length false) (H++[⟨2,212,1,w.counts.map zP,0⟩]):=
 Az (Bb w.counts h.counts.1 λr hr=>yh r (h.counts.2 r hr)) rfl rfl H hf
def yF(w:Wor)(h:jf w)(vs:List fB)(hvs:w.ze=vs){v:Nat}{v0:fB}{g:Nat}{g0:Gr}{e:Nat}{e0:En}(hp:Br vs v v0 g g0 e e0):tn 152 [] [Cw w] (.agg [I w.zr,I w.current,I w.lock,lI w.pins,.sl 0 [] 5 0 vs.length false,lL w.zd,ig w.counts,lR w.zu]) [⟨1,0,5,(vs.map zK).set v ((ql v0.snap++[C.sl 1 [] 2 0 v0.zm.length false,Bo v0.qt])),0⟩,⟨1,0,2,(v0.zm.map zF).set g ([U g0.zt,C.sl 2 [] 3 0 g0.ends.length false]),0⟩,⟨1,0,3,(g0.ends.map zx).set e ([U e0.head,C.sl 3 [] 1 0 e0.next.length false,I e0.zi]),0⟩,⟨2,3,1,e0.next.map encI,0⟩]:=by
 subst hvs;have own:∀i,∀r∈(w.ze.map zK).set v ((ql v0.snap++[C.sl i [] 2 0 v0.zm.length false,Bo v0.qt])),∀c∈r,zy c=true:=λi=>zB (enc:=zK) (λ_=>rfl) rfl _ _
 refine BO (fn:=f152) func152 rfl (uH ?_);refine ah (vt w.pins h.pins) ?_;refine⟨_,_,Yd hp _ rfl,dd ?_⟩;refine ah (ky w.zd h.zd) ?_;refine⟨_,_,X7 w h _ (zc rfl (zc rfl (zc rfl (zc (zj (own 4)) (zc (zj (zB (enc:=zF) (λ_=>rfl) rfl _ _)) (zc (zj (zB (enc:=zx) (λ_=>rfl) rfl _ _)) rfl)))))),dd ?_⟩;refine ah (Cn w.zu h.zu) ?_;refine⟨.inl rfl,_,_,zp.zV 1 0 6 rfl rfl rfl rfl (.inr rfl) rfl aj (shut_map (enc:=zP) (λ_=>rfl) w.counts) (z6 rfl),rfl,?_⟩;refine NR [3,4,5,6] [0] rfl rfl rfl (zc rfl (zc rfl (zc rfl (zc (zj (own 4)) (zc (zj (zB (enc:=zF) (λ_=>rfl) rfl _ _)) (zc (zj (zB (enc:=zx) (λ_=>rfl) rfl _ _)) (zc rfl (zj λr hr c hc=>((shut_map (enc:=zP) (λ_=>rfl) w.counts) r hr c hc).2)))))))) rfl ?_;show zN [3,4,5,6] ⟨1,0,5,(w.ze.map zK).set v ((ql v0.snap++[C.sl 4 [] 2 0 v0.zm.length false,Bo v0.qt])),0⟩::zN [3,4,5,6] ⟨1,0,2,(v0.zm.map zF).set g ([U g0.zt,C.sl 5 [] 3 0 g0.ends.length false]),0⟩::zN [3,4,5,6] ⟨1,0,3,(g0.ends.map zx).set e ([U e0.head,C.sl 6 [] 1 0 e0.next.length false,I e0.zi]),0⟩::_=_;rw[zH (enc:=zK) (λ_=>rfl),zH (enc:=zF) (λ_=>rfl),zH (enc:=zx) (λ_=>rfl)]
 rfl
def i4(i n:Int):Bool:=decide (0<=i) && decide (i<n)
def wO(i n:Int):tn 183 [] [I i,I n] (Bo (i4 i n)) []:=by
 refine ab func183 ?_;refine⟨λh1=>?_,λh1=>?_⟩
 ·refine dd ?_;refine⟨λh2=>?_,λh2=>?_⟩
  ·refine dd ?_
   (exact⟨.inl rfl,_,.refl _,uN (by unfold i4;simp at h1 h2 ⊢;omega)⟩)
  ·refine dd ?_
   (exact⟨.inl rfl,_,.refl _,uN (by unfold i4;simp at h1 h2 ⊢;omega)⟩)
 ·refine dd ?_
  (exact⟨.inl rfl,_,.refl _,uN (by unfold i4;simp at h1 ⊢;omega)⟩)
def Ht{H:zl}{f:FuncId}{caps:List C}{l:List Int}(p:Int->Bool)(hcb:qm prog f=true)(hp:∀r∈l,tn f H ([I r]++caps) (Bo (p r)) H)(hl:l.length<4611686018427387904):
  tn 71 H [lI l,.fn f [] caps] (I (match l.findIdx? p with|some i=>(i:Int)|none=> -1)) H:=by
 refine zb.zI (fn:=f71) func71 rfl (uH ?_)
 refine zZ.inv (λn t1 H1=>∃k,k+n=l.length/\H1=H/\(∀j,j<k->∀r,l[j]?=some r->p r=false)/\
   t1=((lI l)::.fn f [] caps::.za::.za::I 0::.za::.za::I (l.map encI).length::I k::mC ([.za,.za]))) l.length ?_ ?_
 ·exact dc
 rintro n _ _ ⟨k,hk,rfl,hno,rfl⟩;conv=>whnf
 refine⟨λh=>?_,λh=>?_⟩
 ·conv=>whnf
  have ft:k<l.length:=aq h
  refine⟨aw,encI l[k],aX,uH ?_⟩;rw[hcb];refine⟨_,_,hp _ (gZ ft),uH ?_⟩;refine⟨λh2=>?_,λh2=>?_⟩
  ·conv=>whnf
   refine .inr ⟨aj,uH ?_⟩;refine⟨.inl rfl,_,.refl _,rfl,?_⟩
   have:l.findIdx? p=some k:=by
    rw[gR];refine⟨ft,h2,λj hj=>?_⟩;simp[hno j hj _ (gp aw)]
   rw[this]
   rfl
  ·conv=>whnf
   refine .inl ⟨rfl,n-1,_,_,aw,zp.mask [0,1,4,7,8] _ _,k+1,aw,rfl,?_,?_⟩
   ·intro j hj r hr;by_cases hjk:j=k
    ·subst hjk;rw[gp ft]at hr;cases hr
     exact h2
    ·exact hno j aw r hr
   ·rw[zw aw];rfl
 ·conv=>whnf
  refine .inr ⟨aj,uH ?_⟩;refine⟨.inl rfl,_,.refl _,rfl,?_⟩
  have:l.findIdx? p=none:=by
   rw[gX];intro x hx;obtain⟨j,hj⟩:=gW.1 hx;have hjl:=(gm.1 hj).1;have:¬k<l.length:=aq h
   exact hno j aw x hj
  rw[this]
  rfl
def EW{H:zl}{f:FuncId}{caps:List C}{l:List Int}(p:Int->Bool)(hcb:qm prog f=true)(hp:∀r∈l,tn f H ([I r]++caps) (Bo (p r)) H)(hl:l.length<4611686018427387904):
  tn 80 H [lI l,.fn f [] caps] (Bo (l.any p)) H:=by
 refine zb.zI (fn:=f80) func80 rfl (uH ?_);refine⟨_,_,Ht p hcb hp hl,dd ?_⟩;rw[show decide ((match l.findIdx? p with|some i=>((i:Nat):Int)|none=>(-1:Int))≥(0:Int))=l.any p from BK l p];refine⟨λh=>?_,λh=>?_⟩ <;> rw[h]
 ·exact dt
 ·exact dt
def Uh{H:zl}{f:FuncId}{caps:List C}{l:List En}(p:En->Bool)(hcb:qm prog f=true)(hp:∀r∈l,tn f H ([Go.Slp.Ev r]++caps) (Bo (p r)) H)(hl:l.length<4611686018427387904):
  tn 258 H [lE l,.fn f [] caps] (I (match l.findIdx? p with|some i=>(i:Int)|none=> -1)) H:=by
 refine zb.zI (fn:=f258) func258 rfl (uH ?_)
 refine zZ.inv (λn t1 H1=>∃k,k+n=l.length/\H1=H/\(∀j,j<k->∀r,l[j]?=some r->p r=false)/\
   t1=((lE l)::.fn f [] caps::.za::.za::I 0::.za::.za::I (l.map zx).length::I k::mC ([.za,.za]))) l.length ?_ ?_
 ·exact dc
 rintro n _ _ ⟨k,hk,rfl,hno,rfl⟩;conv=>whnf
 refine⟨λh=>?_,λh=>?_⟩
 ·conv=>whnf
  have ft:k<l.length:=aq h
  refine⟨aw,zx l[k],aX,uH ?_⟩;rw[hcb];refine⟨_,_,hp _ (gZ ft),uH ?_⟩;refine⟨λh2=>?_,λh2=>?_⟩
  ·conv=>whnf
   refine .inr ⟨aj,uH ?_⟩;refine⟨.inl rfl,_,.refl _,rfl,?_⟩
   have:l.findIdx? p=some k:=by
    rw[gR];refine⟨ft,h2,λj hj=>?_⟩;simp[hno j hj _ (gp aw)]
   rw[this]
   rfl
  ·conv=>whnf
   refine .inl ⟨rfl,n-1,_,_,aw,zp.mask [0,1,4,7,8] _ _,k+1,aw,rfl,?_,?_⟩
   ·intro j hj r hr;by_cases hjk:j=k
    ·subst hjk;rw[gp ft]at hr;cases hr
     exact h2
    ·exact hno j aw r hr
   ·rw[zw aw];rfl
 ·conv=>whnf
  refine .inr ⟨aj,uH ?_⟩;refine⟨.inl rfl,_,.refl _,rfl,?_⟩
  have:l.findIdx? p=none:=by
   rw[gX];intro x hx;obtain⟨j,hj⟩:=gW.1 hx;have hjl:=(gm.1 hj).1;have:¬k<l.length:=aq h
   exact hno j aw x hj
  rw[this]
  rfl
def Tc{H:zl}{f:FuncId}{caps:List C}{l:List En}(p:En->Bool)(hcb:qm prog f=true)(hp:∀r∈l,tn f H ([Go.Slp.Ev r]++caps) (Bo (p r)) H)(hl:l.length<4611686018427387904):
  tn 252 H [lE l,.fn f [] caps] (Bo (l.any p)) H:=by
 refine zb.zI (fn:=f252) func252 rfl (uH ?_);refine⟨_,_,Uh p hcb hp hl,dd ?_⟩;rw[show decide ((match l.findIdx? p with|some i=>((i:Nat):Int)|none=>(-1:Int))≥(0:Int))=l.any p from BK l p];refine⟨λh=>?_,λh=>?_⟩ <;> rw[h]
 ·exact dt
 ·exact dt
def o7(ep p:Int):Bool:=decide (p<0) || decide (p > ep+1)
def QV(w:Wor)(p:Int)(h0:0<=w.zr)(h1:w.zr<=1000000000000):tn 249 [⟨1,38,8,[zU w],0⟩] ([I p]++[.ref 0 [] 8 0 0]) (Bo (o7 w.zr p)) [⟨1,38,8,[zU w],0⟩]:=by
 have e:IntKind.i64.wrap (w.zr+1)=w.zr+1:=qd aw aw;refine zb.zI (fn:=f249) func249 rfl (uH ?_);refine⟨λh2=>?_,λh2=>?_⟩
 ·refine dd ?_;exact⟨.inl rfl,_,.refl _,rfl,uN (by unfold o7;rw[h2];rfl)⟩
 ·refine dd ?_;rw[e];refine⟨λh3=>?_,λh3=>?_⟩
  ·refine dd ?_;exact⟨.inl rfl,_,.refl _,rfl,uN (by unfold o7;rw[h2,h3];rfl)⟩
  ·refine dd ?_;exact⟨.inl rfl,_,.refl _,rfl,uN (by unfold o7;rw[h2,h3];rfl)⟩
def j4(w:Wor):Bool:=decide (1<=w.pins.length) && decide (w.pins.length<=8) && decide (w.counts.length=w.pins.length) && BN w.counts && decide (0<=w.zr) && decide (w.zr<=1000000000000) && (decide (w.lock=0) || decide (w.lock=1)) && !w.pins.any (o7 w.zr)
def RS(w:Wor)(hp:w.pins.length<4000000000000000000)(hc:w.counts.length<4000000000000000000):tn 226 [] [Cw w] (Bo (j4 w)) []:=by
 have m1:(w.pins.map encI).length=w.pins.length:=gE ..;have m2:(w.counts.map zP).length=w.counts.length:=gE ..;refine ab func226 ?_;rw[m1];refine⟨λh1=>?_,λh1=>?_⟩
 ·(have e:j4 w=false:=by (unfold j4;(rw[show decide (1<=w.pins.length)=false from by rw[pN];have:=pA h1;omega]);simp));exact gf
 refine dd ?_;refine⟨λh2=>?_,λh2=>?_⟩
 ·(have e:j4 w=false:=by (unfold j4;(rw[show decide (w.pins.length<=8)=false from cL]);simp));exact gf
 refine dd ?_;rw[m2];refine⟨λh3=>?_,λh3=>?_⟩
 ·(have e:j4 w=false:=by (unfold j4;(rw[show decide (w.counts.length=w.pins.length)=false from by rw[pN];intro hh;simp[hh]at h3]);simp));exact gf
 refine dd ?_;refine ah (Q5 w.counts hc) ?_;refine⟨λh4=>?_,λh4=>?_⟩
 rotate_left
 ·(have e:j4 w=false:=by (unfold j4;(rw[h4]);simp));exact gf
 refine dd ?_;refine⟨λh5=>?_,λh5=>?_⟩
 ·(have e:j4 w=false:=by (unfold j4;(rw[show decide (0<=w.zr)=false from by simp at h5 ⊢;omega]);simp));exact gf
 refine dd ?_;refine⟨λh6=>?_,λh6=>?_⟩
 ·(have e:j4 w=false:=by (unfold j4;(rw[show decide (w.zr<=1000000000000)=false from by simp at h6 ⊢;omega]);simp));exact gf
 refine dd ?_;have b0:0<=w.zr:=by simp at h5;omega
 have b1:w.zr<=1000000000000:=by simp at h6;omega
 have hcon:=EW (H:=[⟨1,38,8,[zU w],0⟩]) (f:=249) (l:=w.pins) (caps:=[.ref 0 [] 8 0 0]) (o7 w.zr) au (λr _=>QV w r b0 b1) aw
 have g0:j4 w=((decide (w.lock=0) || decide (w.lock=1)) && !w.pins.any (o7 w.zr)):=by
  have h3':w.counts.length=w.pins.length:=by simp at h3;omega
  unfold j4;rw[show decide (1<=w.pins.length)=true from by rw[decide_eq_true_iff];have:=rD h1;omega,show decide (w.pins.length<=8)=true from cL,show decide (w.counts.length=w.pins.length)=true from aq h3',h4,show decide (0<=w.zr)=true from aq b0,show decide (w.zr<=1000000000000)=true from aq b1]
  rfl
 have fin:∀hl:(decide (w.lock=0) || decide (w.lock=1))=true,j4 w=!w.pins.any (o7 w.zr):=λhl=>by rw[g0,hl];rfl
 refine⟨λh7=>?_,λh7=>?_⟩
 ·refine dd ?_;refine⟨λh8=>?_,λh8=>?_⟩
  ·have e:j4 w=false:=by rw[g0,show(decide (w.lock=0) || decide (w.lock=1))=false from by simp at h7 h8 ⊢;omega];rfl
   rw[e];refine dd ?_;refine tc ?_
   exact uI
  rw[fin (by simp at h8 ⊢;omega)];refine dd ?_;refine tc ?_
  refine af [0] (hcon) ?_;refine⟨λh9=>?_,λh9=>?_⟩
  ·refine dd ?_
   (exact⟨.inl rfl,_,.refl _,uN (by rw[h9];rfl)⟩)
  ·refine dd ?_
   (exact⟨.inl rfl,_,.refl _,uN (by rw[h9];rfl)⟩)
 ·rw[fin (by simp at h7 ⊢;omega)];refine dd ?_;refine tc ?_
  refine af [0] (hcon) ?_;refine⟨λh9=>?_,λh9=>?_⟩
  ·refine dd ?_
   (exact⟨.inl rfl,_,.refl _,uN (by rw[h9];rfl)⟩)
  ·refine dd ?_
   (exact⟨.inl rfl,_,.refl _,uN (by rw[h9];rfl)⟩)
def AB(x:ic)(e:En):Bool:=!Go.Slp.fP e || (e.next.length:Int) != x.xR
def Re(x:ic)(e:En)(he:e.ok):tn 251 [⟨1,79,4,[xc x],0⟩] ([Go.Slp.Ev e]++[.ref 0 [] 4 0 0]) (Bo (AB x e)) [⟨1,79,4,[xc x],0⟩]:=by
 have m1:(e.next.map encI).length=e.next.length:=gE ..;refine zb.zI (fn:=f251) func251 rfl (uH ?_);refine ah (Go.Slp.Ct e he) ?_;refine⟨λh1=>?_,λh1=>?_⟩
 rotate_left
 ·refine dd ?_;exact⟨.inl rfl,_,zp.keep [3] 1 _ _ rfl rfl rfl rfl,rfl,uN (by unfold AB;rw[h1];rfl)⟩
 ·refine dd ?_;rw[m1];refine⟨λh2=>?_,λh2=>?_⟩
  ·refine dd ?_;exact⟨.inl rfl,_,zp.keep [3] 1 _ _ rfl rfl rfl rfl,rfl,uN (by unfold AB;rw[h1,h2];rfl)⟩
  ·refine dd ?_;exact⟨.inl rfl,_,zp.keep [3] 1 _ _ rfl rfl rfl rfl,rfl,uN (by unfold AB;rw[h1,h2];rfl)⟩
structure Ka(v:fB):Prop where
 snap:oZ v.snap
 zm:v.zm.length<1000000000000
 ends : ∀g∈v.zm, g.ends.length<1000000000000 /\ ∀e∈g.ends, e.ok
def Bm(v:fB)(i:Nat):Bool:=match v.zm[i]?,v.snap.zk[i]? with
 |some g,some x=>decide (g.ends.length=x.zL.length) && !g.ends.any (AB x)
 |_,_=>true
def nJ(v:fB):Bool:=vB v.snap && decide (v.zm.length=v.snap.zk.length) && (List.range v.zm.length).all (Bm v)
def He(v:fB)(hv:Ka v):tn 228 [] [Cv v] (Bo (nJ v)) []:=by
 have m1:(v.zm.map zF).length=v.zm.length:=gE ..;have m2:(v.snap.zk.map xc).length=v.snap.zk.length:=gE ..;have hgl:=hv.zm;refine ab func228 ?_;refine ah (KN v.snap hv.snap) ?_;refine⟨λh1=>?_,λh1=>?_⟩
 rotate_left
 ·have e:nJ v=false:=by unfold nJ;rw[h1];rfl
  rw[e];refine dd ?_;refine tc ?_
  exact uI
 refine dd ?_;rw[m1,m2];refine⟨λh2=>?_,λh2=>?_⟩
 ·have e:nJ v=false:=by unfold nJ;rw[show decide (v.zm.length=v.snap.zk.length)=false from by rw[pN];intro hh;simp[hh]at h2,sX];rfl
  rw[e];refine dd ?_;refine tc ?_
  exact uI
 have h2':v.zm.length=v.snap.zk.length:=aY
 refine dd ?_;refine tc ?_
 rw[m1];refine zZ.seq v.zm.length (λk=>(.za::.ref 0 [] 5 0 0::Bo false::mC (mC (.za::.za::.za::(lG v.zm)::I v.zm.length::I k::mC (mC (mC ([.za]))))))) (λk=>[⟨1,69,5,[zK v],0⟩]) (λk=>∀j,j<k->Bm v j=true) ?_ aj (λk hk hr=>?_) (λhr=>?_)
 ·exact cC
 ·obtain⟨g,hg⟩:∃g,g=v.zm[k]:=⟨_,rfl⟩;obtain⟨x,hx⟩:∃x,x=v.snap.zk[k]'aw:=⟨_,rfl⟩;have gg:(v.zm.map zF)[k]?=some (zF g):=by rw[gz,gp hk,hg];rfl
  have gx:(v.snap.zk.map xc)[k]?=some (xc x):=by rw[gz,gp aw,hx];rfl
  have hgm:g∈v.zm:=by rw[hg];exact gZ hk
  have me:(g.ends.map zx).length=g.ends.length:=gE ..;have mh:(x.zL.map kN).length=x.zL.length:=gE ..
  have hd:Bm v k=(decide (g.ends.length=x.zL.length) && !g.ends.any (AB x)):=by
   unfold Bm;rw[gp hk,gp aw,<-hg,<-hx]
  have bad:Bm v k=false->nJ v=false:=λh=>by
   have:(List.range v.zm.length).all (Bm v)=false:=by rw[sK];exact⟨k,aq hk,aH⟩
   unfold nJ;rw[this,sX]
  have hcon:=Tc (H:=[⟨1,79,4,[xc x],0⟩]) (f:=251) (l:=g.ends) (caps:=[.ref 0 [] 4 0 0]) (AB x) au (λr hr=>Re x r ((hv.ends g hgm).2 r hr)) (by have:=(hv.ends g hgm).1;omega);conv=>whnf
  refine uF ?_;(refine td gg ?_)
  (refine td gx ?_)
  rw[me,mh];refine⟨λh3=>?_,λh3=>?_⟩
  ·rw[bad (by rw[hd,show decide (g.ends.length=x.zL.length)=false from by rw[pN];intro hh;simp[hh]at h3];rfl)];refine dd ?_;refine tc ?_
   (refine .inr ⟨aj,uH ?_⟩)
   exact uI
  refine dd ?_;refine af [2] (hcon) ?_;refine⟨λh4=>?_,λh4=>?_⟩
  ·rw[bad (by rw[hd,h4,u7,sX])];refine dd ?_;refine tc ?_
   (refine .inr ⟨aj,uH ?_⟩)
   exact uI
  refine dd ?_;refine tc ?_
  refine .inl ⟨rfl,?_,λj hj=>?_⟩
  ·exact dL
  ·by_cases e:j=k
   ·subst e;rw[hd,h4];simp at h3 ⊢;omega
   ·exact hr j aw
 ·have e:nJ v=true:=by
   unfold nJ;rw[h1,show decide (v.zm.length=v.snap.zk.length)=true from aq h2',sr,sr,gI]
   exactλi hi=>hr i (aq hi)
  rw[e];refine uD ?_;exact uI
def yU(l:List fT):List (Int×Value):=l.foldl (λm r=>yg m r.version (Value.bool r.gone)) []
def vM(l:List fT)(i:Int):Bool:=match ((ji (yU l) i).bind λj=>((yU l)[j]?).map (·.2):Option Value) with
 |some (.bool b)=>b
 |_=>false
def VW{m:List (Int×Value)}(h:∀kv∈m,∃b,kv.2=Value.bool b)(k:Int)(b:Bool):∀kv∈yg m k (Value.bool b),∃b,kv.2=Value.bool b:=λkv hm=>by
 unfold yg at hm;split at hm
 ·rcases pT hm with hm|rfl
  ·exact h kv hm
  ·exact⟨b,rfl⟩
 ·rcases gT.1 hm with hm|hm
  ·exact h kv hm
  ·rw[gS.1 hm];exact⟨b,rfl⟩
def S6(l:List fT):∀kv∈yU l,∃b,kv.2=Value.bool b:=by
 unfold yU
 suffices key:∀(l:List fT) (m:List (Int×Value)),(∀kv∈m,∃b,kv.2=Value.bool b)->∀kv∈l.foldl (λm r=>yg m r.version (Value.bool r.gone)) m,∃b,kv.2=Value.bool b from key l [] aj
 intro l
 induction l with
 |nil=>intro m h;exact h
 |cons r l ih=>intro m h;exact ih _ (VW h _ _)
def W3(l:List fT)(i:Int):(((ji (yU l) i).bind λj=>((yU l)[j]?).map (·.2)).getD (Value.bool false))=Value.bool (vM l i):=by
 unfold vM;cases h:(ji (yU l) i).bind λj=>((yU l)[j]?).map (·.2) with
 |none=>rfl
 |some v=>
  obtain⟨j,_,hj⟩:=pj.1 h;obtain⟨kv,h1,rfl⟩:=gU.1 hj;obtain⟨b,hb⟩:=S6 l kv (gA h1);simp only[pS];rw[hb]
def Vg(l:List fT){k:Nat}{r:fT}(h:l[k]?=some r):yU (l.take (k+1))=yg (yU (l.take k)) r.version (Value.bool r.gone):=by
 obtain⟨hk,rfl⟩:=gm.1 h;unfold yU;rw[rb hk,sJ]
 rfl
structure iC(w:Wor):Prop where
 pins:w.pins.length<1000000000000
 ze:w.ze.length<1000000000000/\∀v∈w.ze,Ka v
 zd:w.zd.length<1000000000000/\∀l∈w.zd,l.ok
 counts:w.counts.length<1000000000000/\∀r∈w.counts,r.length<1000000000000
 zu:w.zu.length<1000000000000
def yA(w:Wor)(r:fT):Bool:=decide (r.version≥(w.ze.length:Int)) || r.version == w.current || decide (r.at_ > w.zr)
def oI(w:Wor)(i:Nat):Bool:=match w.ze[i]? with
 |some v=>nJ v && (v.qt == vM w.zu i)
 |none=>true
def kW(w:Wor)(i:Nat):Bool:=match w.zd[i]? with
 |some l=>Go.Gat.fP l && decide (zM w.zd l.name=i)
 |none=>true
def xS(w:Wor):Bool:=j4 w && (decide (0<=w.current) && decide (w.current<w.ze.length)) && Go.Lim.fP w.zu && !w.zu.any (yA w) && (List.range w.ze.length).all (oI w) && (List.range w.zd.length).all (kW w)
def Rb(w:Wor)(hw:iC w):tn 182 [] [Cw w] (Bo (xS w)) []:=by
 have m1:(w.ze.map zK).length=w.ze.length:=gE ..;have m2:(w.zu.map xH).length=w.zu.length:=gE ..;have m3:(w.zd.map qW).length=w.zd.length:=gE ..;have b1:=hw.pins;have b2:=hw.ze.1;have b3:=hw.zd.1;have b4:=hw.counts.1;have b5:=hw.zu;refine ab func182 ?_;refine ah (RS w aw aw) ?_;refine⟨λh1=>?_,λh1=>?_⟩
 rotate_left
 ·(have e:xS w=false:=by (unfold xS;(rw[h1]);simp));exact gf
 refine dd ?_;refine⟨λh2=>?_,λh2=>?_⟩
 ·(have e:xS w=false:=by (unfold xS;(rw[show decide (0<=w.current)=false from cL]);simp));exact gf
 refine dd ?_;rw[m1];refine⟨λh3=>?_,λh3=>?_⟩
 ·(have e:xS w=false:=by (unfold xS;(rw[show decide (w.current<w.ze.length)=false from by simp at h3 ⊢;omega]);simp));exact gf
 refine dd ?_;refine ah (Go.Lim.Ct (l:=w.zu) aw) ?_;refine⟨λh4=>?_,λh4=>?_⟩
 rotate_left
 ·(have e:xS w=false:=by (unfold xS;(rw[h4]);simp));exact gf
 refine dd ?_;refine tc ?_
 intro b;refine dd ?_;rw[m2]
 have g0:xS w=(!w.zu.any (yA w) && (List.range w.ze.length).all (oI w) && (List.range w.zd.length).all (kW w)):=by
  unfold xS;rw[h1,show decide (0<=w.current)=true from cL,show decide (w.current<w.ze.length)=true from by simp at h3 ⊢;omega,h4]
  rfl
 refine zZ.seq w.zu.length (λk=>(.za::.ref 0 [] 8 0 0::Bo false:: .v (.map (some b)):: .za::.za::.za::.za::.za::.za::mC (mC (mC (lR w.zu::I w.zu.length::I k:: .za::.za::.za::.za::.za::.za::mC (mC (mC (mC (mC (mC (mC (mC ([]))))))))))))) (λk=>[⟨1,38,8,[zU w],0⟩,im b (jq qp (yU (w.zu.take k))) (yU (w.zu.take k)).length]) (λk=>∀j,(h:j<w.zu.length)->j<k->yA w w.zu[j]=false) ?_ aj (λk hk hr=>?_) (λhr=>?_)
 ·exact cC
 ·obtain⟨r,hx⟩:∃r,r=w.zu[k]:=⟨_,rfl⟩;have hx2:w.zu[k]?=some r:=by rw[gp hk,hx]
  have hg:(w.zu.map xH)[k]?=some (xH r):=by rw[gz,hx2];rfl
  have bad:yA w r=true->xS w=false:=λh=>by
   have:w.zu.any (yA w)=true:=rB.2 ⟨r,gA hx2,h⟩;rw[g0,this];rfl
  conv=>whnf
  refine uF ?_;(refine td hg ?_)
  rw[m1];refine⟨λh5=>?_,λh5=>?_⟩
  ·(rw[bad (by unfold yA;rw[h5];rfl)]);refine dd ?_;refine tc ?_;(refine .inr ⟨aj,uH ?_⟩);exact uI
  refine dd ?_;refine⟨λh6=>?_,λh6=>?_⟩
  ·(rw[bad (by unfold yA;rw[h6,uo];rfl)]);refine dd ?_;refine tc ?_;(refine .inr ⟨aj,uH ?_⟩);exact uI
  refine dd ?_;refine⟨λh7=>?_,λh7=>?_⟩
  ·(rw[bad (by unfold yA;rw[h7,uo])]);refine dd ?_;refine tc ?_;(refine .inr ⟨aj,uH ?_⟩);exact uI
  refine dd ?_;refine tc ?_
  refine⟨λq=>?_,λq=>?_⟩
  all_goals
   refine dd ?_;refine⟨_,_,fE.mapUpdate (id:=1) _ _ _ _ (.inl rfl) underlying125 (lF.int underlying3) rfl rfl r.version (λE u h=>jG h) (.bool r.gone) (λE u h=>by rw[q];exact jG h),dd ?_⟩;refine .inl ⟨rfl,?_,λj hj hjk=>?_⟩
   ·rw[zw aw,<-Vg w.zu hx2];exact cE 2
   ·by_cases e:j=k
    ·subst e;rw[<-hx];unfold yA;rw[h5,h6,h7];rfl
    ·exact hr j hj aw
 have hl0:w.zu.any (yA w)=false:=by
  rw[pD];intro x hx;obtain⟨j,hj,rfl⟩:=pF.1 hx;simp[hr j hj hj]
 rw[pQ];refine uD ?_;rw[m1];have g1:xS w=((List.range w.ze.length).all (oI w) && (List.range w.zd.length).all (kW w)):=by rw[g0,hl0];rfl
 refine zZ.seq w.ze.length (λk=>(.za::.ref 0 [] 8 0 0::Bo false:: .v (.map (some b)):: .za::.za::.za::.za::.za::.za::.za::mC (mC (mC (mC (mC (mC (mC (lV w.ze::I w.ze.length::I k:: .za::.za::.za::.za::.za::mC (mC (mC (mC ([]))))))))))))) (λk=>[⟨1,38,8,[zU w],0⟩,im b (jq qp (yU (w.zu))) (yU (w.zu)).length]) (λk=>∀j,j<k->oI w j=true) ?_ aj (λk hk hr=>?_) (λhr=>?_)
 ·exact cC
 ·obtain⟨v,hx⟩:∃v,v=w.ze[k]:=⟨_,rfl⟩;have hx2:w.ze[k]?=some v:=by rw[gp hk,hx]
  have hg:(w.ze.map zK)[k]?=some (zK v):=by rw[gz,hx2];rfl
  have hd:oI w k=(nJ v && (v.qt == vM w.zu k)):=by unfold oI;rw[hx2]
  have bad:oI w k=false->xS w=false:=λh=>by
   have:(List.range w.ze.length).all (oI w)=false:=by rw[sK];exact⟨k,aq hk,aH⟩
   rw[g1,this];rfl
  conv=>whnf
  refine uF ?_;(refine td hg ?_)
  refine ah (He v (hw.ze.2 v (gA hx2))) ?_;refine⟨λh5=>?_,λh5=>?_⟩
  rotate_left
  ·(rw[bad (by rw[hd,h5];rfl)]);refine dd ?_;refine tc ?_;(refine .inr ⟨aj,uH ?_⟩);exact uI
  refine dd ?_;refine⟨λq=>?_,λq=>?_⟩
  all_goals
   refine dd ?_;refine⟨_,_,fE.lookup (id:=1) _ _ _ rfl underlying125 (lF.int underlying3) rfl rfl (k:Int) (λE u h=>jG h) (c:=Bo (vM w.zu k)) rfl rfl (λE=>by rw[W3];exact .v _ rfl),dd ?_⟩;refine⟨λq2=>?_,λq2=>?_⟩
   ·(rw[bad (by rw[hd,q];simp at q2;simp[q2])]);refine dd ?_;refine tc ?_;(refine .inr ⟨aj,uH ?_⟩);exact uI
   refine dd ?_;refine tc ?_
   refine .inl ⟨rfl,?_,λj hj=>?_⟩
   ·rw[zw aw];exact cE 2
   ·by_cases e:j=k
    ·subst e;rw[hd,h5,q];simp at q2;simp[q2]
    ·exact hr j aw
 have hv0:(List.range w.ze.length).all (oI w)=true:=by
  rw[gI]
  exactλi hi=>hr i (aq hi)
 have g2:xS w=(List.range w.zd.length).all (kW w):=by rw[g1,hv0];rfl
 refine uD ?_;rw[m3];refine zZ.seq w.zd.length (λk=>(.za::.ref 0 [] 8 0 0::Bo false:: .v (.map (some b)):: .za::.za::.za::mC (mC (mC (mC (mC (mC (mC (mC (mC (mC (lL w.zd::I w.zd.length::I k:: .za::mC (mC ([])))))))))))))) (λk=>[⟨1,38,8,[zU w],0⟩,im b (jq qp (yU (w.zu))) (yU (w.zu)).length]) (λk=>∀j,j<k->kW w j=true) ?_ aj (λk hk hr=>?_) (λhr=>?_)
 ·exact cC
 ·obtain⟨l,hx⟩:∃l,l=w.zd[k]:=⟨_,rfl⟩;have hx2:w.zd[k]?=some l:=by rw[gp hk,hx]
  have hg:(w.zd.map qW)[k]?=some (qW l):=by rw[gz,hx2];rfl
  have hd:kW w k=(Go.Gat.fP l && decide (zM w.zd l.name=k)):=by unfold kW;rw[hx2]
  have bad:kW w k=false->xS w=false:=λh=>by
   have:(List.range w.zd.length).all (kW w)=false:=by rw[sK];exact⟨k,aq hk,aH⟩
   rw[g2,this]
  conv=>whnf
  refine uF ?_;(refine td hg ?_)
  refine ah (Go.Gat.Ct l (hw.zd.2 l (gA hx2))) ?_;refine⟨λh5=>?_,λh5=>?_⟩
  rotate_left
  ·(rw[bad (by rw[hd,h5];rfl)]);refine dd ?_;refine tc ?_;(refine .inr ⟨aj,uH ?_⟩);exact uI
  refine dd ?_;refine ah (EU w.zd l.name aw) ?_;refine⟨λh6=>?_,λh6=>?_⟩
  ·(rw[bad (by rw[hd,show decide (zM w.zd l.name=(k:Int))=false from by rw[pN];intro hh;simp[hh]at h6,sX])]);refine dd ?_;refine tc ?_;(refine .inr ⟨aj,uH ?_⟩);exact uI
  refine dd ?_;refine tc ?_
  refine .inl ⟨rfl,?_,λj hj=>?_⟩
  ·rw[zw aw];exact cE 2
  ·by_cases e:j=k
   ·subst e;rw[hd,h5];simp at h6;simp[h6]
   ·exact hr j aw
 ·have hl1:(List.range w.zd.length).all (kW w)=true:=by
   rw[gI]
   exactλi hi=>hr i (aq hi)
  rw[g2,hl1];refine uD ?_;exact uI
end Go.Wor
