import Derived.Test.YtamgiodaflkbhaaGreatVF
import Derived.Test.YtamgiodaflkbhaaGreatVS
import Derived.Test.YtamgiodaflkbhaaGreatVT
set_option linter.all false
set_option maxRecDepth 100000
set_option maxHeartbeats 4000000
namespace Go.Wor
open Go.Ab Go.Proofs Tryz Go.Hy Go.Gat Go.Nam Go.Hos Go.Con Go.Sna
def xO(l:List fB)(n:Int):fB:=if 0<=n/\n<l.length then (l[n.toNat]?).getD [] else []
def xy(l:List fV)(n:Int):fB:=if 0<=n/\n<l.length then ((l[n.toNat]?).map (·.name)).getD [] else []
def lQ(s:Sna)(r:iL):np:=⟨xO s.zc r.listen,r.host,r.path,xy s.zj r.zp⟩
def lb(s:Sna):fZ:=⟨s.zc,s.rules.map (lQ s),s.zj⟩
def yO(s:Sna):Bool:=(qh (lb s)).1 == 0
structure y6(s:Sna):Prop where
 zc:s.zc.length<1000000000000/\∀x∈s.zc,x.length<4000000000000000000
 rules:s.rules.length<1000000000000/\∀r∈s.rules,r.host.length<4000000000000/\r.path.length<4000000000000
 zj:s.zj.length<1000000000000/\∀x∈s.zj,x.name.length<4000000000000000000/\x.zM.length<4000000000000000000
def y6.cfg{s:Sna}(h:y6 s):qQ (lb s):=by
 refine⟨h.zc,⟨by simpa [lb] using h.rules.1,λr hr=>?_⟩,h.zj⟩;simp only[lb,rp]at hr;obtain⟨q,hq,rfl⟩:=hr;refine⟨?_,(h.rules.2 q hq).1,(h.rules.2 q hq).2,?_⟩
 .show(xO s.zc q.listen).length<_;unfold xO;split
  .cases hx:s.zc[q.listen.toNat]? with
   |none=>simp
   |some x=>exact h.zc.2 x (pE hx)
  .simp
 .show(xy s.zj q.zp).length<_;unfold xy;split
  .cases hx:s.zj[q.zp.toNat]? with
   |none=>simp
   |some x=>exact(h.zj.2 x (pE hx)).1
  .simp
def PR(s:Sna)(hs:y6 s):th 162 [] [Cs s] (Cf (lb s)) []:=by
 have m1:(s.rules.map ju).length=s.rules.length:=pz ..;have m2:(s.zc.map z7).length=s.zc.length:=pz ..;have m3:(s.zj.map jx).length=s.zj.length:=pz ..;have hl:=hs.rules.1;refine ab func162 ?_;rw[m1];refine zH.seq s.rules.length (λk=>(.za::.ref 0 [] 3 0 0:: .ref 1 [] 3 0 0:: .ref 2 [] 3 0 0:: .za::mL (kY s.rules::I s.rules.length::I k:: .za::.za::.za::.za::.za::mL (jp (mL ([])))))) (λk=>[⟨1,86,3,[qV s],0⟩,⟨1,26,3,[[.fq 1 0 [],.fq 1 0 [],.fq 1 0 []]],0⟩,⟨1,26,3,[[lT s.zc,.gl 3 4 (((s.rules.take k).map (lQ s)).map xF),lC s.zj]],0⟩,⟨4,116,4,((s.rules.take k).map (lQ s)).map xF,0⟩]) (λk=>True) ?_ trivial (λk hk hr=>?_) (λhr=>?_)
 .refine zl.trans (zl.qN 2 1 116 4 V V (.inl V) V V) ?_;exact cC
 .obtain⟨r,hx⟩:∃r,r=s.rules[k]:=⟨_,rfl⟩;have hg:(s.rules.map ju)[k]?=some (ju r):=by rw[pw,pq hk,hx];rfl
  have hlg:(((s.rules.take k).map (lQ s)).map xF).length=k:=ar
  have eg:((s.rules.take (k+1)).map (lQ s)).map xF=((s.rules.take k).map (lQ s)).map xF++[xF (lQ s r)]:=bM
  have hv:∀a b,a=xO s.zc r.listen->b=xy s.zj r.zp->xF ⟨a,r.host,r.path,b⟩=xF (lQ s r):=λa b h1 h2=>by rw[h1,h2];rfl
  conv=>whnf
  refine zaD ?_
  refine⟨λh1=>?_,λh1=>?_⟩
  rotate_left
  .refine zac ?_
   refine⟨λq1=>?_,λq1=>?_⟩;rotate_left;(focus (refine dd ?_;refine td ?_;(refine⟨rfl,.inr V,bN,ck,dd ?_⟩);(refine .inl ⟨rfl,?_,trivial⟩);(rw[zk an,eg,<-hv _ _ tP tR]);exact cE 4));refine dd ?_;(rw[m3]);refine⟨λq2=>?_,λq2=>?_⟩;rotate_left;(focus (refine dd ?_;refine td ?_;(refine⟨rfl,.inr V,bN,ck,dd ?_⟩);(refine .inl ⟨rfl,?_,trivial⟩);(rw[zk an,eg,<-hv _ _ tP tS]);exact cE 4));(have q3:r.zp.toNat<s.zj.length:=by simp at q1 q2;omega);(have gq:(s.zj.map jx)[r.zp.toNat]?=some (jx s.zj[r.zp.toNat]):=by rw[pw,pq q3];rfl);refine za3 ?_;(rw[zk an,eg,<-hv _ _ tP (by unfold xy;rw[pD cm,pq q3])]);exact cE 4
  refine dd ?_;rw[m2];refine⟨λh2=>?_,λh2=>?_⟩
  rotate_left
  .refine zac ?_
   refine⟨λq1=>?_,λq1=>?_⟩;rotate_left;(focus (refine dd ?_;refine td ?_;(refine⟨rfl,.inr V,bN,ck,dd ?_⟩);(refine .inl ⟨rfl,?_,trivial⟩);(rw[zk an,eg,<-hv _ _ tT tR]);exact cE 4));refine dd ?_;(rw[m3]);refine⟨λq2=>?_,λq2=>?_⟩;rotate_left;(focus (refine dd ?_;refine td ?_;(refine⟨rfl,.inr V,bN,ck,dd ?_⟩);(refine .inl ⟨rfl,?_,trivial⟩);(rw[zk an,eg,<-hv _ _ tT tS]);exact cE 4));(have q3:r.zp.toNat<s.zj.length:=by simp at q1 q2;omega);(have gq:(s.zj.map jx)[r.zp.toNat]?=some (jx s.zj[r.zp.toNat]):=by rw[pw,pq q3];rfl);refine za3 ?_;(rw[zk an,eg,<-hv _ _ tT (by unfold xy;rw[pD cm,pq q3])]);exact cE 4
  have h3:r.listen.toNat<s.zc.length:=cp
  have gl:(s.zc.map z7)[r.listen.toNat]?=some (z7 s.zc[r.listen.toNat]):=by rw[pw,pq h3];rfl
  refine zac ?_
  refine⟨by simp at h1;omega,_,gl,dd ?_⟩;refine⟨λq1=>?_,λq1=>?_⟩;rotate_left;(focus (refine dd ?_;refine td ?_;(refine⟨rfl,.inr V,bN,ck,dd ?_⟩);(refine .inl ⟨rfl,?_,trivial⟩);(rw[zk an,eg,<-hv _ _ (by unfold xO;rw[pD cp,pq h3]) tR]);exact cE 4));refine dd ?_;(rw[m3]);refine⟨λq2=>?_,λq2=>?_⟩;rotate_left;(focus (refine dd ?_;refine td ?_;(refine⟨rfl,.inr V,bN,ck,dd ?_⟩);(refine .inl ⟨rfl,?_,trivial⟩);(rw[zk an,eg,<-hv _ _ (by unfold xO;rw[pD cp,pq h3]) tS]);exact cE 4));(have q3:r.zp.toNat<s.zj.length:=by simp at q1 q2;omega);(have gq:(s.zj.map jx)[r.zp.toNat]?=some (jx s.zj[r.zp.toNat]):=by rw[pw,pq q3];rfl);exact zcw
 .refine uD ?_;exact gN
def Jj(s:Sna)(hs:y6 s):th 116 [] [Cs s] (Bo (yO s)) []:=by
 refine ab func116 ?_;refine af (PR s hs) ?_;refine af (check_sound (lb s) hs.cfg) ?_;refine⟨λh=>?_,λh=>?_⟩
 .refine dd ?_
  (exact⟨.inl V,_,.refl _,uN cq⟩)
 .refine dd ?_
  (exact⟨.inl V,_,.refl _,uN cq⟩)
end Go.Wor
namespace Go.Wor
open Go.Ab Go.Proofs Tryz Go.Hy Go.Gat Go.Nam Go.Hos Go.Con Go.Sna
open Go.Slp (yR II)
variable{α:Type}{rows:List (List C)}
def EF{f:Nat->Int}{n:Nat}(h:(je f n).1=0):∀j,j<n->f j=0:=λj hj=>by
 unfold je at h;split at h
 .rename_i i hi;rw[List.find?_range_eq_some]at hi;exact absurd h (ai hi.1)
 .rename_i hn;rw[List.find?_range_eq_none]at hn;simpa using hn j hj
structure HK(x:fV):Prop where
 name:jS x.name=true
 jP:x.jP=1\/x.jP=2
 yi:1<=x.yi/\x.yi<=4
 zM:1<=x.zM.length/\x.zM.length<=4
structure Ym(s:Sna):Prop where
 zc:1<=s.zc.length/\s.zc.length<=4
 rules:1<=s.rules.length/\s.rules.length<=8
 zj:1<=s.zj.length/\s.zj.length<=4
 all:∀x∈s.zj,HK x
def yn{s:Sna}(h:yO s=true):Ym s:=by
 unfold yO at h;have h:(qh (lb s)).1=0:=ai h
 unfold qh at h;split at h
 .contradiction
 rename_i h1;split at h
 .contradiction
 rename_i h2;split at h
 .contradiction
 rename_i h3;have h1:(xK (lb s)).1=0:=ai h1
 unfold xK at h1;split at h1
 .cases h1
 rename_i h4;have e:(lb s).zK.length=s.rules.length:=by simp[lb]
 rw[e]at h4;simp only[show(lb s).zc=s.zc from V,show(lb s).zj=s.zj from V]at h4;have b:∀n:Nat,∀m:Int,¬(decide (1<=(n:Int)) && decide ((n:Int)<=m))=false->1<=n/\(n:Int)<=m:=λn m hh=>by simp at hh;omega
 have q1:=b s.zc.length 4 λhh=>h4 (.inl (.inl hh))
 have q2:=b s.rules.length 8 λhh=>h4 (.inl (.inr hh))
 have q3:=b s.zj.length 4 λhh=>h4 (.inr hh)
 refine⟨an,an,an,λx hx=>?_⟩;obtain⟨i,hi,rfl⟩:=pU.1 hx;have h5:=EF (f:=lf s.zj) (n:=s.zj.length) (Decidable.of_not_not h3) i hi;unfold lf at h5;rw[pq hi]at h5;dsimp only at h5;split at h5
 .cases h5
 rename_i p1;split at h5
 .cases h5
 split at h5
 .cases h5
 rename_i p2;split at h5
 .cases h5
 rename_i p3;split at h5
 .cases h5
 rename_i p4;refine⟨ai p1,?_,?_,?_⟩
 .by_cases a:s.zj[i].jP=1
  .exact .inl a
  .by_cases a2:s.zj[i].jP=2
   .exact .inr a2
   .exact absurd ⟨a,a2⟩ p2
 .simp at p3;omega
 .simp at p4;omega
abbrev j6(x:fV):En:=(yR x.yi).1
def Lo{x:fV}(h:HK x):yR x.yi=(j6 x,0):=by
 have:=h.yi;unfold j6 yR;rw[pA an]
def kb(x:fV):Gr:=⟨0,List.replicate x.zM.length (j6 x)⟩
abbrev Yz:Sna:=⟨[],[],[]⟩
abbrev Dt:fC:=⟨Yz,[],false⟩
def qf(s:Sna):fC×Int:=if yO s then (⟨s,s.zj.map kb,false⟩,0) else (Dt,1)
abbrev Cv(v:fC):C:=.agg (zt v)
abbrev tV(r:fC×Int):C:=.fy [Cv r.1,I r.2]
def JK(s:Sna)(hs:y6 s):th 62 [] [Cs s] (tV (qf s)) []:=by
 have m1:(s.zj.map jx).length=s.zj.length:=pz ..;refine ab func62 ?_;refine af (Jj s hs) ?_;refine⟨λh1=>?_,λh1=>?_⟩
 rotate_left
 .have e:qf s=(Dt,1):=by unfold qf;rw[pA aH]
  rw[e];refine zac ?_
  exact⟨.inl V,_,zl.var 1 V V V (.cons (WC.nil 0 1) (.cons (WC.nil 0 4) (.cons (WC.nil 0 4) (.cons (WC.nil 0 2) (.cons (.refl _) .nil))))),rfl⟩
 have e:qf s=(⟨s,s.zj.map kb,false⟩,0):=by unfold qf;rw[pD h1]
 have hg:=yn h1;rw[e];refine zac ?_
 rw[m1];refine zH.seq s.zj.length (λk=>(.za::.ref 0 [] 3 0 0::.ref 1 [] 5 0 0::I 0::.ref 2 [] 5 0 0::mL (.za::.za::.za::.za::(lC s.zj)::I s.zj.length::I k::mL (mL (mL (mL ([.za]))))))) (λk=>[⟨1,86,3,[qV s],0⟩,⟨1,106,5,[[.fq 1 0 [],.fq 1 0 [],.fq 1 0 [],.fq 1 0 [],Bo false]],0⟩,⟨1,106,5,[qV s++[.gl 3 2 (((s.zj.take k).map kb).map zy),Bo false]],0⟩,⟨4,111,2,((s.zj.take k).map kb).map zy,0⟩]) (λk=>True) ?_ trivial (λk hk hr=>?_) (λhr=>?_)
 .refine zl.trans (zl.qN 2 3 111 2 V V (.inl V) V V) ?_;exact cC
 .obtain⟨x,hx⟩:∃x,x=s.zj[k]:=⟨_,rfl⟩;have hgx:(s.zj.map jx)[k]?=some (jx x):=by rw[pw,pq hk,hx];rfl
  have hgood:=hg.all x uY;have hc4:=hg.zj.2;have h4:=hgood.zM.2;have hlg:(((s.zj.take k).map kb).map zy).length=k:=ar
  have eg:((s.zj.take (k+1)).map kb).map zy=((s.zj.take k).map kb).map zy++[zy (kb x)]:=bM
  have mh:(x.zM.map yK).length=x.zM.length:=pz ..
  have fs:th 117 [] [I x.yi] (.fy [.agg (zx (j6 x)),I 0]) []:=by
   have:=II x.yi;rw[Lo hgood]at this;exact gI
  conv=>whnf
  refine uF ?_;(refine te hgx ?_)
  rw[mh];refine zH.seq x.zM.length (λj=>(.za::.ref 0 [] 3 0 0::.ref 1 [] 5 0 0::I 0::.ref 2 [] 5 0 0::.za::.ref 4 [] 4 0 0::.ref 5 [] 2 0 0::mL (.za::(lC s.zj)::I s.zj.length::I k::.za::.za::.za::.za::.za::I x.zM.length::I j::mL (mL (mL ([.za,.za])))))) (λj=>[⟨1,86,3,[qV s],0⟩,⟨1,106,5,[[.fq 1 0 [],.fq 1 0 [],.fq 1 0 [],.fq 1 0 [],Bo false]],0⟩,⟨1,106,5,[qV s++[.gl 3 2 (((s.zj.take k).map kb).map zy),Bo false]],0⟩,⟨4,111,2,((s.zj.take k).map kb).map zy,0⟩,oC x,⟨1,111,2,[[U 0,.gl 6 3 ((List.replicate j (j6 x)).map zx)]],0⟩,⟨4,151,3,((List.replicate j (j6 x)).map zx),0⟩]) (λk=>True) ?_ trivial (λj hj hr=>?_) (λhr=>?_)
  .refine zl.trans (zl.qN 5 1 151 3 V V (.inl V) V V) ?_;exact cC
  .have hle:(((List.replicate j (j6 x)).map zx)).length=j:=by simp
   have ee:((List.replicate (j+1) (j6 x)).map zx)=((List.replicate j (j6 x)).map zx)++[zx (j6 x)]:=by rw[sX,ry];rfl
   conv=>whnf
   refine uF ?_;refine af fs ?_;refine td ?_
   refine⟨rfl,.inr V,by rw[hle];simp[maxLen];omega,by rw[hle];show(j+1)*40<=_;omega,dd ?_⟩;refine zap ?_;rw[zk an,ee];exact cE 7
  .refine uD ?_;refine⟨rfl,.inr V,bN,by rw[hlg];show(k+1)*32<=_;omega,dd ?_⟩;exact gW
 .refine uD ?_;exact gN
def wT(n:Int):List (List Int)×Int:=if n<1\/8<n then ([],1) else (List.replicate n.toNat [0,0,0,0,0,0],0)
abbrev NQ(r:List (List Int)×Int):C:=.fy [fJ r.1,I r.2]
def yd(c:List (List Int)):Bool:=c.all (λr=>r.length == 6) && decide (1<=c.length) && decide (c.length<=8)
def LI(h:(rows.all λr=>r.all λc=>jV c && zF c)=true):∀r∈rows,∀c∈r,jV c=true/\zF c=true:=λr hr c hc=>by
 have:=pG.1 (pG.1 h r hr) c hc;simpa using this
def shut_map{enc:α->List C}(h:∀x,(enc x).all (λc=>jV c && zF c)=true)(l:List α):∀r∈l.map enc,∀c∈r,jV c=true/\zF c=true:=
 LI (by rw[List.all_map];exact pG.2 λx _=>h x)
def qi{n ty sz fz:Nat}(h:∀r∈rows,∀c∈r,qE n 9 c=true):qj n [⟨1,ty,sz,rows,fz⟩]=true:=by
 unfold qj;simp only[sZ,ed,ux];simp;exact h
def WH(a b:α){k n:Nat}(h:k<n):(List.replicate k a++List.replicate (n-k) b).set k a=List.replicate (k+1) a++List.replicate (n-(k+1)) b:=by
 rw[eF _ _ ah];have e:n-k=(n-(k+1))+1:=an
 simp only[tj,sM];rw[e,tx,List.set_cons_zero,sX,sa]
 rfl
def WG(a b:α){k n:Nat}(h:k<n):(List.replicate k a++List.replicate (n-k) b)[k]?=some b:=by
 rw[pR ah];simp only[tj,sM];have e:n-k=(n-(k+1))+1:=an
 rw[e,tx]
 rfl
def OO(n:Int):th 63 [] [I n] (NQ (wT n)) []:=by
 refine ab func63 ?_;refine⟨λh1=>?_,λh1=>?_⟩
 .have e:wT n=([],1):=by unfold wT;rw[pD (by simp at h1;omega)]
  rw[e];refine zac ?_
  exact dN
 refine dd ?_;refine⟨λh2=>?_,λh2=>?_⟩
 .have e:wT n=([],1):=by unfold wT;rw[pD aD]
  rw[e];refine zac ?_
  exact dN
 have b1:1<=n/\n<=8:=cp
 have e:wT n=(List.replicate n.toNat [0,0,0,0,0,0],0):=by unfold wT;rw[pA an]
 rw[e];refine dd ?_;refine⟨rfl,an,by show(24:Int)*n<=_;omega,an,dd ?_⟩;refine zH.seq n.toNat (λk=>(I n::.za::.fq 1 0 []::I 0::.sl 0 [] 1 0 n.toNat false::mL (.za::.za::I n.toNat::I k::mL ([])))) (λk=>[⟨1,0,1,(List.replicate k [lU [0,0,0,0,0,0]]++List.replicate (n.toNat-k) [C.fq 1 0 []]),0⟩]) (λk=>True) ?_ trivial (λk hk hr=>?_) (λhr=>?_)
 .refine zl.trans (zl.Bw 0 V (by intro r hr c hc;rw[rS hr]at hc;rw[rH.1 hc];rfl)) ?_;exact cC
 .conv=>whnf
  refine uF ?_;refine⟨rfl,aj,by show(8:Int)*6<=_;decide,aj,dd ?_⟩;refine⟨an,ar,dd ?_⟩;have e1:0+(k:Int).toNat=k:=ah
  rw[e1];refine⟨_,WG _ _ hk,rfl,dd ?_⟩;refine zap ?_;refine zl.trans (zl.zN 0 k 0 (r:=[.sl 1 [] 1 0 6 false]) V (by rw[pM,pD V,pD ar];rfl) V V (.inr V) V V ?_ ?_) ?_
  .exact LI (rows:=List.replicate 6 [U 0]) V
  .intro r hr c hc;rcases rU hr with hr|rfl
   .rcases pS.1 hr with hr|hr <;> (rw[rS hr]at hc;rw[rH.1 hc];rfl)
   .rw[rH.1 hc];rfl
  .have e3:(List.replicate k [lU [0,0,0,0,0,0]]++List.replicate (n.toNat-k) [C.fq 1 0 []]).set k [lU [0,0,0,0,0,0]]=(List.replicate (k+1) [lU [0,0,0,0,0,0]]++List.replicate (n.toNat-(k+1)) [C.fq 1 0 []]):=WH _ _ hk;rw[rb,<-e3,zk an];refine zl.jd 1 ta V V V (qi (rows:=(List.replicate k [lU [0,0,0,0,0,0]]++List.replicate (n.toNat-k) [C.fq 1 0 []]).set k [lU [0,0,0,0,0,0]]) λr hr c hc=>?_) V;rw[e3]at hr;rcases pS.1 hr with hr|hr <;> (rw[rS hr]at hc;rw[rH.1 hc];rfl)
 .refine uD ?_;have e4:(List.replicate n.toNat [(0:Int),0,0,0,0,0]).map zA=(List.replicate n.toNat [lU [0,0,0,0,0,0]]++List.replicate (n.toNat-n.toNat) [C.fq 1 0 []]):=by rw[e6,sM,List.replicate_zero,sY];rfl
  have sh:∀r∈(List.replicate n.toNat [lU [0,0,0,0,0,0]]++List.replicate (n.toNat-n.toNat) [C.fq 1 0 []]),∀c∈r,jV c=true/\zF c=true:=by
   rw[sM,List.replicate_zero,sY];intro r hr c hc;rw[rS hr]at hc;rw[rH.1 hc];exact gO
  refine⟨.inl V,_,zl.FP 2 V V (.inl V) ah sh,?_⟩;rw[<-e4]
  rfl
def O8(c:List (List Int))(hc:c.length<4000000000000000000):th 279 [] [fJ c] (Bo (yd c)) []:=by
 have m1:(c.map zA).length=c.length:=pz ..;refine ab func279 ?_;rw[m1];refine zH.seq c.length (λk=>((fJ c)::.za::Bo false::.za::.za::(fJ c)::I c.length::I k::mL ([.za,.za,.za,.za,.za,.za,.za]))) (λk=>[]) (λk=>∀j,(h:j<c.length)->j<k->(c[j].length == 6)=true) ?_ ah (λk hk hr=>?_) (λhr=>?_)
 .exact cC
 .obtain⟨x,hx⟩:∃x,x=c[k]:=⟨_,rfl⟩;have hg:(c.map zA)[k]?=some (zA x):=by rw[pw,pq hk,hx];rfl
  have mx:(x.map qD).length=x.length:=pz ..;conv=>whnf
  refine zaD ?_
  rw[mx];refine⟨λh1=>?_,λh1=>?_⟩
  .have hf:c.all (λr=>r.length == 6)=false:=by
    rw[so];exact⟨x,bJ,by simp at h1|-;omega⟩
   have e:yd c=false:=by unfold yd;rw[hf];rfl
   rw[e];refine zbV ?_
   exact uI
  .refine dd ?_;refine .inl ⟨rfl,?_,λj hj hjk=>?_⟩
   .exact dK
   .by_cases e:j=k
    .subst e;rw[<-hx];simp at h1|-;omega
    .exact gE
 .have ht:c.all (λr=>r.length == 6)=true:=by
   rw[pG];intro r hr';obtain⟨j,hj,rfl⟩:=pU.1 hr';exact hr j hj hj
  have e:yd c=(decide (1<=c.length) && decide (c.length<=8)):=by unfold yd;rw[ht];rfl
  rw[e];refine uD ?_;rw[m1];refine⟨λh1=>?_,λh1=>?_⟩
  .refine dd ?_;rw[m1];refine⟨λh2=>?_,λh2=>?_⟩
   .refine zac ?_
    (exact⟨.inl V,_,.refl _,uN (by symm;simp at h1 h2|-;omega)⟩)
   .refine zac ?_
    (exact⟨.inl V,_,.refl _,uN (by symm;simp at h1 h2|-;omega)⟩)
  .refine zac ?_
   (exact⟨.inl V,_,.refl _,uN (by symm;simp at h1|-;omega)⟩)
abbrev Cw(w:Wor):C:=.agg (xc w)
abbrev tW(r:Wor×Int):C:=.fy [Cw r.1,I r.2]
abbrev nV:Wor:=⟨0,0,0,[],[],[],[],[]⟩
def yS(s:fB):fO:=⟨s,false,0,false⟩
def An(l:List fB)(i:Nat):Bool:=match l[i]? with
 |some s=>jS s && decide (zZ ((l.take i).map yS) s<0)
 |none=>true
def k8(l:List fB):Bool:=(List.range l.length).all (An l)
def k9(s:Sna)(l:List fB)(n:Int):Wor×Int:=
 if yO s=false\/n<1\/8<n\/k8 l=false then (nV,1)
 else (⟨0,0,0,List.replicate n.toNat 0,[(qf s).1],l.map yS,List.replicate n.toNat [0,0,0,0,0,0],[]⟩,0)
def TS(s:Sna)(l:List fB)(n:Int)(hs:y6 s)(hl:l.length<1000000000/\∀x∈l,x.length<4000000000000000000):th 26 [] [Cs s,lT l,I n] (tW (k9 s l n)) []:=by
 have m1:(l.map z7).length=l.length:=pz ..;have cs:=JK s hs;refine ab func26 ?_;by_cases h0:yO s=true
 rotate_left
 .have e:k9 s l n=(nV,1):=by unfold k9;rw[pD (.inl (ai h0))]
  have e2:qf s=(Dt,1):=by unfold qf;rw[pA h0]
  rw[e2]at cs;have cs:th 62 [] [Cs s] (.fy [Cv Dt,I 1]) []:=cs;rw[e];refine af cs ?_;refine td ?_
  exact dm
 have e2:qf s=((qf s).1,0):=by unfold qf;rw[pD h0]
 rw[e2]at cs;have cs:th 62 [] [Cs s] (.fy [Cv (qf s).1,I 0]) []:=cs;have hn:=OO n;refine af cs ?_;refine td ?_
 by_cases h1:n<1\/8<n
 .have e:k9 s l n=(nV,1):=by unfold k9;rw[pD an]
  have e3:wT n=([],1):=by unfold wT;rw[pD h1]
  rw[e3]at hn;have hn:th 63 [] [I n] (.fy [fJ [],I 1]) []:=hn;rw[e];refine af hn ?_;refine td ?_
  exact dm
 have e3:wT n=(List.replicate n.toNat [0,0,0,0,0,0],0):=by unfold wT;rw[pA h1]
 rw[e3]at hn;have hn:th 63 [] [I n] (.fy [fJ (List.replicate n.toNat [0,0,0,0,0,0]),I 0]) []:=hn;refine af hn ?_;refine td ?_
 refine .inl ⟨⟨false,[0,3],[2],[]⟩,ak,uH ?_⟩;refine⟨rfl,an,by show(8:Int)*n<=_;omega,an,dd ?_⟩;refine tc ?_
 rw[m1];have hb:k8 l=false->k9 s l n=(nV,1):=λh=>by unfold k9;rw[pD (.inr (.inr (.inr h)))]
 refine zH.seq l.length (λk=>(.za::.za::.za::.ref 0 [] 3 0 0:: .za::.za::.ref 1 [] 8 0 0::I 0:: .za::.za::.za::.ref 3 [] 8 0 0:: .za::.za::mL (mL (mL (lT l::I l.length::I k:: .za::.za::.za::.za::.za::.za::.za::mL (mL ([]))))))) (λk=>[⟨1,86,3,[qV s],0⟩,⟨1,38,8,[fW],0⟩,⟨1,106,5,[zt (qf s).1],0⟩,⟨1,38,8,[[I 0,I 0,I 0,.fq 0 1 (List.replicate n.toNat [I 0]),.fq 1 5 [zt (qf s).1],.gl 4 4 (((l.take k).map yS).map zT),fJ (List.replicate n.toNat [0,0,0,0,0,0]),.fq 1 0 []]],0⟩,⟨4,98,4,((l.take k).map yS).map zT,0⟩]) (λk=>∀j,j<k->An l j=true) ?_ ah (λk hk hr=>?_) (λhr=>?_)
 .refine zl.trans (zl.qN 3 5 98 4 V V (.inl V) V V) ?_;exact cC
 .obtain⟨x,hx⟩:∃x,x=l[k]:=⟨_,rfl⟩;have hx2:l[k]?=some x:=by rw[pq hk,hx]
  have hg:(l.map z7)[k]?=some (z7 x):=by rw[pw,hx2];rfl
  have hxm:x∈l:=bJ
  have hno:An l k=(jS x && decide (zZ ((l.take k).map yS) x<0)):=by unfold An;rw[hx2]
  have bad:An l k=false->k9 s l n=(nV,1):=λh=>hb (by unfold k8;rw[so];exact⟨k,ai hk,aA⟩)
  have hlg:(((l.take k).map yS).map zT).length=k:=ar
  have eg:((l.take (k+1)).map yS).map zT=((l.take k).map yS).map zT++[zT (yS x)]:=bM
  conv=>whnf
  refine zaD ?_
  refine af (yE x (by have:=hl.2 x hxm;omega)) ?_;refine⟨λh2=>?_,λh2=>?_⟩
  rotate_left
  .rw[bad (by rw[hno,h2];rfl)];refine zac ?_
   refine zaw ?_
   exact dm
  refine dd ?_;refine af (vr ((l.take k).map yS) x ar) ?_;refine⟨λh3=>?_,λh3=>?_⟩
  .rw[bad c7];refine zac ?_
   refine zaw ?_
   exact dm
  refine zac ?_
  refine⟨rfl,.inr V,bN,by rw[hlg];show(k+1)*40<=_;omega,dd ?_⟩;refine .inl ⟨rfl,?_,λj hj=>?_⟩
  .rw[zk an,eg];exact cE 5
  .by_cases e:j=k
   .subst e;rw[hno,h2];simp at h3|-;omega
   .exact hr j an
 .have qd:k8 l=true:=by
   unfold k8;rw[pG];intro i hi;exact hr i (ai hi)
  have e:k9 s l n=(⟨0,0,0,List.replicate n.toNat 0,[(qf s).1],l.map yS,List.replicate n.toNat [0,0,0,0,0,0],[]⟩,0):=by unfold k9;rw[pA (by simp only[h0,qd];simp;omega)]
  rw[e];refine uD ?_;rw[pQ];refine zcb ?_
  have e9:xc ⟨0,0,0,List.replicate n.toNat 0,[(qf s).1],l.map yS,List.replicate n.toNat [0,0,0,0,0,0],[]⟩=[I 0,I 0,I 0,.fq 0 1 (List.replicate n.toNat [I 0]),.fq 0 5 [zt (qf s).1],lL (l.map yS),fJ (List.replicate n.toNat [0,0,0,0,0,0]),.fq 0 3 []]:=by
   have e8:(List.replicate n.toNat (0:Int)).map encI=List.replicate n.toNat [I 0]:=e6;show [I 0,I 0,I 0,C.fq 0 1 ((List.replicate n.toNat (0:Int)).map encI),_,_,_,_]=_;rw[e8]
   rfl
  show _=some (C.fy [C.agg (xc ⟨0,0,0,List.replicate n.toNat 0,[(qf s).1],l.map yS,List.replicate n.toNat [0,0,0,0,0,0],[]⟩),I 0]);rw[e9]
  rfl
end Go.Wor
namespace Go.Wor
open Go.Ab Go.Proofs Tryz Go.Hy Go.Gat Go.Nam Go.Hos Go.Con Go.Sna
variable{α:Type}{F:List (List C)}{z args caps:List C}{x:Ob}{P:Program}{f:FuncId}{enc:α->List C}{H:zq}{p:C->Bool}{v e g t:Nat}{g0:Gr}{e0:En}{v0:fC}{r0 l:List Int}
def jX{k n:Nat}(hF:F.length=n)(h:k<n):(F.take k++(List.replicate n z).drop k)[k]?=some z:=by
 rw[pR ar,sI,rM,ua,pD an]
def qZ{x:List C}{k n:Nat}(hx:F[k]?=some x)(hn:k<n):(F.take k++(List.replicate n z).drop k).set k x=F.take (k+1)++(List.replicate n z).drop (k+1):=by
 obtain⟨hk,rfl⟩:=px.1 hx;have e1:(F.take k).length=k:=ar
 rw[eF _ _ an,e1,sM,List.drop_replicate,List.drop_replicate,ru hk,sa];have e2:n-k=(n-(k+1))+1:=an
 rw[e2,tx]
 rfl
def vj{n:Nat}(hF:F.length=n):F.take n++(List.replicate n z).drop n=F:=by
 rw[sq an,List.drop_of_length_le ah,sY]
def LC(x:Int)(l:List Int)(hl:l.length<1000000000):th 223 [] [lI (x::l)] (.sl 0 [] 1 0 (x::l).length false) [⟨2,3,1,(x::l).map encI,0⟩]:=by
 have e:0+((l.map encI).length+1)=(x::l).length:=ah
 rw[<-e];refine zb.zX (fn:=f223) func223 V (uH ?_);exact zcz
def vy(l:List Int)(hl:l.length<1000000000):th 223 [] [lI l] (lI l) []:=by
 cases l with
 |nil=>
  refine ab func223 ?_;refine⟨?_,?_⟩
  .refine dd ?_;exact dN
  .exact zco
 |cons x l=>
  have hl3:l.length+1<1000000000:=ai hl
  refine ab func223 ?_;refine zb6 ?_;refine .inr ⟨.inl V,aq,aL,uH ?_⟩;exact gi
def VG(x:Int)(l:List Int)(hl:l.length<1000000000):th 270 [] [lU (x::l)] (.sl 0 [] 1 0 (x::l).length false) [⟨2,52,1,(x::l).map qD,0⟩]:=by
 have e:0+((l.map qD).length+1)=(x::l).length:=ah
 rw[<-e];refine zb.zX (fn:=f270) func270 V (uH ?_);exact zcz
def VH(l:List Int)(hl:l.length<1000000000):th 270 [] [lU l] (lU l) []:=by
 cases l with
 |nil=>
  refine ab func270 ?_;refine⟨?_,?_⟩
  .refine dd ?_;exact dN
  .exact zco
 |cons x l=>
  have hl3:l.length+1<1000000000:=ai hl
  refine ab func270 ?_;refine zb6 ?_;refine .inr ⟨.inl V,aq,aL,uH ?_⟩;exact gi
def VF(x:fO)(l:List fO)(hl:l.length<1000000000):th 226 [] [lL (x::l)] (.sl 0 [] 4 0 (x::l).length false) [⟨2,98,4,(x::l).map zT,0⟩]:=by
 have e:0+((l.map zT).length+1)=(x::l).length:=ah
 rw[<-e];refine zb.zX (fn:=f226) func226 V (uH ?_);refine zb6 ?_;refine .inr ⟨.inl V,aq,cG,uH ?_⟩;exact uJ
def kA(l:List fO)(hl:l.length<1000000000):th 226 [] [lL l] (lL l) []:=by
 cases l with
 |nil=>
  refine ab func226 ?_;refine⟨?_,?_⟩
  .refine dd ?_;exact⟨.inl V,_,zl.cell 2 V (WC.nil 0 4),rfl⟩
  .refine dd ?_;refine .inr ⟨rfl,dd ?_⟩;exact⟨.inl V,_,zl.cell 2 V ((WC.none 1 4 4).trans (WC.share 1 4 [])),rfl⟩
 |cons x l=>
  have hl3:l.length+1<1000000000:=ai hl
  refine ab func226 ?_;refine zb6 ?_;refine .inr ⟨.inl V,aq,cG,uH ?_⟩;exact gi
def LD(x:fK)(l:List fK)(hl:l.length<1000000000):th 229 [] [lR (x::l)] (.sl 0 [] 3 0 (x::l).length false) [⟨2,157,3,(x::l).map qk,0⟩]:=by
 have e:0+((l.map qk).length+1)=(x::l).length:=ah
 rw[<-e];refine zb.zX (fn:=f229) func229 V (uH ?_);refine zb6 ?_;refine .inr ⟨.inl V,aq,bQ,uH ?_⟩;exact uJ
def BY(l:List fK)(hl:l.length<1000000000):th 229 [] [lR l] (lR l) []:=by
 cases l with
 |nil=>
  refine ab func229 ?_;refine⟨?_,?_⟩
  .refine dd ?_;exact⟨.inl V,_,zl.cell 2 V (WC.nil 0 3),rfl⟩
  .refine dd ?_;refine .inr ⟨rfl,dd ?_⟩;exact⟨.inl V,_,zl.cell 2 V ((WC.none 1 3 3).trans (WC.share 1 3 [])),rfl⟩
 |cons x l=>
  have hl3:l.length+1<1000000000:=ai hl
  refine ab func229 ?_;refine zb6 ?_;refine .inr ⟨.inl V,aq,bQ,uH ?_⟩;exact gi
def Kd(e:En)(he:e.next.length<1000000000):th 288 [] [.agg [],.agg (zx e)] (.agg (zx e)) []:=by
 refine ab func288 ?_;refine af (vy e.next he) ?_;exact uI
def VY(l:List En)(hl:l.length<1000000000)(hp:∀x∈l,th 288 [] [.agg [],.agg (zx x)] (.agg (zx x)) []):th 287 [] [lE l,.fn 288 [] [],.agg []] (.sl 0 [] 3 0 l.length false) [⟨2,151,3,l.map zx,0⟩]:=by
 have m1:(l.map zx).length=l.length:=pz ..;refine zb.zX (fn:=f287) func287 V (uH ?_);rw[m1];refine⟨rfl,an,by show(40:Int)*_<=_;omega,an,dd ?_⟩;rw[m1,toNat_cast];refine zH.seq l.length (λk=>((lE l)::.fn 288 [] []::.za::.za::.za::.ref 0 [] 0 0 0::.fq 1 0 []::.sl 1 [] 3 0 l.length false::.za::.za::.za::.za::.za::(lE l)::I l.length::I k::mL ([.za,.za,.za,.za,.za]))) (λk=>[⟨1,259,0,[[]],0⟩,⟨2,151,3,(l.map zx).take k++(List.replicate l.length [U 0,.fq 1 0 [],I 0]).drop k,0⟩]) (λk=>True) ?_ trivial (λk hk hr=>?_) (λhr=>?_)
 .exact cC
 .obtain⟨x,hx⟩:∃x,x=l[k]:=⟨_,rfl⟩;have hx2:l[k]?=some x:=by rw[pq hk,hx]
  have hg:(l.map zx)[k]?=some (zx x):=by rw[pw,hx2];rfl
  conv=>whnf
  refine zaD ?_
  refine af (hp x uY) ?_;refine⟨an,ar,dd ?_⟩;have e1:0+(k:Int).toNat=k:=ah
  rw[e1];refine⟨_,jX ah hk,rfl,dd ?_⟩;refine zap ?_;have e2:=qZ (z:=[U 0,.fq 1 0 [],I 0]) (n:=l.length) hg hk;rw[zk an,<-e2];exact cE 2
 .exact gh
def zB{r:List C}(h:r.all zF=true):∀q∈[r],∀c∈q,zF c=true:=λq hq c hc=>by
 rw[rH.1 hq]at hc;exact pG.1 h c hc
def Ij(g:Gr):Prop:=g.ends.length<1000000000/\∀e∈g.ends,e.next.length<1000000000
def EX(v:fC):Prop:=v.zg.length<1000000000/\∀g∈v.zg,Ij g
structure z6(w:Wor):Prop where
 pins:w.pins.length<1000000000
 zd:w.zd.length<1000000000/\∀v∈w.zd,EX v
 zc:w.zc.length<1000000000
 counts:w.counts.length<1000000000/\∀r∈w.counts,r.length<1000000000
 zn:w.zn.length<1000000000
def I7(g:Gr)(hg:Ij g):th 269 [] [.agg [],.agg (zy g)] (.agg (zy g)) []:=by
 refine ab func269 ?_;refine ae [] (VY g.ends hg.1 λe he=>Kd e (hg.2 e he)) ?_;exact⟨.inl V,_,zl.zN 2 0 1 V V V V (.inr V) V ah (shut_map (enc:=zx) (λ_=>V) g.ends) (zB V),rfl⟩
def V0(l:List Gr)(hl:l.length<1000000000)(hp:∀x∈l,th 269 [] [.agg [],.agg (zy x)] (.agg (zy x)) []):th 268 [] [lG l,.fn 269 [] [],.agg []] (.sl 0 [] 2 0 l.length false) [⟨2,111,2,l.map zy,0⟩]:=by
 have m1:(l.map zy).length=l.length:=pz ..;refine zb.zX (fn:=f268) func268 V (uH ?_);rw[m1];refine⟨rfl,an,by show(32:Int)*_<=_;omega,an,dd ?_⟩;rw[m1,toNat_cast];refine zH.seq l.length (λk=>((lG l)::.fn 269 [] []::.za::.za::.za::.ref 0 [] 0 0 0::.fq 1 0 []::.sl 1 [] 2 0 l.length false::.za::.za::.za::.za::.za::(lG l)::I l.length::I k::mL ([.za,.za,.za,.za,.za]))) (λk=>[⟨1,259,0,[[]],0⟩,⟨2,111,2,(l.map zy).take k++(List.replicate l.length ([U 0,.fq 1 0 []]:List C)).drop k,0⟩]) (λk=>True) ?_ trivial (λk hk hr=>?_) (λhr=>?_)
 .exact cC
 .obtain⟨x,hx⟩:∃x,x=l[k]:=⟨_,rfl⟩;have hx2:l[k]?=some x:=by rw[pq hk,hx]
  have hg:(l.map zy)[k]?=some (zy x):=by rw[pw,hx2];rfl
  conv=>whnf
  refine zaD ?_
  refine af (hp x uY) ?_;refine⟨an,ar,dd ?_⟩;have e1:0+(k:Int).toNat=k:=ah
  rw[e1];refine⟨_,jX ah hk,rfl,dd ?_⟩;refine zap ?_;have e2:=qZ (z:=([U 0,.fq 1 0 []]:List C)) (n:=l.length) hg hk;rw[zk an,<-e2];exact cE 2
 .exact gh
def jG(v:fC)(hv:EX v):th 225 [] [.agg [],.agg (zt v)] (.agg (zt v)) []:=by
 refine ab func225 ?_;refine ae [] (V0 v.zg hv.1 λg hg=>I7 g (hv.2 g hg)) ?_;exact⟨.inl V,_,zl.zN 2 0 3 V V V V (.inr V) V ah (shut_map (enc:=zy) (λ_=>V) v.zg) (zB V),rfl⟩
def AO(l:List fC)(hl:l.length<1000000000)(hp:∀x∈l,th 225 [] [.agg [],.agg (zt x)] (.agg (zt x)) []):th 224 [] [lV l,.fn 225 [] [],.agg []] (.sl 0 [] 5 0 l.length false) [⟨2,106,5,l.map zt,0⟩]:=by
 have m1:(l.map zt).length=l.length:=pz ..;refine zb.zX (fn:=f224) func224 V (uH ?_);rw[m1];refine⟨rfl,an,by show(104:Int)*_<=_;omega,an,dd ?_⟩;rw[m1,toNat_cast];refine zH.seq l.length (λk=>((lV l)::.fn 225 [] []::.za::.za::.za::.ref 0 [] 0 0 0::.fq 1 0 []::.sl 1 [] 5 0 l.length false::.za::.za::.za::.za::.za::(lV l)::I l.length::I k::mL ([.za,.za,.za,.za,.za]))) (λk=>[⟨1,259,0,[[]],0⟩,⟨2,106,5,(l.map zt).take k++(List.replicate l.length ([.fq 1 0 [],.fq 1 0 [],.fq 1 0 [],.fq 1 0 [],Bo false]:List C)).drop k,0⟩]) (λk=>True) ?_ trivial (λk hk hr=>?_) (λhr=>?_)
 .exact cC
 .obtain⟨x,hx⟩:∃x,x=l[k]:=⟨_,rfl⟩;have hx2:l[k]?=some x:=by rw[pq hk,hx]
  have hg:(l.map zt)[k]?=some (zt x):=by rw[pw,hx2];rfl
  conv=>whnf
  refine zaD ?_
  refine af (hp x uY) ?_;refine⟨an,ar,dd ?_⟩;have e1:0+(k:Int).toNat=k:=ah
  rw[e1];refine⟨_,jX ah hk,rfl,dd ?_⟩;refine zap ?_;have e2:=qZ (z:=([.fq 1 0 [],.fq 1 0 [],.fq 1 0 [],.fq 1 0 [],Bo false]:List C)) (n:=l.length) hg hk;rw[zk an,<-e2];exact cE 2
 .exact gh
def yc(r:List Int)(hr:r.length<1000000000):th 228 [] [.agg [],lU r] (lU r) []:=by
 refine ab func228 ?_;refine af (VH r hr) ?_;exact uI
def Ku(H':zq)(ρ:Nat->Nat):∀(i:Nat) (K:zq),nP [] H' ρ i K=K
 |_,[]=>rfl
 |i,ob::K=>by unfold nP;rw[Ku H' ρ (i+1) K];rfl
def Al{r:C}{H':zq}(h:zb P f [] args r H')(hR:qL H'=true)(ha:args.map (jQ [] 9)=args)(H:zq)(hf:qL H=true):
  zb P f H args (yT (q8 [] H.length) 9 r) (H++H'.map (zL (q8 [] H.length))):=by
 have:=h.part [] hR (K:=H) V ha V V hf;have e:wP [] H H'=H++H'.map (zL (q8 [] H.length)):=by unfold wP;rw[Ku];rfl
 rwa [e]at this
def Ec{f:C->C}(hf:∀x,(enc x).map f=enc x)(l:List α)(v:Nat)(row:List C):(((l.map enc).set v row).map λr=>r.map f)=(l.map enc).set v (row.map f):=by
 rw[sA,sJ]
 congr 1
 exact sQ λx _=>hf x
def qc{n:Nat}(h1:qj n [x]=true)(h2:qj n H=true):qj n (x::H)=true:=by
 unfold qj at *;simp only[sZ,ed,ux] at *;rw[h1,h2];rfl
def ze(h1:qL [x]=true)(h2:qL H=true):qL (x::H)=true:=by
 unfold qL at *;simp only[sZ,ed,ux] at *;rw[h1,h2];rfl
def zf{ty sz fz:Nat}{rows:List (List C)}(h:∀r∈rows,∀c∈r,zF c=true):qL [⟨1,ty,sz,rows,fz⟩]=true:=by
 unfold qL;simp only[sZ,ed,ux];rw[pG]
 exactλr hr=>pG.2 λc hc=>h r hr c hc
def zE(h:∀x,(enc x).all p=true){row:List C}(hr:row.all p=true)(l:List α)(v:Nat):∀r∈(l.map enc).set v row,∀c∈r,p c=true:=λr hm c hc=>by
 rcases rU hm with hm|rfl
 .obtain⟨x,_,rfl⟩:=rp.1 hm;exact pG.1 (h x) c hc
 .exact pG.1 hr c hc
def kC(h:∀x,(enc x).all p=true){row:List C}(hz:z.all p=true)(l:List α){k:Nat}(n:Nat)(hr:k<=v\/row.all p=true):∀r∈((l.map enc).set v row).take k++(List.replicate n z).drop k,∀c∈r,p c=true:=λr hm c hc=>by
 rcases pS.1 hm with hm|hm
 .rcases hr with hr|hr
  .rw[List.take_set_of_le hr]at hm;obtain⟨x,_,rfl⟩:=rp.1 (pF hm);exact pG.1 (h x) c hc
  .exact zE h hr l v r (pF hm) c hc
 .rw[rS (tt hm)]at hc;exact pG.1 hz c hc
def RX(e0:En)(x:Int)(l:List Int)(he:e0.next=x::l)(hl:l.length<1000000000):th 288 [] [.agg [],.agg (zx e0)] (.agg (fL 0 e0)) [oN e0]:=by
 have h1:th 288 [] [.agg [],.agg (zx e0)] (.agg (fL 3 e0)) [⟨1,259,0,[[]],0⟩,⟨1,151,3,[fL 3 e0],0⟩,⟨1,151,3,[fL 3 e0],0⟩,oN e0]:=by
  have hc:=LC x l hl;rw[<-he]at hc;refine zb.zX (fn:=f288) func288 V (uH ?_);refine ae [] (hc) ?_;exact uJ
 exact h1.ng (λB h _=>zl.fD [3] [0] _ _ tY V V V) (pW _)
def VN(e0:En)(x:Int)(l:List Int)(he:e0.next=x::l)(hl:l.length<1000000000)(H:zq)(hf:qL H=true):th 288 H [.agg [],.agg (zx e0)] (.agg ([U e0.head,C.sl H.length [] 1 0 e0.next.length false,I e0.zo])) (H++[oN e0]):=
 Al (RX e0 x l he hl) V V H hf
def zI{sel:List Nat}(hf:∀x,(enc x).map (jQ sel 9)=enc x)(l:List α)(v:Nat)(row:List C)(ty sz fz:Nat):zJ sel ⟨1,ty,sz,(l.map enc).set v row,fz⟩=⟨1,ty,sz,(l.map enc).set v (row.map (jQ sel 9)),fz⟩:=by
 show(⟨1,ty,sz,((l.map enc).set v row).map (λr=>r.map (jQ sel 9)),fz⟩:Ob)=_;rw[Ec hf]
def zD{ρ:Nat->Nat}(hf:∀x,(enc x).map (yT ρ 9)=enc x)(l:List α)(v:Nat)(row:List C)(ty sz fz:Nat):zL ρ ⟨1,ty,sz,(l.map enc).set v row,fz⟩=⟨1,ty,sz,(l.map enc).set v (row.map (yT ρ 9)),fz⟩:=by
 show(⟨1,ty,sz,((l.map enc).set v row).map (λr=>r.map (yT ρ 9)),fz⟩:Ob)=_;rw[Ec hf]
def VJ(l:List En)(e:Nat)(e0:En)(hv:l[e]?=some e0)(hl:l.length<1000000000)(hp:∀x∈l,th 288 [] [.agg [],.agg (zx x)] (.agg (zx x)) [])
 (hA:∀H,qL H=true->th 288 H [.agg [],.agg (zx e0)] (.agg ([U e0.head,C.sl H.length [] 1 0 e0.next.length false,I e0.zo])) (H++[oN e0])):
  th 287 [] [lE l,.fn 288 [] [],.agg []] (.sl 0 [] 3 0 l.length false) [⟨1,0,3,(l.map zx).set e (fL 1 e0),0⟩,oN e0]:=by
 have m1:(l.map zx).length=l.length:=pz ..;have hvl:=(px.1 hv).1
 have h1:th 287 [] [lE l,.fn 288 [] [],.agg []] (.sl 1 [] 3 0 l.length false) [⟨1,259,0,[[]],0⟩,⟨1,0,3,(l.map zx).set e (fL 3 e0),0⟩,oD e0,oN e0]:=by
  refine zb.zX (fn:=f287) func287 V (uH ?_);rw[m1];refine⟨rfl,an,by show(40:Int)*_<=_;omega,an,dd ?_⟩;rw[m1,toNat_cast];have ZZ:List C:=([U 0,.fq 1 0 [],I 0]:List C);refine zH.seq l.length (λk=>((lE l)::.fn 288 [] []::.za::.za::.za::.ref 0 [] 0 0 0::.fq 1 0 []::.sl 1 [] 3 0 l.length false::.za::.za::.za::.za::.za::(lE l)::I l.length::I k::mL ([.za,.za,.za,.za,.za]))) (λk=>if k<=e then [⟨1,259,0,[[]],0⟩,⟨1,0,3,((l.map zx).set e (fL 3 e0)).take k++(List.replicate l.length ([U 0,.fq 1 0 [],I 0]:List C)).drop k,0⟩] else [⟨1,259,0,[[]],0⟩,⟨1,0,3,((l.map zx).set e (fL 3 e0)).take k++(List.replicate l.length ([U 0,.fq 1 0 [],I 0]:List C)).drop k,0⟩,oD e0,oN e0]) (λk=>True) ?_ trivial (λk hk hr=>?_) (λhr=>?_)
  .rw[pD (pW _)];refine zl.trans (zl.Bw 1 V λr hr c hc=>?_) (cC);rw[rS hr]at hc;exact pG.1 (rfl:([U 0,.fq 1 0 [],I 0]:List C).all zF=true) c hc
  .obtain⟨x,hx⟩:∃x,x=l[k]:=⟨_,rfl⟩;have hx2:l[k]?=some x:=by rw[pq hk,hx]
   have hxm:x∈l:=bJ
   have hg:(l.map zx)[k]?=some (zx x):=by rw[pw,hx2];rfl
   have e1:0+(k:Int).toNat=k:=ah
   have low:∀n j,j<=e\/3<n->∀r∈((l.map zx).set e (fL 3 e0)).take j++(List.replicate l.length ([U 0,.fq 1 0 [],I 0]:List C)).drop j,∀c∈r,qE n 9 c=true:=λn j h=>kC (enc:=zx) (λ_=>V) V l l.length (h.imp_right λh=>by simp[qE,qV];omega)
   have own:∀j,∀r∈((l.map zx).set e (fL 3 e0)).take j++(List.replicate l.length ([U 0,.fq 1 0 [],I 0]:List C)).drop j,∀c∈r,zF c=true:=λj=>kC (enc:=zx) (λ_=>V) V l l.length (.inr V)
   by_cases hkv:k=e
   .subst hkv;obtain rfl:e0=x:=by rw[hv]at hx2;exact rV hx2
    have hF:((l.map zx).set k (fL 3 e0))[k]?=some (fL 3 e0):=by rw[pM,pD V,pD (ai hk)]
    rw[pD (pN _),pA an];conv=>whnf
    refine zaD ?_
    exact zcr
   .have hF:((l.map zx).set e (fL 3 e0))[k]?=some (zx x):=by rw[rC (λh=>hkv h.symm)];exact hg
    by_cases ft:k<e
    .rw[pD an,pD an];conv=>whnf
     refine zaD ?_
     refine zaH ?_;refine zl.jd 2 ta V V V (qc V (qi ?_)) V;have lw:=low 2 (k+1) (.inl an);rw[<-qZ (z:=([U 0,.fq 1 0 [],I 0]:List C)) (n:=l.length) hF hk]at lw;exact lw
    .rw[pA an,pA an];conv=>whnf
     refine zaD ?_
     refine zaH ?_;refine zl.jd 4 ta V V V (qc V (qc (qi ?_) (qc V V))) V;have lw:=low 4 (k+1) (.inr an);rw[<-qZ (z:=([U 0,.fq 1 0 [],I 0]:List C)) (n:=l.length) hF hk]at lw;exact lw
  .exact pn
 refine h1.ng (λB h _=>?_) (pW _);have hw:=zl.fD (B:=B) [1,3] [0] [.sl 1 [] 3 0 l.length false] [⟨1,259,0,[[]],0⟩,⟨1,0,3,(l.map zx).set e (fL 3 e0),0⟩,oD e0,oN e0] tY V V (ze V (ze (zf (zE (enc:=zx) (λ_=>V) V l e)) (ze V V)))
 have e:xC [1,3] [⟨1,259,0,[[]],0⟩,⟨1,0,3,(l.map zx).set e (fL 3 e0),0⟩,oD e0,oN e0]=[⟨1,0,3,(l.map zx).set e (fL 1 e0),0⟩,oN e0]:=by
  show zJ [1,3] ⟨1,0,3,(l.map zx).set e (fL 3 e0),0⟩::_=_;rw[zI (enc:=zx) (λ_=>V)]
  rfl
 rw[e]at hw;exact hw
structure EV(g0:Gr)(e:Nat)(e0:En):Prop where
 sm:Ij g0
 at_:g0.ends[e]?=some e0
 ne:e0.next≠[]
def VX(h:EV g0 e e0)(H:zq)(hf:qL H=true):th 287 H [lE g0.ends,.fn 288 [] [],.agg []] (.sl H.length [] 3 0 g0.ends.length false) (H++[⟨1,0,3,(g0.ends.map zx).set e (fL (H.length+1) e0),0⟩,oN e0]):=by
 obtain⟨x,l,hx⟩:∃x l,e0.next=x::l:=by
  cases hh:e0.next with
  |nil=>exact absurd hh h.ne
  |cons x l=>exact⟨x,l,rfl⟩
 have hlen:l.length<1000000000:=by
  have:=h.sm.2 e0 (pE h.at_);rw[hx]at this;exact dL
 have:=Al (VJ g0.ends e e0 h.at_ h.sm.1 (λy hy=>Kd y (h.sm.2 y hy)) (VN e0 x l hx hlen)) (ze (zf (zE (enc:=zx) (λ_=>V) V _ _)) V) V H hf
 have e9:[(⟨1,0,3,(g0.ends.map zx).set e (fL 1 e0),0⟩:Ob),oN e0].map (zL (q8 [] H.length))=[⟨1,0,3,(g0.ends.map zx).set e (fL (H.length+1) e0),0⟩,oN e0]:=by
  show zL _ ⟨1,0,3,_,0⟩::_=_;rw[zD (enc:=zx) (λ_=>V)]
  rfl
 rw[e9]at this;exact gI
def PE(h:EV g0 e e0):th 269 [] [.agg [],.agg (zy g0)] (.agg (fN 0 g0)) [⟨1,0,3,(g0.ends.map zx).set e (fL 1 e0),0⟩,oN e0]:=by
 have own:∀i,∀r∈(g0.ends.map zx).set e (fL i e0),∀c∈r,zF c=true:=λi=>zE (enc:=zx) (λ_=>V) V _ _
 have h1:th 269 [] [.agg [],.agg (zy g0)] (.agg (fN 3 g0)) [⟨1,259,0,[[]],0⟩,⟨1,111,2,[fN 3 g0],0⟩,⟨1,111,2,[fN 3 g0],0⟩,⟨1,0,3,(g0.ends.map zx).set e (fL 4 e0),0⟩,oN e0]:=by
  refine zb.zX (fn:=f269) func269 V (uH ?_);refine⟨_,_,VX h _ V,dd ?_⟩;exact uJ
 refine h1.ng (λB hB _=>?_) (pW _);have hw:=zl.fD (B:=B) [3,4] [0] [.agg (fN 3 g0)] [⟨1,259,0,[[]],0⟩,⟨1,111,2,[fN 3 g0],0⟩,⟨1,111,2,[fN 3 g0],0⟩,⟨1,0,3,(g0.ends.map zx).set e (fL 4 e0),0⟩,oN e0] (by rw[show B=0 from ai hB];rfl) V V (ze V (ze V (ze V (ze (zf (own 4)) V))))
 have e:xC [3,4] [⟨1,259,0,[[]],0⟩,⟨1,111,2,[fN 3 g0],0⟩,⟨1,111,2,[fN 3 g0],0⟩,⟨1,0,3,(g0.ends.map zx).set e (fL 4 e0),0⟩,oN e0]=[⟨1,0,3,(g0.ends.map zx).set e (fL 1 e0),0⟩,oN e0]:=by
  show zJ [3,4] ⟨1,0,3,(g0.ends.map zx).set e (fL 4 e0),0⟩::_=_;rw[zI (enc:=zx) (λ_=>V)]
  rfl
 rw[e]at hw;exact hw
def RM(h:EV g0 e e0)(H:zq)(hf:qL H=true):th 269 H [.agg [],.agg (zy g0)] (.agg ([U g0.zC,C.sl H.length [] 3 0 g0.ends.length false])) (H++[⟨1,0,3,(g0.ends.map zx).set e (fL (H.length+1) e0),0⟩,oN e0]):=by
 have:=Al (PE h) (ze (zf (zE (enc:=zx) (λ_=>V) V _ _)) V) V H hf
 have e9:[(⟨1,0,3,(g0.ends.map zx).set e (fL 1 e0),0⟩:Ob),oN e0].map (zL (q8 [] H.length))=[⟨1,0,3,(g0.ends.map zx).set e (fL (H.length+1) e0),0⟩,oN e0]:=by
  show zL _ ⟨1,0,3,_,0⟩::_=_;rw[zD (enc:=zx) (λ_=>V)]
  rfl
 rw[e9]at this;exact gI
def VK(e0:En)(e:Nat)(l:List Gr)(g:Nat)(g0:Gr)(hv:l[g]?=some g0)(hl:l.length<1000000000)(hp:∀x∈l,th 269 [] [.agg [],.agg (zy x)] (.agg (zy x)) [])
 (hA:∀H,qL H=true->th 269 H [.agg [],.agg (zy g0)] (.agg ([U g0.zC,C.sl H.length [] 3 0 g0.ends.length false])) (H++[⟨1,0,3,(g0.ends.map zx).set e (fL (H.length+1) e0),0⟩,oN e0])):
  th 268 [] [lG l,.fn 269 [] [],.agg []] (.sl 0 [] 2 0 l.length false) [⟨1,0,2,(l.map zy).set g (fN 1 g0),0⟩,⟨1,0,3,(g0.ends.map zx).set e (fL 2 e0),0⟩,oN e0]:=by
 have m1:(l.map zy).length=l.length:=pz ..;have hvl:=(px.1 hv).1
 have h1:th 268 [] [lG l,.fn 269 [] [],.agg []] (.sl 1 [] 2 0 l.length false) [⟨1,259,0,[[]],0⟩,⟨1,0,2,(l.map zy).set g (fN 3 g0),0⟩,⟨1,111,2,[zy g0],0⟩,⟨1,0,3,(g0.ends.map zx).set e (fL 4 e0),0⟩,oN e0]:=by
  refine zb.zX (fn:=f268) func268 V (uH ?_);rw[m1];refine⟨rfl,an,by show(32:Int)*_<=_;omega,an,dd ?_⟩;rw[m1,toNat_cast];have ZZ:List C:=([U 0,.fq 1 0 []]:List C);refine zH.seq l.length (λk=>((lG l)::.fn 269 [] []::.za::.za::.za::.ref 0 [] 0 0 0::.fq 1 0 []::.sl 1 [] 2 0 l.length false::.za::.za::.za::.za::.za::(lG l)::I l.length::I k::mL ([.za,.za,.za,.za,.za]))) (λk=>if k<=g then [⟨1,259,0,[[]],0⟩,⟨1,0,2,((l.map zy).set g (fN 3 g0)).take k++(List.replicate l.length ([U 0,.fq 1 0 []]:List C)).drop k,0⟩] else [⟨1,259,0,[[]],0⟩,⟨1,0,2,((l.map zy).set g (fN 3 g0)).take k++(List.replicate l.length ([U 0,.fq 1 0 []]:List C)).drop k,0⟩,⟨1,111,2,[zy g0],0⟩,⟨1,0,3,(g0.ends.map zx).set e (fL 4 e0),0⟩,oN e0]) (λk=>True) ?_ trivial (λk hk hr=>?_) (λhr=>?_)
  .rw[pD (pW _)];refine zl.trans (zl.Bw 1 V λr hr c hc=>?_) (cC);rw[rS hr]at hc;exact pG.1 (rfl:([U 0,.fq 1 0 []]:List C).all zF=true) c hc
  .obtain⟨x,hx⟩:∃x,x=l[k]:=⟨_,rfl⟩;have hx2:l[k]?=some x:=by rw[pq hk,hx]
   have hxm:x∈l:=bJ
   have hg:(l.map zy)[k]?=some (zy x):=by rw[pw,hx2];rfl
   have e1:0+(k:Int).toNat=k:=ah
   have low:∀n j,j<=g\/3<n->∀r∈((l.map zy).set g (fN 3 g0)).take j++(List.replicate l.length ([U 0,.fq 1 0 []]:List C)).drop j,∀c∈r,qE n 9 c=true:=λn j h=>kC (enc:=zy) (λ_=>V) V l l.length (h.imp_right λh=>by simp[qE,qV];omega)
   have own:∀j,∀r∈((l.map zy).set g (fN 3 g0)).take j++(List.replicate l.length ([U 0,.fq 1 0 []]:List C)).drop j,∀c∈r,zF c=true:=λj=>kC (enc:=zy) (λ_=>V) V l l.length (.inr V)
   by_cases hkv:k=g
   .subst hkv;obtain rfl:g0=x:=by rw[hv]at hx2;exact rV hx2
    have hF:((l.map zy).set k (fN 3 g0))[k]?=some (fN 3 g0):=by rw[pM,pD V,pD (ai hk)]
    rw[pD (pN _),pA an];conv=>whnf
    refine zaD ?_
    exact zcr
   .have hF:((l.map zy).set g (fN 3 g0))[k]?=some (zy x):=by rw[rC (λh=>hkv h.symm)];exact hg
    by_cases ft:k<g
    .rw[pD an,pD an];conv=>whnf
     refine zaD ?_
     refine zaH ?_;refine zl.jd 2 ta V V V (qc V (qi ?_)) V;have lw:=low 2 (k+1) (.inl an);rw[<-qZ (z:=([U 0,.fq 1 0 []]:List C)) (n:=l.length) hF hk]at lw;exact lw
    .rw[pA an,pA an];conv=>whnf
     refine zaD ?_
     refine zaH ?_;refine zl.jd 5 ta V V V (qc V (qc (qi ?_) (qc V (qc (qi (zE (enc:=zx) (λ_=>V) V _ _)) V)))) V;have lw:=low 5 (k+1) (.inr an);rw[<-qZ (z:=([U 0,.fq 1 0 []]:List C)) (n:=l.length) hF hk]at lw;exact lw
  .exact pn
 refine h1.ng (λB h _=>?_) (pW _);have hw:=zl.fD (B:=B) [1,3,4] [0] [.sl 1 [] 2 0 l.length false] [⟨1,259,0,[[]],0⟩,⟨1,0,2,(l.map zy).set g (fN 3 g0),0⟩,⟨1,111,2,[zy g0],0⟩,⟨1,0,3,(g0.ends.map zx).set e (fL 4 e0),0⟩,oN e0] tY V V (ze V (ze (zf (zE (enc:=zy) (λ_=>V) V l g)) (ze V (ze (zf (zE (enc:=zx) (λ_=>V) V _ _)) V))))
 have e:xC [1,3,4] [⟨1,259,0,[[]],0⟩,⟨1,0,2,(l.map zy).set g (fN 3 g0),0⟩,⟨1,111,2,[zy g0],0⟩,⟨1,0,3,(g0.ends.map zx).set e (fL 4 e0),0⟩,oN e0]=[⟨1,0,2,(l.map zy).set g (fN 1 g0),0⟩,⟨1,0,3,(g0.ends.map zx).set e (fL 2 e0),0⟩,oN e0]:=by
  show zJ [1,3,4] ⟨1,0,2,(l.map zy).set g (fN 3 g0),0⟩::_=_;rw[zI (enc:=zy) (λ_=>V)];show _::zJ [1,3,4] ⟨1,0,3,(g0.ends.map zx).set e (fL 4 e0),0⟩::_=_;rw[zI (enc:=zx) (λ_=>V)];rfl
 rw[e]at hw;exact hw
structure EW(v0:fC)(g:Nat)(g0:Gr)(e:Nat)(e0:En):Prop extends EV g0 e e0 where
 CQ:EX v0
 iC:v0.zg[g]?=some g0
def VZ(h:EW v0 g g0 e e0)(H:zq)(hf:qL H=true):th 268 H [lG v0.zg,.fn 269 [] [],.agg []] (.sl H.length [] 2 0 v0.zg.length false) (H++[⟨1,0,2,(v0.zg.map zy).set g (fN (H.length+1) g0),0⟩,⟨1,0,3,(g0.ends.map zx).set e (fL (H.length+2) e0),0⟩,oN e0]):=by
 have:=Al (VK e0 e v0.zg g g0 h.iC h.CQ.1 (λy hy=>I7 y (h.CQ.2 y hy)) (RM h.toEV)) (ze (zf (zE (enc:=zy) (λ_=>V) V _ _)) (ze (zf (zE (enc:=zx) (λ_=>V) V _ _)) V)) V H hf
 have e9:[(⟨1,0,2,(v0.zg.map zy).set g (fN 1 g0),0⟩:Ob),⟨1,0,3,(g0.ends.map zx).set e (fL 2 e0),0⟩,oN e0].map (zL (q8 [] H.length))=[⟨1,0,2,(v0.zg.map zy).set g (fN (H.length+1) g0),0⟩,⟨1,0,3,(g0.ends.map zx).set e (fL (H.length+2) e0),0⟩,oN e0]:=by
  show zL _ ⟨1,0,2,_,0⟩::zL _ ⟨1,0,3,_,0⟩::_=_;rw[zD (enc:=zy) (λ_=>V),zD (enc:=zx) (λ_=>V)]
  rfl
 rw[e9]at this;exact gI
def OQ(h:EW v0 g g0 e e0):th 225 [] [.agg [],.agg (zt v0)] (.agg (fR 0 v0)) [⟨1,0,2,(v0.zg.map zy).set g (fN 1 g0),0⟩,⟨1,0,3,(g0.ends.map zx).set e (fL 2 e0),0⟩,oN e0]:=by
 have h1:th 225 [] [.agg [],.agg (zt v0)] (.agg (fR 3 v0)) [⟨1,259,0,[[]],0⟩,⟨1,106,5,[fR 3 v0],0⟩,⟨1,106,5,[fR 3 v0],0⟩,⟨1,0,2,(v0.zg.map zy).set g (fN 4 g0),0⟩,⟨1,0,3,(g0.ends.map zx).set e (fL 5 e0),0⟩,oN e0]:=by
  refine zb.zX (fn:=f225) func225 V (uH ?_);refine⟨_,_,VZ h _ V,dd ?_⟩;exact uJ
 refine h1.ng (λB hB _=>?_) (pW _);have hw:=zl.fD (B:=B) [3,4,5] [0] [.agg (fR 3 v0)] [⟨1,259,0,[[]],0⟩,⟨1,106,5,[fR 3 v0],0⟩,⟨1,106,5,[fR 3 v0],0⟩,⟨1,0,2,(v0.zg.map zy).set g (fN 4 g0),0⟩,⟨1,0,3,(g0.ends.map zx).set e (fL 5 e0),0⟩,oN e0] (by rw[show B=0 from ai hB];rfl) V V (ze V (ze V (ze V (ze (zf (zE (enc:=zy) (λ_=>V) V _ _)) (ze (zf (zE (enc:=zx) (λ_=>V) V _ _)) V)))))
 have e:xC [3,4,5] [⟨1,259,0,[[]],0⟩,⟨1,106,5,[fR 3 v0],0⟩,⟨1,106,5,[fR 3 v0],0⟩,⟨1,0,2,(v0.zg.map zy).set g (fN 4 g0),0⟩,⟨1,0,3,(g0.ends.map zx).set e (fL 5 e0),0⟩,oN e0]=[⟨1,0,2,(v0.zg.map zy).set g (fN 1 g0),0⟩,⟨1,0,3,(g0.ends.map zx).set e (fL 2 e0),0⟩,oN e0]:=by
  show zJ [3,4,5] ⟨1,0,2,(v0.zg.map zy).set g (fN 4 g0),0⟩::zJ [3,4,5] ⟨1,0,3,(g0.ends.map zx).set e (fL 5 e0),0⟩::_=_;rw[zI (enc:=zy) (λ_=>V),zI (enc:=zx) (λ_=>V)]
  rfl
 rw[e]at hw;exact hw
def P3(h:EW v0 g g0 e e0)(H:zq)(hf:qL H=true):th 225 H [.agg [],.agg (zt v0)] (.agg ((qV v0.snap++[C.sl H.length [] 2 0 v0.zg.length false,Bo v0.qH]))) (H++[⟨1,0,2,(v0.zg.map zy).set g (fN (H.length+1) g0),0⟩,⟨1,0,3,(g0.ends.map zx).set e (fL (H.length+2) e0),0⟩,oN e0]):=by
 have:=Al (OQ h) (ze (zf (zE (enc:=zy) (λ_=>V) V _ _)) (ze (zf (zE (enc:=zx) (λ_=>V) V _ _)) V)) V H hf
 have e9:[(⟨1,0,2,(v0.zg.map zy).set g (fN 1 g0),0⟩:Ob),⟨1,0,3,(g0.ends.map zx).set e (fL 2 e0),0⟩,oN e0].map (zL (q8 [] H.length))=[⟨1,0,2,(v0.zg.map zy).set g (fN (H.length+1) g0),0⟩,⟨1,0,3,(g0.ends.map zx).set e (fL (H.length+2) e0),0⟩,oN e0]:=by
  show zL _ ⟨1,0,2,_,0⟩::zL _ ⟨1,0,3,_,0⟩::_=_;rw[zD (enc:=zy) (λ_=>V),zD (enc:=zx) (λ_=>V)]
  rfl
 rw[e9]at this;exact gI
def VM(g0:Gr)(g:Nat)(e0:En)(e:Nat)(l:List fC)(v:Nat)(v0:fC)(hv:l[v]?=some v0)(hl:l.length<1000000000)(hp:∀x∈l,th 225 [] [.agg [],.agg (zt x)] (.agg (zt x)) [])
 (hA:∀H,qL H=true->th 225 H [.agg [],.agg (zt v0)] (.agg ((qV v0.snap++[C.sl H.length [] 2 0 v0.zg.length false,Bo v0.qH]))) (H++[⟨1,0,2,(v0.zg.map zy).set g (fN (H.length+1) g0),0⟩,⟨1,0,3,(g0.ends.map zx).set e (fL (H.length+2) e0),0⟩,oN e0])):
  th 224 [] [lV l,.fn 225 [] [],.agg []] (.sl 0 [] 5 0 l.length false) [⟨1,0,5,(l.map zt).set v (fR 1 v0),0⟩,⟨1,0,2,(v0.zg.map zy).set g (fN 2 g0),0⟩,⟨1,0,3,(g0.ends.map zx).set e (fL 3 e0),0⟩,oN e0]:=by
 have m1:(l.map zt).length=l.length:=pz ..;have hvl:=(px.1 hv).1
 have h1:th 224 [] [lV l,.fn 225 [] [],.agg []] (.sl 1 [] 5 0 l.length false) [⟨1,259,0,[[]],0⟩,⟨1,0,5,(l.map zt).set v (fR 3 v0),0⟩,⟨1,106,5,[zt v0],0⟩,⟨1,0,2,(v0.zg.map zy).set g (fN 4 g0),0⟩,⟨1,0,3,(g0.ends.map zx).set e (fL 5 e0),0⟩,oN e0]:=by
  refine zb.zX (fn:=f224) func224 V (uH ?_);rw[m1];refine⟨rfl,an,by show(104:Int)*_<=_;omega,an,dd ?_⟩;rw[m1,toNat_cast];have ZZ:List C:=([.fq 1 0 [],.fq 1 0 [],.fq 1 0 [],.fq 1 0 [],Bo false]:List C);refine zH.seq l.length (λk=>((lV l)::.fn 225 [] []::.za::.za::.za::.ref 0 [] 0 0 0::.fq 1 0 []::.sl 1 [] 5 0 l.length false::.za::.za::.za::.za::.za::(lV l)::I l.length::I k::mL ([.za,.za,.za,.za,.za]))) (λk=>if k<=v then [⟨1,259,0,[[]],0⟩,⟨1,0,5,((l.map zt).set v (fR 3 v0)).take k++(List.replicate l.length ([.fq 1 0 [],.fq 1 0 [],.fq 1 0 [],.fq 1 0 [],Bo false]:List C)).drop k,0⟩] else [⟨1,259,0,[[]],0⟩,⟨1,0,5,((l.map zt).set v (fR 3 v0)).take k++(List.replicate l.length ([.fq 1 0 [],.fq 1 0 [],.fq 1 0 [],.fq 1 0 [],Bo false]:List C)).drop k,0⟩,⟨1,106,5,[zt v0],0⟩,⟨1,0,2,(v0.zg.map zy).set g (fN 4 g0),0⟩,⟨1,0,3,(g0.ends.map zx).set e (fL 5 e0),0⟩,oN e0]) (λk=>True) ?_ trivial (λk hk hr=>?_) (λhr=>?_)
  .rw[pD (pW _)];refine zl.trans (zl.Bw 1 V λr hr c hc=>?_) (cC);rw[rS hr]at hc;exact pG.1 (rfl:([.fq 1 0 [],.fq 1 0 [],.fq 1 0 [],.fq 1 0 [],Bo false]:List C).all zF=true) c hc
  .obtain⟨x,hx⟩:∃x,x=l[k]:=⟨_,rfl⟩;have hx2:l[k]?=some x:=by rw[pq hk,hx]
   have hxm:x∈l:=bJ
   have hg:(l.map zt)[k]?=some (zt x):=by rw[pw,hx2];rfl
   have e1:0+(k:Int).toNat=k:=ah
   have low:∀n j,j<=v\/3<n->∀r∈((l.map zt).set v (fR 3 v0)).take j++(List.replicate l.length ([.fq 1 0 [],.fq 1 0 [],.fq 1 0 [],.fq 1 0 [],Bo false]:List C)).drop j,∀c∈r,qE n 9 c=true:=λn j h=>kC (enc:=zt) (λ_=>V) V l l.length (h.imp_right λh=>by simp[qE,qV];omega)
   have own:∀j,∀r∈((l.map zt).set v (fR 3 v0)).take j++(List.replicate l.length ([.fq 1 0 [],.fq 1 0 [],.fq 1 0 [],.fq 1 0 [],Bo false]:List C)).drop j,∀c∈r,zF c=true:=λj=>kC (enc:=zt) (λ_=>V) V l l.length (.inr V)
   by_cases hkv:k=v
   .subst hkv;obtain rfl:v0=x:=by rw[hv]at hx2;exact rV hx2
    have hF:((l.map zt).set k (fR 3 v0))[k]?=some (fR 3 v0):=by rw[pM,pD V,pD (ai hk)]
    rw[pD (pN _),pA an];conv=>whnf
    refine zaD ?_
    exact zcr
   .have hF:((l.map zt).set v (fR 3 v0))[k]?=some (zt x):=by rw[rC (λh=>hkv h.symm)];exact hg
    by_cases ft:k<v
    .rw[pD an,pD an];conv=>whnf
     refine zaD ?_
     refine zaH ?_;refine zl.jd 2 ta V V V (qc V (qi ?_)) V;have lw:=low 2 (k+1) (.inl an);rw[<-qZ (z:=([.fq 1 0 [],.fq 1 0 [],.fq 1 0 [],.fq 1 0 [],Bo false]:List C)) (n:=l.length) hF hk]at lw;exact lw
    .rw[pA an,pA an];conv=>whnf
     refine zaD ?_
     refine zaH ?_;refine zl.jd 6 ta V V V (qc V (qc (qi ?_) (qc V (qc (qi (zE (enc:=zy) (λ_=>V) V _ _)) (qc (qi (zE (enc:=zx) (λ_=>V) V _ _)) V))))) V;have lw:=low 6 (k+1) (.inr an);rw[<-qZ (z:=([.fq 1 0 [],.fq 1 0 [],.fq 1 0 [],.fq 1 0 [],Bo false]:List C)) (n:=l.length) hF hk]at lw;exact lw
  .exact pn
 refine h1.ng (λB h _=>?_) (pW _);have hw:=zl.fD (B:=B) [1,3,4,5] [0] [.sl 1 [] 5 0 l.length false] [⟨1,259,0,[[]],0⟩,⟨1,0,5,(l.map zt).set v (fR 3 v0),0⟩,⟨1,106,5,[zt v0],0⟩,⟨1,0,2,(v0.zg.map zy).set g (fN 4 g0),0⟩,⟨1,0,3,(g0.ends.map zx).set e (fL 5 e0),0⟩,oN e0] tY V V (ze V (ze (zf (zE (enc:=zt) (λ_=>V) V l v)) (ze V (ze (zf (zE (enc:=zy) (λ_=>V) V _ _)) (ze (zf (zE (enc:=zx) (λ_=>V) V _ _)) V)))))
 have e:xC [1,3,4,5] [⟨1,259,0,[[]],0⟩,⟨1,0,5,(l.map zt).set v (fR 3 v0),0⟩,⟨1,106,5,[zt v0],0⟩,⟨1,0,2,(v0.zg.map zy).set g (fN 4 g0),0⟩,⟨1,0,3,(g0.ends.map zx).set e (fL 5 e0),0⟩,oN e0]=[⟨1,0,5,(l.map zt).set v (fR 1 v0),0⟩,⟨1,0,2,(v0.zg.map zy).set g (fN 2 g0),0⟩,⟨1,0,3,(g0.ends.map zx).set e (fL 3 e0),0⟩,oN e0]:=by
  show zJ [1,3,4,5] ⟨1,0,5,(l.map zt).set v (fR 3 v0),0⟩::_=_;rw[zI (enc:=zt) (λ_=>V)];show _::zJ [1,3,4,5] ⟨1,0,2,(v0.zg.map zy).set g (fN 4 g0),0⟩::zJ [1,3,4,5] ⟨1,0,3,(g0.ends.map zx).set e (fL 5 e0),0⟩::_=_;rw[zI (enc:=zy) (λ_=>V),zI (enc:=zx) (λ_=>V)];rfl
 rw[e]at hw;exact hw
structure DA(vs:List fC)(v:Nat)(v0:fC)(g:Nat)(g0:Gr)(e:Nat)(e0:En):Prop extends EW v0 g g0 e e0 where
 Nq:vs.length<1000000000/\∀v∈vs,EX v
 iz:vs[v]?=some v0
def V2{vs:List fC}(h:DA vs v v0 g g0 e e0)(H:zq)(hf:qL H=true):th 224 H [lV vs,.fn 225 [] [],.agg []] (.sl H.length [] 5 0 vs.length false) (H++[⟨1,0,5,(vs.map zt).set v (fR (H.length+1) v0),0⟩,⟨1,0,2,(v0.zg.map zy).set g (fN (H.length+2) g0),0⟩,⟨1,0,3,(g0.ends.map zx).set e (fL (H.length+3) e0),0⟩,oN e0]):=by
 have:=Al (VM g0 g e0 e vs v v0 h.iz h.Nq.1 (λy hy=>jG y (h.Nq.2 y hy)) (P3 h.toEW)) (ze (zf (zE (enc:=zt) (λ_=>V) V _ _)) (ze (zf (zE (enc:=zy) (λ_=>V) V _ _)) (ze (zf (zE (enc:=zx) (λ_=>V) V _ _)) V))) V H hf
 have e9:[(⟨1,0,5,(vs.map zt).set v (fR 1 v0),0⟩:Ob),⟨1,0,2,(v0.zg.map zy).set g (fN 2 g0),0⟩,⟨1,0,3,(g0.ends.map zx).set e (fL 3 e0),0⟩,oN e0].map (zL (q8 [] H.length))=[⟨1,0,5,(vs.map zt).set v (fR (H.length+1) v0),0⟩,⟨1,0,2,(v0.zg.map zy).set g (fN (H.length+2) g0),0⟩,⟨1,0,3,(g0.ends.map zx).set e (fL (H.length+3) e0),0⟩,oN e0]:=by
  show zL _ ⟨1,0,5,_,0⟩::zL _ ⟨1,0,2,_,0⟩::zL _ ⟨1,0,3,_,0⟩::_=_;rw[zD (enc:=zt) (λ_=>V),zD (enc:=zy) (λ_=>V),zD (enc:=zx) (λ_=>V)]
  rfl
 rw[e9]at this;exact gI
def AN(l:List (List Int))(hl:l.length<1000000000)(hp:∀x∈l,th 228 [] [.agg [],lU x] (lU x) []):th 227 [] [fJ l,.fn 228 [] [],.agg []] (.sl 0 [] 1 0 l.length false) [⟨2,155,1,l.map zA,0⟩]:=by
 have m1:(l.map zA).length=l.length:=pz ..;refine zb.zX (fn:=f227) func227 V (uH ?_);rw[m1];refine⟨rfl,an,by show(24:Int)*_<=_;omega,an,dd ?_⟩;rw[m1,toNat_cast];refine zH.seq l.length (λk=>((fJ l)::.fn 228 [] []::.za::.za::.za::.ref 0 [] 0 0 0::.fq 1 0 []::.sl 1 [] 1 0 l.length false::.za::.za::.za::.za::.za::(fJ l)::I l.length::I k::mL ([.za,.za,.za,.za,.za]))) (λk=>[⟨1,259,0,[[]],0⟩,⟨2,155,1,(l.map zA).take k++(List.replicate l.length ([.fq 1 0 []]:List C)).drop k,0⟩]) (λk=>True) ?_ trivial (λk hk hr=>?_) (λhr=>?_)
 .exact cC
 .obtain⟨x,hx⟩:∃x,x=l[k]:=⟨_,rfl⟩;have hx2:l[k]?=some x:=by rw[pq hk,hx]
  have hg:(l.map zA)[k]?=some (zA x):=by rw[pw,hx2];rfl
  conv=>whnf
  refine zaD ?_
  refine af (hp x uY) ?_;refine⟨an,ar,dd ?_⟩;have e1:0+(k:Int).toNat=k:=ah
  rw[e1];refine⟨_,jX ah hk,rfl,dd ?_⟩;refine zap ?_;have e2:=qZ (z:=([.fq 1 0 []]:List C)) (n:=l.length) hg hk;rw[zk an,<-e2];exact cE 2
 .exact gh
def SE(r0:List Int)(x:Int)(l:List Int)(he:r0=x::l)(hl:l.length<1000000000):th 228 [] [.agg [],lU r0] (.sl 0 [] 1 0 r0.length false) [⟨2,52,1,r0.map qD,0⟩]:=by
 have h1:th 228 [] [.agg [],lU r0] (.sl 1 [] 1 0 r0.length false) [⟨1,259,0,[[]],0⟩,⟨2,52,1,r0.map qD,0⟩]:=by
  have hc:=VG x l hl;rw[<-he]at hc;refine zb.zX (fn:=f228) func228 V (uH ?_);refine ae [] (hc) ?_;exact uJ
 exact h1.ng (λB h _=>zl.fD [1] [0] _ _ tY V V V) (pW _)
def Wn(r0:List Int)(x:Int)(l:List Int)(he:r0=x::l)(hl:l.length<1000000000)(H:zq)(hf:qL H=true):th 228 H [.agg [],lU r0] (.sl H.length [] 1 0 r0.length false) (H++[⟨2,52,1,r0.map qD,0⟩]):=
 Al (SE r0 x l he hl) V V H hf
def kR{fn:Func}{c:Code}{H2:zq}{r:C}(hf:P.funcs[f]?=some fn)(hb:fn.body=some c)
 (h:wpA P 0 c (entry fn args) [] λex t1 H1=>(ex=.ret\/ex=.normal)/\∃s2 r1,zl 0 ⟨t1,H1⟩ s2/\kg P fn s2=some r1/\zl 0 ⟨[r1],s2.H⟩ ⟨[r],H2⟩):zb P f [] args r H2:=λw E vs hh hl=>by
 have h1:qC P f [] args λr1 H1=>zl 0 ⟨[r1],H1⟩ ⟨[r],H2⟩:=qC.zX hf hb h
 refine(h1 w E vs hh hl).mono ?_;rintro e w' ⟨r1,H1,v,E',hw,h0,h2,h3,g⟩;obtain⟨E2,hs,g2⟩:=hw 0 w' E' ⟨#[v],[]⟩ ⟨h2,LL.one h3,pW _,pW _⟩;have hn2:=hs.heap.n;have hn0:E.n=0:=hh.n;refine⟨v,E2,h0,hs.heap,hs.tmps.cons_inv.1,⟨⟨by rw[hn0];exact pW _,λid hops hi=>by rw[hn0]at hi;omega,λid hops hi=>by rw[hn0]at hi;omega,λb o u hu=>g2.le.St _ _ _ (g.le.St _ _ _ hu),λid k u hi hu=>by rw[hn0]at hi;omega⟩,g2.os.trans g.os,g2.tape.trans g.tape,g2.output.trans g.output,rR g.size g2.size,?_,?_,?_⟩⟩
 .intro k hk ho;exact dE
 .intro b o u hu;rcases g2.jB b o u hu with h1|h1|h1
  .exact g.jB b o u h1
  .exact gV
  .rcases g.own b h1 with h4|h4
   .exact .inr (.inl h4)
   .exact .inr (.inr h4)
 .intro b hb;rcases g2.own b hb with h1|h1
  .exact pj
  .exact g.own b h1
def qz(w:Wor)(h:z6 w):th 173 [] [Cw w] (Cw w) []:=by
 refine ab func173 ?_;refine af (vy w.pins h.pins) ?_;refine zaL ?_;refine af (BY w.zn h.zn) ?_;exact⟨.inl V,_,(zl.zN 1 0 4 V V V V (.inr V) V ah (shut_map (enc:=zt) (λ_=>V) w.zd) (zB V)).trans (zl.zN 1 0 6 V V V V (.inr V) V ah (shut_map (enc:=zA) (λ_=>V) w.counts) (zB V)),rfl⟩
def VL(l:List (List Int))(t:Nat)(r0:(List Int))(hv:l[t]?=some r0)(hl:l.length<1000000000)(hp:∀x∈l,th 228 [] [.agg [],lU x] (lU x) [])
 (hA:∀H,qL H=true->th 228 H [.agg [],lU r0] (.sl H.length [] 1 0 r0.length false) (H++[⟨2,52,1,r0.map qD,0⟩])):
  th 227 [] [fJ l,.fn 228 [] [],.agg []] (.sl 0 [] 1 0 l.length false) [⟨1,0,1,(l.map zA).set t ([C.sl 1 [] 1 0 r0.length false]),0⟩,⟨2,52,1,r0.map qD,0⟩]:=by
 have m1:(l.map zA).length=l.length:=pz ..;have hvl:=(px.1 hv).1
 have h1:th 227 [] [fJ l,.fn 228 [] [],.agg []] (.sl 1 [] 1 0 l.length false) [⟨1,259,0,[[]],0⟩,⟨1,0,1,(l.map zA).set t ([C.sl 2 [] 1 0 r0.length false]),0⟩,⟨2,52,1,r0.map qD,0⟩]:=by
  refine zb.zX (fn:=f227) func227 V (uH ?_);rw[m1];refine⟨rfl,an,by show(24:Int)*_<=_;omega,an,dd ?_⟩;rw[m1,toNat_cast];have ZZ:List C:=([.fq 1 0 []]:List C);refine zH.seq l.length (λk=>((fJ l)::.fn 228 [] []::.za::.za::.za::.ref 0 [] 0 0 0::.fq 1 0 []::.sl 1 [] 1 0 l.length false::.za::.za::.za::.za::.za::(fJ l)::I l.length::I k::mL ([.za,.za,.za,.za,.za]))) (λk=>if k<=t then [⟨1,259,0,[[]],0⟩,⟨1,0,1,((l.map zA).set t ([C.sl 2 [] 1 0 r0.length false])).take k++(List.replicate l.length ([.fq 1 0 []]:List C)).drop k,0⟩] else [⟨1,259,0,[[]],0⟩,⟨1,0,1,((l.map zA).set t ([C.sl 2 [] 1 0 r0.length false])).take k++(List.replicate l.length ([.fq 1 0 []]:List C)).drop k,0⟩,⟨2,52,1,r0.map qD,0⟩]) (λk=>True) ?_ trivial (λk hk hr=>?_) (λhr=>?_)
  .rw[pD (pW _)];refine zl.trans (zl.Bw 1 V λr hr c hc=>?_) (cC);rw[rS hr]at hc;exact pG.1 (rfl:([.fq 1 0 []]:List C).all zF=true) c hc
  .obtain⟨x,hx⟩:∃x,x=l[k]:=⟨_,rfl⟩;have hx2:l[k]?=some x:=by rw[pq hk,hx]
   have hxm:x∈l:=bJ
   have hg:(l.map zA)[k]?=some (zA x):=by rw[pw,hx2];rfl
   have e1:0+(k:Int).toNat=k:=ah
   have low:∀n j,j<=t\/2<n->∀r∈((l.map zA).set t ([C.sl 2 [] 1 0 r0.length false])).take j++(List.replicate l.length ([.fq 1 0 []]:List C)).drop j,∀c∈r,qE n 9 c=true:=λn j h=>kC (enc:=zA) (λ_=>V) V l l.length (h.imp_right λh=>by simp[qE,qV];omega)
   have own:∀j,∀r∈((l.map zA).set t ([C.sl 2 [] 1 0 r0.length false])).take j++(List.replicate l.length ([.fq 1 0 []]:List C)).drop j,∀c∈r,zF c=true:=λj=>kC (enc:=zA) (λ_=>V) V l l.length (.inr V)
   by_cases hkv:k=t
   .subst hkv;obtain rfl:r0=x:=by rw[hv]at hx2;exact rV hx2
    have hF:((l.map zA).set k ([C.sl 2 [] 1 0 r0.length false]))[k]?=some ([C.sl 2 [] 1 0 r0.length false]):=by rw[pM,pD V,pD (ai hk)]
    rw[pD (pN _),pA an];conv=>whnf
    refine zaD ?_
    refine⟨_,_,hA _ (ze V (zf (own k))),dd ?_⟩;exact dR
   .have hF:((l.map zA).set t ([C.sl 2 [] 1 0 r0.length false]))[k]?=some (zA x):=by rw[rC (λh=>hkv h.symm)];exact hg
    by_cases ft:k<t
    .rw[pD an,pD an];conv=>whnf
     refine zaD ?_
     refine zaH ?_;refine zl.jd 2 ta V V V (qc V (qi ?_)) V;have lw:=low 2 (k+1) (.inl an);rw[<-qZ (z:=([.fq 1 0 []]:List C)) (n:=l.length) hF hk]at lw;exact lw
    .rw[pA an,pA an];conv=>whnf
     refine zaD ?_
     refine zaH ?_;refine zl.jd 3 ta V V V (qc V (qc (qi ?_) V)) V;have lw:=low 3 (k+1) (.inr an);rw[<-qZ (z:=([.fq 1 0 []]:List C)) (n:=l.length) hF hk]at lw;exact lw
  .exact pn
 refine h1.ng (λB h _=>?_) (pW _);have hw:=zl.fD (B:=B) [1,2] [0] [.sl 1 [] 1 0 l.length false] [⟨1,259,0,[[]],0⟩,⟨1,0,1,(l.map zA).set t ([C.sl 2 [] 1 0 r0.length false]),0⟩,⟨2,52,1,r0.map qD,0⟩] tY V V (ze V (ze (zf (zE (enc:=zA) (λ_=>V) V l t)) V))
 have e:xC [1,2] [⟨1,259,0,[[]],0⟩,⟨1,0,1,(l.map zA).set t ([C.sl 2 [] 1 0 r0.length false]),0⟩,⟨2,52,1,r0.map qD,0⟩]=[⟨1,0,1,(l.map zA).set t ([C.sl 1 [] 1 0 r0.length false]),0⟩,⟨2,52,1,r0.map qD,0⟩]:=by
  show zJ [1,2] ⟨1,0,1,(l.map zA).set t ([C.sl 2 [] 1 0 r0.length false]),0⟩::_=_;rw[zI (enc:=zA) (λ_=>V)]
  rfl
 rw[e]at hw;exact hw
structure Bz(cs:List (List Int))(t:Nat)(r0:List Int):Prop where
 sm:cs.length<1000000000/\∀r∈cs,r.length<1000000000
 at_:cs[t]?=some r0
 ne:r0≠[]
def V1{cs:List (List Int)}(h:Bz cs t r0)(H:zq)(hf:qL H=true):th 227 H [fJ cs,.fn 228 [] [],.agg []] (.sl H.length [] 1 0 cs.length false) (H++[⟨1,0,1,(cs.map zA).set t ([C.sl (H.length+1) [] 1 0 r0.length false]),0⟩,⟨2,52,1,r0.map qD,0⟩]):=by
 obtain⟨x,l,hx⟩:∃x l,r0=x::l:=by
  cases hh:r0 with
  |nil=>exact absurd hh h.ne
  |cons x l=>exact⟨x,l,rfl⟩
 have hlen:l.length<1000000000:=by
  have:=h.sm.2 r0 (pE h.at_);rw[hx]at this;exact dL
 have:=Al (VL cs t r0 h.at_ h.sm.1 (λy hy=>yc y (h.sm.2 y hy)) (Wn r0 x l hx hlen)) (ze (zf (zE (enc:=zA) (λ_=>V) V _ _)) V) V H hf
 have e9:[(⟨1,0,1,(cs.map zA).set t ([C.sl 1 [] 1 0 r0.length false]),0⟩:Ob),⟨2,52,1,r0.map qD,0⟩].map (zL (q8 [] H.length))=[⟨1,0,1,(cs.map zA).set t ([C.sl (H.length+1) [] 1 0 r0.length false]),0⟩,⟨2,52,1,r0.map qD,0⟩]:=by
  show zL _ ⟨1,0,1,_,0⟩::_=_;rw[zD (enc:=zA) (λ_=>V)]
  rfl
 rw[e9]at this;exact gI
def Jb(w:Wor)(h:z6 w)(x:Int)(l:List Int)(hx:w.pins=x::l):th 173 [] [Cw w] (.agg [I w.zr,I w.current,I w.lock,.sl 0 [] 1 0 w.pins.length false,lV w.zd,lL w.zc,fJ w.counts,lR w.zn]) [⟨2,3,1,w.pins.map encI,0⟩]:=by
 have hl:l.length<1000000000:=by have:=h.pins;rw[hx]at this;exact dL
 have hc:=LC x l hl;rw[<-hx]at hc;refine kR (fn:=f173) func173 V (uH ?_);refine ae [] (hc) ?_;refine zaL ?_;refine af (BY w.zn h.zn) ?_;refine zbg ?_;exact zl.fD [3] [0] _ _ V V V (ze V (ze V (ze V (ze V (ze (zf λr hr c hc=>((shut_map (enc:=zt) (λ_=>V) w.zd) r hr c hc).2) (zf λr hr c hc=>((shut_map (enc:=zA) (λ_=>V) w.counts) r hr c hc).2))))))
def ja{B:Nat}(sel m:List Nat){t t2:List C}{H2:zq}(hB:Cr B 0 sel=true)(qd:sel.all (λid=>Nat.blt id H.length)=true)(iv:yt sel=true)(ik:qL H=true)(et:(Ba m 0 t).map (jQ sel 9)=t2)(e:xC sel H=H2):zl B ⟨t,H⟩ ⟨t2,H2⟩:=by
 subst et e;exact zl.fD sel m t H hB qd iv ik
def vz(w:Wor)(h:z6 w)(x:fO)(l:List fO)(hx:w.zc=x::l):th 173 [] [Cw w] (.agg (iU 0 w)) [⟨2,98,4,w.zc.map zT,0⟩]:=by
 have hl:l.length<1000000000:=by have:=h.zc;rw[hx]at this;exact dL
 have hc:=VF x l hl;rw[<-hx]at hc;refine zbv ?_;refine ae [] (AO w.zd h.zd.1 λv hv=>jG v (h.zd.2 v hv)) ?_;refine ae [] (hc) ?_;refine ae [] (AN w.counts h.counts.1 λr hr=>yc r (h.counts.2 r hr)) ?_;refine af (BY w.zn h.zn) ?_;refine zbg ?_;exact zl.fD [4] [0] _ _ V V V (ze V (ze V (ze V (ze (zf λr hr c hc=>((shut_map (enc:=zt) (λ_=>V) w.zd) r hr c hc).2) (ze V (zf λr hr c hc=>((shut_map (enc:=zA) (λ_=>V) w.counts) r hr c hc).2))))))
def Ja(w:Wor)(h:z6 w)(cs:List (List Int))(hcs:w.counts=cs)(hp:Bz cs t r0):th 173 [] [Cw w] (.agg [I w.zr,I w.current,I w.lock,lI w.pins,lV w.zd,lL w.zc,.sl 0 [] 1 0 cs.length false,lR w.zn]) [⟨1,0,1,(cs.map zA).set t ([C.sl 1 [] 1 0 r0.length false]),0⟩,⟨2,52,1,r0.map qD,0⟩]:=by
 subst hcs;have own:∀i,∀r∈(w.counts.map zA).set t ([C.sl i [] 1 0 r0.length false]),∀c∈r,zF c=true:=λi=>zE (enc:=zA) (λ_=>V) V _ _
 refine zbv ?_;refine ae [] (AO w.zd h.zd.1 λv hv=>jG v (h.zd.2 v hv)) ?_;refine af (kA w.zc h.zc) ?_;refine⟨_,_,V1 hp _ (ze V (ze V (ze V V))),dd ?_⟩;refine af (BY w.zn h.zn) ?_;refine⟨.inl V,_,_,zl.zN 1 0 4 V V V V (.inr V) V ah (shut_map (enc:=zt) (λ_=>V) w.zd) (zB V),rfl,?_⟩;refine ja [4,5] [0] V V V (ze V (ze V (ze V (ze (zf λr hr c hc=>((shut_map (enc:=zt) (λ_=>V) w.zd) r hr c hc).2) (ze (zf (own 5)) V))))) V ?_;show zJ [4,5] ⟨1,0,1,(w.counts.map zA).set t ([C.sl 5 [] 1 0 r0.length false]),0⟩::_=_;rw[zI (enc:=zA) (λ_=>V)]
 rfl
def Wj(w:Wor)(h:z6 w)(H:zq)(hf:qL H=true):th 227 H [fJ w.counts,.fn 228 [] [],.agg []] (.sl H.length [] 1 0 w.counts.length false) (H++[⟨2,155,1,w.counts.map zA,0⟩]):=
 Al (AN w.counts h.counts.1 λr hr=>yc r (h.counts.2 r hr)) V V H hf
def yJ(w:Wor)(h:z6 w)(vs:List fC)(hvs:w.zd=vs)(hp:DA vs v v0 g g0 e e0):th 173 [] [Cw w] (.agg [I w.zr,I w.current,I w.lock,lI w.pins,.sl 0 [] 5 0 vs.length false,lL w.zc,fJ w.counts,lR w.zn]) [⟨1,0,5,(vs.map zt).set v (fR 1 v0),0⟩,⟨1,0,2,(v0.zg.map zy).set g (fN 2 g0),0⟩,⟨1,0,3,(g0.ends.map zx).set e (fL 3 e0),0⟩,oN e0]:=by
 subst hvs;have own:∀i,∀r∈(w.zd.map zt).set v (fR i v0),∀c∈r,zF c=true:=λi=>zE (enc:=zt) (λ_=>V) V _ _
 refine zbv ?_;refine⟨_,_,V2 hp _ V,dd ?_⟩;refine af (kA w.zc h.zc) ?_;refine⟨_,_,Wj w h _ (ze V (ze V (ze V (ze (zf (own 4)) (ze (zf (zE (enc:=zy) (λ_=>V) V _ _)) (ze (zf (zE (enc:=zx) (λ_=>V) V _ _)) V)))))),dd ?_⟩;refine af (BY w.zn h.zn) ?_;refine zb3 ?_;refine ja [3,4,5,6] [0] V V V (ze V (ze V (ze V (ze (zf (own 4)) (ze (zf (zE (enc:=zy) (λ_=>V) V _ _)) (ze (zf (zE (enc:=zx) (λ_=>V) V _ _)) (ze V (zf λr hr c hc=>((shut_map (enc:=zA) (λ_=>V) w.counts) r hr c hc).2)))))))) V ?_;show zJ [3,4,5,6] ⟨1,0,5,(w.zd.map zt).set v (fR 4 v0),0⟩::zJ [3,4,5,6] ⟨1,0,2,(v0.zg.map zy).set g (fN 5 g0),0⟩::zJ [3,4,5,6] ⟨1,0,3,(g0.ends.map zx).set e (fL 6 e0),0⟩::_=_;rw[zI (enc:=zt) (λ_=>V),zI (enc:=zy) (λ_=>V),zI (enc:=zx) (λ_=>V)]
 rfl
def iA(i n:Int):Bool:=decide (0<=i) && decide (i<n)
def wL(i n:Int):th 208 [] [I i,I n] (Bo (iA i n)) []:=by
 refine ab func208 ?_;refine⟨λh1=>?_,λh1=>?_⟩
 .refine dd ?_;refine⟨λh2=>?_,λh2=>?_⟩
  .refine dd ?_
   (exact⟨.inl V,_,.refl _,uN (by unfold iA;simp at h1 h2|-;omega)⟩)
  .refine dd ?_
   (exact⟨.inl V,_,.refl _,uN (by unfold iA;simp at h1 h2|-;omega)⟩)
 .refine dd ?_
  (exact⟨.inl V,_,.refl _,uN (by unfold iA;simp at h1|-;omega)⟩)
def S3(p:Int->Bool)(hcb:qv prog f=true)(hp:∀r∈l,th f H ([I r]++caps) (Bo (p r)) H)(hl:l.length<4611686018427387904):
  th 107 H [lI l,.fn f [] caps] (I (match l.findIdx? p with|some i=>(i:Int)|none=> -1)) H:=by
 refine zb.zX (fn:=f107) func107 V (uH ?_)
 refine zH.inv (λn t1 H1=>∃k,k+n=l.length/\H1=H/\(∀j,j<k->∀r,l[j]?=some r->p r=false)/\
   t1=((lI l)::.fn f [] caps::.za::.za::I 0::.za::.za::I (l.map encI).length::I k::mL ([.za,.za]))) l.length ?_ ?_
 .exact dS
 rintro n _ _ ⟨k,hk,rfl,hno,rfl⟩;conv=>whnf
 refine⟨λh=>?_,λh=>?_⟩
 .conv=>whnf
  have ft:k<l.length:=ai h
  refine⟨an,encI l[k],aB,uH ?_⟩;rw[hcb];refine⟨_,_,hp _ (rj ft),uH ?_⟩;refine⟨λh2=>?_,λh2=>?_⟩
  .conv=>whnf
   refine zbb ?_
   have:l.findIdx? p=some k:=by
    rw[pT];refine⟨ft,h2,λj hj=>?_⟩;simp[hno j hj _ (pq an)]
   rw[this]
   rfl
  .conv=>whnf
   refine .inl ⟨rfl,n-1,_,_,an,zl.mask [0,1,4,7,8] _ _,k+1,an,rfl,?_,?_⟩
   .intro j hj r hr;by_cases hjk:j=k
    .subst hjk;rw[pq ft]at hr;cases hr
     exact h2
    .exact hno j an r hr
   .rw[zk an];rfl
 .conv=>whnf
  refine zbb ?_
  have:l.findIdx? p=none:=by
   rw[pX];intro x hx;obtain⟨j,hj⟩:=pV.1 hx;have hjl:=(px.1 hj).1;have:¬k<l.length:=ai h
   exact hno j an x hj
  rw[this]
  rfl
def J8(p:Int->Bool)(hcb:qv prog f=true)(hp:∀r∈l,th f H ([I r]++caps) (Bo (p r)) H)(hl:l.length<4611686018427387904):
  th 57 H [lI l,.fn f [] caps] (Bo (l.any p)) H:=by
 refine zb.zX (fn:=f57) func57 V (uH ?_);refine⟨_,_,S3 p hcb hp hl,dd ?_⟩;refine zbt ?_;refine⟨λh=>?_,λh=>?_⟩ <;> rw[h]
 .exact gk
 .exact gk
def RQ{l:List En}(p:En->Bool)(hcb:qv prog f=true)(hp:∀r∈l,th f H ([Go.Slp.Ev r]++caps) (Bo (p r)) H)(hl:l.length<4611686018427387904):
  th 295 H [lE l,.fn f [] caps] (I (match l.findIdx? p with|some i=>(i:Int)|none=> -1)) H:=by
 refine zb.zX (fn:=f295) func295 V (uH ?_)
 refine zH.inv (λn t1 H1=>∃k,k+n=l.length/\H1=H/\(∀j,j<k->∀r,l[j]?=some r->p r=false)/\
   t1=((lE l)::.fn f [] caps::.za::.za::I 0::.za::.za::I (l.map zx).length::I k::mL ([.za,.za]))) l.length ?_ ?_
 .exact dS
 rintro n _ _ ⟨k,hk,rfl,hno,rfl⟩;conv=>whnf
 refine⟨λh=>?_,λh=>?_⟩
 .conv=>whnf
  have ft:k<l.length:=ai h
  refine⟨an,zx l[k],aB,uH ?_⟩;rw[hcb];refine⟨_,_,hp _ (rj ft),uH ?_⟩;refine⟨λh2=>?_,λh2=>?_⟩
  .conv=>whnf
   refine zbb ?_
   have:l.findIdx? p=some k:=by
    rw[pT];refine⟨ft,h2,λj hj=>?_⟩;simp[hno j hj _ (pq an)]
   rw[this]
   rfl
  .conv=>whnf
   refine .inl ⟨rfl,n-1,_,_,an,zl.mask [0,1,4,7,8] _ _,k+1,an,rfl,?_,?_⟩
   .intro j hj r hr;by_cases hjk:j=k
    .subst hjk;rw[pq ft]at hr;cases hr
     exact h2
    .exact hno j an r hr
   .rw[zk an];rfl
 .conv=>whnf
  refine zbb ?_
  have:l.findIdx? p=none:=by
   rw[pX];intro x hx;obtain⟨j,hj⟩:=pV.1 hx;have hjl:=(px.1 hj).1;have:¬k<l.length:=ai h
   exact hno j an x hj
  rw[this]
  rfl
def RT{l:List En}(p:En->Bool)(hcb:qv prog f=true)(hp:∀r∈l,th f H ([Go.Slp.Ev r]++caps) (Bo (p r)) H)(hl:l.length<4611686018427387904):
  th 283 H [lE l,.fn f [] caps] (Bo (l.any p)) H:=by
 refine zb.zX (fn:=f283) func283 V (uH ?_);refine⟨_,_,RQ p hcb hp hl,dd ?_⟩;refine zbt ?_;refine⟨λh=>?_,λh=>?_⟩ <;> rw[h]
 .exact gk
 .exact gk
def oZ(ep p:Int):Bool:=decide (p<0) || decide (p > ep+1)
def Pd(w:Wor)(p:Int)(h0:0<=w.zr)(h1:w.zr<=1000000000000):th 280 [oW w] ([I p]++[.ref 0 [] 8 0 0]) (Bo (oZ w.zr p)) [oW w]:=by
 have e:IntKind.i64.wrap (w.zr+1)=w.zr+1:=jF an an;refine zb.zX (fn:=f280) func280 V (uH ?_);refine⟨λh2=>?_,λh2=>?_⟩
 .refine dd ?_;exact⟨.inl V,_,.refl _,rfl,uN (by unfold oZ;rw[h2];rfl)⟩
 .refine dd ?_;rw[e];refine⟨λh3=>?_,λh3=>?_⟩
  .refine dd ?_;exact⟨.inl V,_,.refl _,rfl,uN (by unfold oZ;rw[h2,h3];rfl)⟩
  .refine dd ?_;exact⟨.inl V,_,.refl _,rfl,uN (by unfold oZ;rw[h2,h3];rfl)⟩
def jy(w:Wor):Bool:=decide (1<=w.pins.length) && decide (w.pins.length<=8) && decide (w.counts.length=w.pins.length) && yd w.counts && decide (0<=w.zr) && decide (w.zr<=1000000000000) && (decide (w.lock=0) || decide (w.lock=1)) && !w.pins.any (oZ w.zr)
def PD(w:Wor)(hp:w.pins.length<4000000000000000000)(hc:w.counts.length<4000000000000000000):th 254 [] [Cw w] (Bo (jy w)) []:=by
 have m1:(w.pins.map encI).length=w.pins.length:=pz ..;have m2:(w.counts.map zA).length=w.counts.length:=pz ..;refine ab func254 ?_;rw[m1];refine⟨λh1=>?_,λh1=>?_⟩
 ·(have e:jy w=false:=by (unfold jy;(rw[show decide (1<=w.pins.length)=false from by rw[rD];have:=pC h1;omega]);simp));exact gM
 refine dd ?_;refine⟨λh2=>?_,λh2=>?_⟩
 ·(have e:jy w=false:=by (unfold jy;(rw[show decide (w.pins.length<=8)=false from dg]);simp));exact gM
 refine dd ?_;rw[m2];refine⟨λh3=>?_,λh3=>?_⟩
 ·(have e:jy w=false:=by (unfold jy;(rw[show decide (w.counts.length=w.pins.length)=false from by rw[rD];intro hh;simp[hh]at h3]);simp));exact gM
 refine dd ?_;refine af (O8 w.counts hc) ?_;refine⟨λh4=>?_,λh4=>?_⟩
 rotate_left
 ·(have e:jy w=false:=by (unfold jy;(rw[h4]);simp));exact gM
 refine dd ?_;refine⟨λh5=>?_,λh5=>?_⟩
 ·(have e:jy w=false:=by (unfold jy;(rw[show decide (0<=w.zr)=false from by simp at h5|-;omega]);simp));exact gM
 refine dd ?_;refine⟨λh6=>?_,λh6=>?_⟩
 ·(have e:jy w=false:=by (unfold jy;(rw[show decide (w.zr<=1000000000000)=false from by simp at h6|-;omega]);simp));exact gM
 refine dd ?_;have b0:0<=w.zr:=by simp at h5;omega
 have b1:w.zr<=1000000000000:=by simp at h6;omega
 have hcon:=J8 (H:=[oW w]) (f:=280) (l:=w.pins) (caps:=[.ref 0 [] 8 0 0]) (oZ w.zr) ak (λr _=>Pd w r b0 b1) an
 have g0:jy w=((decide (w.lock=0) || decide (w.lock=1)) && !w.pins.any (oZ w.zr)):=by
  have h3':w.counts.length=w.pins.length:=aF
  unfold jy;rw[show decide (1<=w.pins.length)=true from by rw[decide_eq_true_iff];have:=pB h1;omega,show decide (w.pins.length<=8)=true from dg,show decide (w.counts.length=w.pins.length)=true from ai h3',h4,show decide (0<=w.zr)=true from ai b0,show decide (w.zr<=1000000000000)=true from ai b1]
  rfl
 have fin:∀hl:(decide (w.lock=0) || decide (w.lock=1))=true,jy w=!w.pins.any (oZ w.zr):=λhl=>by rw[g0,hl];rfl
 refine⟨λh7=>?_,λh7=>?_⟩
 .refine dd ?_;refine⟨λh8=>?_,λh8=>?_⟩
  .have e:jy w=false:=by rw[g0,show(decide (w.lock=0) || decide (w.lock=1))=false from by simp at h7 h8|-;omega];rfl
   rw[e];refine zac ?_
   exact uI
  rw[fin (by simp at h8|-;omega)];refine zac ?_
  refine ae [0] (hcon) ?_;refine⟨λh9=>?_,λh9=>?_⟩
  .refine dd ?_
   (exact⟨.inl V,_,.refl _,uN (by rw[h9];rfl)⟩)
  .refine dd ?_
   (exact⟨.inl V,_,.refl _,uN (by rw[h9];rfl)⟩)
 .rw[fin (by simp at h7|-;omega)];refine zac ?_
  refine ae [0] (hcon) ?_;refine⟨λh9=>?_,λh9=>?_⟩
  .refine dd ?_
   (exact⟨.inl V,_,.refl _,uN (by rw[h9];rfl)⟩)
  .refine dd ?_
   (exact⟨.inl V,_,.refl _,uN (by rw[h9];rfl)⟩)
def yC(x:fV)(e:En):Bool:=!Go.Slp.fS e || (e.next.length:Int) != x.yi
def OP(x:fV)(e:En)(he:e.ok):th 282 [oC x] ([Go.Slp.Ev e]++[.ref 0 [] 4 0 0]) (Bo (yC x e)) [oC x]:=by
 have m1:(e.next.map encI).length=e.next.length:=pz ..;refine zb.zX (fn:=f282) func282 V (uH ?_);refine af (Go.Slp.B2 e he) ?_;refine⟨λh1=>?_,λh1=>?_⟩
 rotate_left
 .refine dd ?_;exact⟨.inl V,_,zl.keep [3] 1 _ _ V V V V,rfl,uN (by unfold yC;rw[h1];rfl)⟩
 .refine dd ?_;rw[m1];refine⟨λh2=>?_,λh2=>?_⟩
  .refine dd ?_;exact⟨.inl V,_,zl.keep [3] 1 _ _ V V V V,rfl,uN (by unfold yC;rw[h1,h2];rfl)⟩
  .refine dd ?_;exact⟨.inl V,_,zl.keep [3] 1 _ _ V V V V,rfl,uN (by unfold yC;rw[h1,h2];rfl)⟩
structure Ft(v:fC):Prop where
 snap:y6 v.snap
 zg:v.zg.length<1000000000000
 ends : ∀g∈v.zg, g.ends.length<1000000000000 /\ ∀e∈g.ends, e.ok
def kS(v:fC)(i:Nat):Bool:=match v.zg[i]?,v.snap.zj[i]? with
 |some g,some x=>decide (g.ends.length=x.zM.length) && !g.ends.any (yC x)
 |_,_=>true
def we(v:fC):Bool:=yO v.snap && decide (v.zg.length=v.snap.zj.length) && (List.range v.zg.length).all (kS v)
def Pb(v:fC)(hv:Ft v):th 256 [] [Cv v] (Bo (we v)) []:=by
 have m1:(v.zg.map zy).length=v.zg.length:=pz ..;have m2:(v.snap.zj.map jx).length=v.snap.zj.length:=pz ..;have hgl:=hv.zg;refine ab func256 ?_;refine af (Jj v.snap hv.snap) ?_;refine⟨λh1=>?_,λh1=>?_⟩
 rotate_left
 .have e:we v=false:=by unfold we;rw[h1];rfl
  rw[e];refine zac ?_
  exact uI
 refine dd ?_;rw[m1,m2];refine⟨λh2=>?_,λh2=>?_⟩
 .have e:we v=false:=by unfold we;rw[show decide (v.zg.length=v.snap.zj.length)=false from by rw[rD];intro hh;simp[hh]at h2,sT];rfl
  rw[e];refine zac ?_
  exact uI
 have h2':v.zg.length=v.snap.zj.length:=aD
 refine zac ?_
 rw[m1];refine zH.seq v.zg.length (λk=>(.za::.ref 0 [] 5 0 0::Bo false::mL (mL (.za::.za::.za::(lG v.zg)::I v.zg.length::I k::mL (mL (mL ([.za]))))))) (λk=>[⟨1,106,5,[zt v],0⟩]) (λk=>∀j,j<k->kS v j=true) ?_ ah (λk hk hr=>?_) (λhr=>?_)
 .exact cC
 .obtain⟨g,hg⟩:∃g,g=v.zg[k]:=⟨_,rfl⟩;obtain⟨x,hx⟩:∃x,x=v.snap.zj[k]'an:=⟨_,rfl⟩;have gg:(v.zg.map zy)[k]?=some (zy g):=by rw[pw,pq hk,hg];rfl
  have gx:(v.snap.zj.map jx)[k]?=some (jx x):=by rw[pw,pq an,hx];rfl
  have hgm:g∈v.zg:=by rw[hg];exact gp
  have me:(g.ends.map zx).length=g.ends.length:=pz ..;have mh:(x.zM.map yK).length=x.zM.length:=pz ..
  have hd:kS v k=(decide (g.ends.length=x.zM.length) && !g.ends.any (yC x)):=by
   unfold kS;rw[pq hk,pq an,<-hg,<-hx]
  have bad:kS v k=false->we v=false:=λh=>by
   have:(List.range v.zg.length).all (kS v)=false:=by rw[so];exact⟨k,ai hk,aA⟩
   unfold we;rw[this,sT]
  have hcon:=RT (H:=[oC x]) (f:=282) (l:=g.ends) (caps:=[.ref 0 [] 4 0 0]) (yC x) ak (λr hr=>OP x r ((hv.ends g hgm).2 r hr)) (by have:=(hv.ends g hgm).1;omega);conv=>whnf
  refine uF ?_;(refine te gg ?_)
  (refine te gx ?_)
  rw[me,mh];refine⟨λh3=>?_,λh3=>?_⟩
  .rw[bad (by rw[hd,show decide (g.ends.length=x.zM.length)=false from by rw[rD];intro hh;simp[hh]at h3];rfl)];refine zac ?_
   refine zaw ?_
   exact uI
  refine dd ?_;refine ae [2] (hcon) ?_;refine⟨λh4=>?_,λh4=>?_⟩
  .rw[bad (by rw[hd,h4,ey,sT])];refine zac ?_
   refine zaw ?_
   exact uI
  refine zac ?_
  refine .inl ⟨rfl,?_,λj hj=>?_⟩
  .exact dG
  .by_cases e:j=k
   .subst e;rw[hd,h4];simp at h3|-;omega
   .exact hr j an
 .have e:we v=true:=by
   unfold we;rw[h1,show decide (v.zg.length=v.snap.zj.length)=true from ai h2',Bool.true_and,Bool.true_and,pG]
   exactλi hi=>hr i (ai hi)
  rw[e];refine uD ?_;exact uI
def yX(l:List fK):List (Int×Value):=l.foldl (λm r=>yF m r.version (Value.bool r.gone)) []
def yY(l:List fK)(i:Int):Bool:=match ((jm (yX l) i).bind λj=>((yX l)[j]?).map (·.2):Option Value) with
 |some (.bool b)=>b
 |_=>false
def Ve{m:List (Int×Value)}(h:∀kv∈m,∃b,kv.2=Value.bool b)(k:Int)(b:Bool):∀kv∈yF m k (Value.bool b),∃b,kv.2=Value.bool b:=λkv hm=>by
 unfold yF at hm;split at hm
 .rcases rU hm with hm|rfl
  .exact h kv hm
  .exact⟨b,rfl⟩
 .rcases pS.1 hm with hm|hm
  .exact h kv hm
  .rw[rH.1 hm];exact⟨b,rfl⟩
def RL(l:List fK):∀kv∈yX l,∃b,kv.2=Value.bool b:=by
 unfold yX
 suffices key:∀(l:List fK) (m:List (Int×Value)),(∀kv∈m,∃b,kv.2=Value.bool b)->∀kv∈l.foldl (λm r=>yF m r.version (Value.bool r.gone)) m,∃b,kv.2=Value.bool b from key l [] ah
 intro l
 induction l with
 |nil=>intro m h;exact h
 |cons r l ih=>intro m h;exact ih _ (Ve h _ _)
def VU(l:List fK)(i:Int):(((jm (yX l) i).bind λj=>((yX l)[j]?).map (·.2)).getD (Value.bool false))=Value.bool (yY l i):=by
 unfold yY;cases h:(jm (yX l) i).bind λj=>((yX l)[j]?).map (·.2) with
 |none=>rfl
 |some v=>
  obtain⟨j,_,hj⟩:=r3.1 h;obtain⟨kv,h1,rfl⟩:=rq.1 hj;obtain⟨b,hb⟩:=RL l kv (pE h1);simp only[rO];rw[hb]
def T5(l:List fK){k:Nat}{r:fK}(h:l[k]?=some r):yX (l.take (k+1))=yF (yX (l.take k)) r.version (Value.bool r.gone):=by
 obtain⟨hk,rfl⟩:=px.1 h;unfold yX;rw[ru hk,fc]
 rfl
structure fG(w:Wor):Prop where
 pins:w.pins.length<1000000000000
 zd:w.zd.length<1000000000000/\∀v∈w.zd,Ft v
 zc:w.zc.length<1000000000000/\∀l∈w.zc,l.ok
 counts:w.counts.length<1000000000000/\∀r∈w.counts,r.length<1000000000000
 zn:w.zn.length<1000000000000
def yD(w:Wor)(r:fK):Bool:=decide (r.version≥(w.zd.length:Int)) || r.version == w.current || decide (r.at_ > w.zr)
def oI(w:Wor)(i:Nat):Bool:=match w.zd[i]? with
 |some v=>we v && (v.qH == yY w.zn i)
 |none=>true
def nU(w:Wor)(i:Nat):Bool:=match w.zc[i]? with
 |some l=>Go.Gat.fS l && decide (zZ w.zc l.name=i)
 |none=>true
def j7(w:Wor):Bool:=jy w && (decide (0<=w.current) && decide (w.current<w.zd.length)) && Go.Lim.fS w.zn && !w.zn.any (yD w) && (List.range w.zd.length).all (oI w) && (List.range w.zc.length).all (nU w)
def Pc(w:Wor)(hw:fG w):th 207 [] [Cw w] (Bo (j7 w)) []:=by
 have m1:(w.zd.map zt).length=w.zd.length:=pz ..;have m2:(w.zn.map qk).length=w.zn.length:=pz ..;have m3:(w.zc.map zT).length=w.zc.length:=pz ..;have b1:=hw.pins;have b2:=hw.zd.1;have b3:=hw.zc.1;have b4:=hw.counts.1;have b5:=hw.zn;refine ab func207 ?_;refine af (PD w an an) ?_;refine⟨λh1=>?_,λh1=>?_⟩
 rotate_left
 ·(have e:j7 w=false:=by (unfold j7;(rw[h1]);simp));exact gM
 refine dd ?_;refine⟨λh2=>?_,λh2=>?_⟩
 ·(have e:j7 w=false:=by (unfold j7;(rw[show decide (0<=w.current)=false from dg]);simp));exact gM
 refine dd ?_;rw[m1];refine⟨λh3=>?_,λh3=>?_⟩
 ·(have e:j7 w=false:=by (unfold j7;(rw[show decide (w.current<w.zd.length)=false from dh]);simp));exact gM
 refine dd ?_;refine af (Go.Lim.B2 (l:=w.zn) an) ?_;refine⟨λh4=>?_,λh4=>?_⟩
 rotate_left
 ·(have e:j7 w=false:=by (unfold j7;(rw[h4]);simp));exact gM
 refine zac ?_
 intro b;refine dd ?_;rw[m2]
 have g0:j7 w=(!w.zn.any (yD w) && (List.range w.zd.length).all (oI w) && (List.range w.zc.length).all (nU w)):=by
  unfold j7;rw[h1,show decide (0<=w.current)=true from dg,show decide (w.current<w.zd.length)=true from dh,h4]
  rfl
 refine zH.seq w.zn.length (λk=>(.za::.ref 0 [] 8 0 0::Bo false:: .v (.map (some b)):: .za::.za::.za::.za::.za::.za::mL (mL (mL (lR w.zn::I w.zn.length::I k:: .za::.za::.za::.za::.za::.za::mL (jp (mL (mL (mL ([])))))))))) (λk=>[oW w,ix b (jK qo (yX (w.zn.take k))) (yX (w.zn.take k)).length]) (λk=>∀j,(h:j<w.zn.length)->j<k->yD w w.zn[j]=false) ?_ ah (λk hk hr=>?_) (λhr=>?_)
 .exact cC
 .obtain⟨r,hx⟩:∃r,r=w.zn[k]:=⟨_,rfl⟩;have hx2:w.zn[k]?=some r:=by rw[pq hk,hx]
  have hg:(w.zn.map qk)[k]?=some (qk r):=by rw[pw,hx2];rfl
  have bad:yD w r=true->j7 w=false:=λh=>by
   have:w.zn.any (yD w)=true:=rJ.2 ⟨r,pE hx2,h⟩;rw[g0,this];rfl
  conv=>whnf
  refine zaD ?_
  rw[m1];refine⟨λh5=>?_,λh5=>?_⟩
  ·(rw[bad (by unfold yD;rw[h5];rfl)]);exact zba
  refine dd ?_;refine⟨λh6=>?_,λh6=>?_⟩
  ·(rw[bad (by unfold yD;rw[h6,uh];rfl)]);exact zba
  refine dd ?_;refine⟨λh7=>?_,λh7=>?_⟩
  ·(rw[bad (by unfold yD;rw[h7,uh])]);exact zba
  refine zac ?_
  refine⟨λq=>?_,λq=>?_⟩
  all_goals
   refine dd ?_;refine⟨_,_,fE.mapUpdate (id:=1) _ _ _ _ (.inl V) underlying286 (mu.int underlying3) V V r.version (λE u h=>jJ h) (.bool r.gone) (λE u h=>by rw[q];exact jJ h),dd ?_⟩;refine .inl ⟨rfl,?_,λj hj hjk=>?_⟩
   .rw[zk an,<-T5 w.zn hx2];exact cE 2
   .by_cases e:j=k
    .subst e;rw[<-hx];unfold yD;rw[h5,h6,h7];rfl
    .exact gE
 have hl0:w.zn.any (yD w)=false:=by
  rw[rk];intro x hx;obtain⟨j,hj,rfl⟩:=pU.1 hx;simp[hr j hj hj]
 rw[pQ];refine uD ?_;rw[m1];have g1:j7 w=((List.range w.zd.length).all (oI w) && (List.range w.zc.length).all (nU w)):=by rw[g0,hl0];rfl
 refine zH.seq w.zd.length (λk=>(.za::.ref 0 [] 8 0 0::Bo false:: .v (.map (some b)):: .za::.za::.za::.za::.za::.za::.za::mL (jp (mL (mL (lV w.zd::I w.zd.length::I k:: .za::.za::.za::.za::.za::mL (mL (mL (mL ([])))))))))) (λk=>[oW w,ix b (jK qo (yX (w.zn))) (yX (w.zn)).length]) (λk=>∀j,j<k->oI w j=true) ?_ ah (λk hk hr=>?_) (λhr=>?_)
 .exact cC
 .obtain⟨v,hx⟩:∃v,v=w.zd[k]:=⟨_,rfl⟩;have hx2:w.zd[k]?=some v:=by rw[pq hk,hx]
  have hg:(w.zd.map zt)[k]?=some (zt v):=by rw[pw,hx2];rfl
  have hd:oI w k=(we v && (v.qH == yY w.zn k)):=by unfold oI;rw[hx2]
  have bad:oI w k=false->j7 w=false:=λh=>by
   have:(List.range w.zd.length).all (oI w)=false:=by rw[so];exact⟨k,ai hk,aA⟩
   rw[g1,this];rfl
  conv=>whnf
  refine zaD ?_
  refine af (Pb v (hw.zd.2 v (pE hx2))) ?_;refine⟨λh5=>?_,λh5=>?_⟩
  rotate_left
  ·(rw[bad (by rw[hd,h5];rfl)]);exact zba
  refine dd ?_;refine⟨λq=>?_,λq=>?_⟩
  all_goals
   refine dd ?_;refine⟨_,_,fE.lookup (id:=1) _ _ _ V underlying286 (mu.int underlying3) V V (k:Int) (λE u h=>jJ h) (c:=Bo (yY w.zn k)) V V (λE=>by rw[VU];exact .v _ V),dd ?_⟩;refine⟨λq2=>?_,λq2=>?_⟩
   ·(rw[bad (by rw[hd,q];simp at q2;simp[q2])]);exact zba
   refine zac ?_
   refine .inl ⟨rfl,?_,λj hj=>?_⟩
   .exact gL
   .by_cases e:j=k
    .subst e;rw[hd,h5,q];simp at q2;simp[q2]
    .exact hr j an
 have hv0:(List.range w.zd.length).all (oI w)=true:=by
  rw[pG]
  exactλi hi=>hr i (ai hi)
 have g2:j7 w=(List.range w.zc.length).all (nU w):=by rw[g1,hv0];rfl
 refine uD ?_;rw[m3];refine zH.seq w.zc.length (λk=>(.za::.ref 0 [] 8 0 0::Bo false:: .v (.map (some b)):: .za::.za::.za::mL (jp (jp (mL (lL w.zc::I w.zc.length::I k:: .za::mL (mL ([])))))))) (λk=>[oW w,ix b (jK qo (yX (w.zn))) (yX (w.zn)).length]) (λk=>∀j,j<k->nU w j=true) ?_ ah (λk hk hr=>?_) (λhr=>?_)
 .exact cC
 .obtain⟨l,hx⟩:∃l,l=w.zc[k]:=⟨_,rfl⟩;have hx2:w.zc[k]?=some l:=by rw[pq hk,hx]
  have hg:(w.zc.map zT)[k]?=some (zT l):=by rw[pw,hx2];rfl
  have hd:nU w k=(Go.Gat.fS l && decide (zZ w.zc l.name=k)):=by unfold nU;rw[hx2]
  have bad:nU w k=false->j7 w=false:=λh=>by
   have:(List.range w.zc.length).all (nU w)=false:=by rw[so];exact⟨k,ai hk,aA⟩
   rw[g2,this]
  conv=>whnf
  refine zaD ?_
  refine af (Go.Gat.B2 l (hw.zc.2 l (pE hx2))) ?_;refine⟨λh5=>?_,λh5=>?_⟩
  rotate_left
  ·(rw[bad (by rw[hd,h5];rfl)]);exact zba
  refine dd ?_;refine af (vr w.zc l.name an) ?_;refine⟨λh6=>?_,λh6=>?_⟩
  ·(rw[bad (by rw[hd,show decide (zZ w.zc l.name=(k:Int))=false from by rw[rD];intro hh;simp[hh]at h6,sT])]);exact zba
  refine zac ?_
  refine .inl ⟨rfl,?_,λj hj=>?_⟩
  .exact gL
  .by_cases e:j=k
   .subst e;rw[hd,h5];simp at h6;simp[h6]
   .exact hr j an
 .have hl1:(List.range w.zc.length).all (nU w)=true:=by
   rw[pG]
   exactλi hi=>hr i (ai hi)
  rw[g2,hl1];refine uD ?_;exact uI
end Go.Wor
