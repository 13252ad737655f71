import Derived.Test.YtamgiodaflkbhaaGreatTF
import Derived.Test.YtamgiodaflkbhaaGreatTS
import Derived.Test.YtamgiodaflkbhaaGreatTT
set_option linter.all false
set_option maxRecDepth 100000
set_option maxHeartbeats 4000000
namespace Go.Wor
open Go.Ab Go.Proofs Tryz Go.Hy Go.Gat Go.Nam Go.Hos Go.Con Go.Sna
def xH(l:List eU)(n:Int):eU:=if 0<=n/\n<l.length then (l[n.toNat]?).getD [] else []
def xr(l:List fq)(n:Int):eU:=if 0<=n/\n<l.length then ((l[n.toNat]?).map (·.name)).getD [] else []
def iT(s:Sna)(r:fU):mr:=⟨xH s.zc r.listen,r.host,r.path,xr s.zi r.zp⟩
def iD(s:Sna):fC:=⟨s.zc,s.rules.map (iT s),s.zi⟩
def yN(s:Sna):Bool:=(qp (iD s)).1 == 0
structure yR(s:Sna):Prop where
 zc:s.zc.length<1000000000000/\∀x∈s.zc,x.length<4000000000000000000
 rules:s.rules.length<1000000000000/\∀r∈s.rules,r.host.length<4000000000000/\r.path.length<4000000000000
 zi:s.zi.length<1000000000000/\∀x∈s.zi,x.name.length<4000000000000000000/\x.zL.length<4000000000000000000
def yR.cfg{s:Sna}(h:yR s):jv (iD s):=by
 refine⟨h.zc,⟨by simpa [iD] using h.rules.1,λr hr=>?_⟩,h.zi⟩;simp only[iD,pO]at hr;obtain⟨q,hq,rfl⟩:=hr;refine⟨?_,(h.rules.2 q hq).1,(h.rules.2 q hq).2,?_⟩
 .show(xH s.zc q.listen).length<_;unfold xH;split
  .cases hx:s.zc[q.listen.toNat]? with
   |none=>simp
   |some x=>exact h.zc.2 x (gT hx)
  .simp
 .show(xr s.zi q.zp).length<_;unfold xr;split
  .cases hx:s.zi[q.zp.toNat]? with
   |none=>simp
   |some x=>exact(h.zi.2 x (gT hx)).1
  .simp
def OX(s:Sna)(hs:yR s):th 162 [] [Cs s] (Cf (iD s)) []:=by
 have m1:(s.rules.map q9).length=s.rules.length:=gO ..;have m2:(s.zc.map qe).length=s.zc.length:=gO ..;have m3:(s.zi.map jl).length=s.zi.length:=gO ..;have hl:=hs.rules.1;refine ab func162 ?_;rw[m1];refine zH.seq s.rules.length (λk=>(.za::.ref 0 [] 3 0 0:: .ref 1 [] 3 0 0:: .ref 2 [] 3 0 0:: .za::mK (vM s.rules::I s.rules.length::I k:: .za::.za::.za::.za::.za::mK (jp (mK ([])))))) (λk=>[⟨1,86,3,[qP s],0⟩,⟨1,26,3,[[.eM 1 0 [],.eM 1 0 [],.eM 1 0 []]],0⟩,⟨1,26,3,[[lT s.zc,.gl 3 4 (((s.rules.take k).map (iT s)).map xy),lC s.zi]],0⟩,⟨4,116,4,((s.rules.take k).map (iT s)).map xy,0⟩]) (λk=>True) ?_ trivial (λk hk hr=>?_) (λhr=>?_)
 .refine zk.trans (zk.qM 2 1 116 4 V V (.inl V) V V) ?_;exact cC
 .obtain⟨r,hx⟩:∃r,r=s.rules[k]:=⟨_,rfl⟩;have hg:(s.rules.map q9)[k]?=some (q9 r):=by rw[gM,gL hk,hx];rfl
  have hlg:(((s.rules.take k).map (iT s)).map xy).length=k:=ar
  have eg:((s.rules.take (k+1)).map (iT s)).map xy=((s.rules.take k).map (iT s)).map xy++[xy (iT s r)]:=bC
  have hv:∀a b,a=xH s.zc r.listen->b=xr s.zi r.zp->xy ⟨a,r.host,r.path,b⟩=xy (iT s r):=λa b h1 h2=>by rw[h1,h2];rfl
  conv=>whnf
  refine zay ?_
  refine⟨λh1=>?_,λh1=>?_⟩
  rotate_left
  .refine zac ?_
   refine⟨λq1=>?_,λq1=>?_⟩;rotate_left;(focus (refine dd ?_;refine td ?_;(refine⟨rfl,.inr V,bD,bU,dd ?_⟩);(refine .inl ⟨rfl,?_,trivial⟩);(rw[zm an,eg,<-hv _ _ tO tP]);exact cE 4));refine dd ?_;(rw[m3]);refine⟨λq2=>?_,λq2=>?_⟩;rotate_left;(focus (refine dd ?_;refine td ?_;(refine⟨rfl,.inr V,bD,bU,dd ?_⟩);(refine .inl ⟨rfl,?_,trivial⟩);(rw[zm an,eg,<-hv _ _ tO tR]);exact cE 4));(have q3:r.zp.toNat<s.zi.length:=by simp at q1 q2;omega);(have gq:(s.zi.map jl)[r.zp.toNat]?=some (jl s.zi[r.zp.toNat]):=by rw[gM,gL q3];rfl);refine zaR ?_;(rw[zm an,eg,<-hv _ _ tO (by unfold xr;rw[gS bV,gL q3])]);exact cE 4
  refine dd ?_;rw[m2];refine⟨λh2=>?_,λh2=>?_⟩
  rotate_left
  .refine zac ?_
   refine⟨λq1=>?_,λq1=>?_⟩;rotate_left;(focus (refine dd ?_;refine td ?_;(refine⟨rfl,.inr V,bD,bU,dd ?_⟩);(refine .inl ⟨rfl,?_,trivial⟩);(rw[zm an,eg,<-hv _ _ tS tP]);exact cE 4));refine dd ?_;(rw[m3]);refine⟨λq2=>?_,λq2=>?_⟩;rotate_left;(focus (refine dd ?_;refine td ?_;(refine⟨rfl,.inr V,bD,bU,dd ?_⟩);(refine .inl ⟨rfl,?_,trivial⟩);(rw[zm an,eg,<-hv _ _ tS tR]);exact cE 4));(have q3:r.zp.toNat<s.zi.length:=by simp at q1 q2;omega);(have gq:(s.zi.map jl)[r.zp.toNat]?=some (jl s.zi[r.zp.toNat]):=by rw[gM,gL q3];rfl);refine zaR ?_;(rw[zm an,eg,<-hv _ _ tS (by unfold xr;rw[gS bV,gL q3])]);exact cE 4
  have h3:r.listen.toNat<s.zc.length:=bW
  have gl:(s.zc.map qe)[r.listen.toNat]?=some (qe s.zc[r.listen.toNat]):=by rw[gM,gL h3];rfl
  refine zac ?_
  refine⟨by simp at h1;omega,_,gl,dd ?_⟩;refine⟨λq1=>?_,λq1=>?_⟩;rotate_left;(focus (refine dd ?_;refine td ?_;(refine⟨rfl,.inr V,bD,bU,dd ?_⟩);(refine .inl ⟨rfl,?_,trivial⟩);(rw[zm an,eg,<-hv _ _ (by unfold xH;rw[gS bW,gL h3]) tP]);exact cE 4));refine dd ?_;(rw[m3]);refine⟨λq2=>?_,λq2=>?_⟩;rotate_left;(focus (refine dd ?_;refine td ?_;(refine⟨rfl,.inr V,bD,bU,dd ?_⟩);(refine .inl ⟨rfl,?_,trivial⟩);(rw[zm an,eg,<-hv _ _ (by unfold xH;rw[gS bW,gL h3]) tR]);exact cE 4));(have q3:r.zp.toNat<s.zi.length:=by simp at q1 q2;omega);(have gq:(s.zi.map jl)[r.zp.toNat]?=some (jl s.zi[r.zp.toNat]):=by rw[gM,gL q3];rfl);exact zch
 .refine uD ?_;exact dZ
def It(s:Sna)(hs:yR s):th 116 [] [Cs s] (Bo (yN s)) []:=by
 refine ab func116 ?_;refine af (OX s hs) ?_;refine af (check_sound (iD s) hs.cfg) ?_;refine⟨λh=>?_,λh=>?_⟩
 .refine dd ?_
  (exact⟨.inl V,_,.refl _,uN bY⟩)
 .refine dd ?_
  (exact⟨.inl V,_,.refl _,uN bY⟩)
end Go.Wor
namespace Go.Wor
open Go.Ab Go.Proofs Tryz Go.Hy Go.Gat Go.Nam Go.Hos Go.Con Go.Sna
open Go.Slp (yF HZ)
variable{α:Type}{rows:List (List C)}
def D6{f:Nat->Int}{n:Nat}(h:(ja f n).1=0):∀j,j<n->f j=0:=λj hj=>by
 unfold ja at h;split at h
 .rename_i i hi;rw[List.find?_range_eq_some]at hi;exact absurd h (ai hi.1)
 .rename_i hn;rw[List.find?_range_eq_none]at hn;simpa using hn j hj
structure GQ(x:fq):Prop where
 name:jO x.name=true
 jJ:x.jJ=1\/x.jJ=2
 xY:1<=x.xY/\x.xY<=4
 zL:1<=x.zL.length/\x.zL.length<=4
structure WB(s:Sna):Prop where
 zc:1<=s.zc.length/\s.zc.length<=4
 rules:1<=s.rules.length/\s.rules.length<=8
 zi:1<=s.zi.length/\s.zi.length<=4
 all:∀x∈s.zi,GQ x
def yd{s:Sna}(h:yN s=true):WB s:=by
 unfold yN at h;have h:(qp (iD s)).1=0:=ai h
 unfold qp at h;split at h
 .contradiction
 rename_i h1;split at h
 .contradiction
 rename_i h2;split at h
 .contradiction
 rename_i h3;have h1:(xX (iD s)).1=0:=ai h1
 unfold xX at h1;split at h1
 .cases h1
 rename_i h4;have e:(iD s).zK.length=s.rules.length:=by simp[iD]
 rw[e]at h4;simp only[show(iD s).zc=s.zc from V,show(iD s).zi=s.zi from V]at h4;have b:∀n:Nat,∀m:Int,¬(decide (1<=(n:Int)) && decide ((n:Int)<=m))=false->1<=n/\(n:Int)<=m:=λn m hh=>by simp at hh;omega
 have q1:=b s.zc.length 4 λhh=>h4 (.inl (.inl hh))
 have q2:=b s.rules.length 8 λhh=>h4 (.inl (.inr hh))
 have q3:=b s.zi.length 4 λhh=>h4 (.inr hh)
 refine⟨an,an,an,λx hx=>?_⟩;obtain⟨i,hi,rfl⟩:=pz.1 hx;have h5:=D6 (f:=iE s.zi) (n:=s.zi.length) (Decidable.of_not_not h3) i hi;unfold iE at h5;rw[gL hi]at h5;dsimp only at h5;split at h5
 .cases h5
 rename_i p1;split at h5
 .cases h5
 split at h5
 .cases h5
 rename_i p2;split at h5
 .cases h5
 rename_i p3;split at h5
 .cases h5
 rename_i p4;refine⟨ai p1,?_,?_,?_⟩
 .by_cases a:s.zi[i].jJ=1
  .exact .inl a
  .by_cases a2:s.zi[i].jJ=2
   .exact .inr a2
   .exact absurd ⟨a,a2⟩ p2
 .simp at p3;omega
 .simp at p4;omega
abbrev jU(x:fq):En:=(yF x.xY).1
def K5{x:fq}(h:GQ x):yF x.xY=(jU x,0):=by
 have:=h.xY;unfold jU yF;rw[gP an]
def vK(x:fq):Gr:=⟨0,List.replicate x.zL.length (jU x)⟩
abbrev XT:Sna:=⟨[],[],[]⟩
abbrev CY:eX:=⟨XT,[],false⟩
def qA(s:Sna):eX×Int:=if yN s then (⟨s,s.zi.map vK,false⟩,0) else (CY,1)
abbrev Cv(v:eX):C:=.agg (zt v)
abbrev tV(r:eX×Int):C:=.eR [Cv r.1,I r.2]
def IH(s:Sna)(hs:yR s):th 62 [] [Cs s] (tV (qA s)) []:=by
 have m1:(s.zi.map jl).length=s.zi.length:=gO ..;refine ab func62 ?_;refine af (It s hs) ?_;refine⟨λh1=>?_,λh1=>?_⟩
 rotate_left
 .have e:qA s=(CY,1):=by unfold qA;rw[gP aE]
  rw[e];refine zac ?_
  exact⟨.inl V,_,zk.var 1 V V V (.cons (WC.nil 0 1) (.cons (WC.nil 0 4) (.cons (WC.nil 0 4) (.cons (WC.nil 0 2) (.cons (.refl _) .nil))))),rfl⟩
 have e:qA s=(⟨s,s.zi.map vK,false⟩,0):=by unfold qA;rw[gS h1]
 have hg:=yd h1;rw[e];refine zac ?_
 rw[m1];refine zH.seq s.zi.length (λk=>(.za::.ref 0 [] 3 0 0::.ref 1 [] 5 0 0::I 0::.ref 2 [] 5 0 0::mK (.za::.za::.za::.za::(lC s.zi)::I s.zi.length::I k::mK (mK (mK (mK ([.za]))))))) (λk=>[⟨1,86,3,[qP s],0⟩,⟨1,106,5,[[.eM 1 0 [],.eM 1 0 [],.eM 1 0 [],.eM 1 0 [],Bo false]],0⟩,⟨1,106,5,[qP s++[.gl 3 2 (((s.zi.take k).map vK).map zy),Bo false]],0⟩,⟨4,111,2,((s.zi.take k).map vK).map zy,0⟩]) (λk=>True) ?_ trivial (λk hk hr=>?_) (λhr=>?_)
 .refine zk.trans (zk.qM 2 3 111 2 V V (.inl V) V V) ?_;exact cC
 .obtain⟨x,hx⟩:∃x,x=s.zi[k]:=⟨_,rfl⟩;have hgx:(s.zi.map jl)[k]?=some (jl x):=by rw[gM,gL hk,hx];rfl
  have hgood:=hg.all x uY;have hc4:=hg.zi.2;have h4:=hgood.zL.2;have hlg:(((s.zi.take k).map vK).map zy).length=k:=ar
  have eg:((s.zi.take (k+1)).map vK).map zy=((s.zi.take k).map vK).map zy++[zy (vK x)]:=bC
  have mh:(x.zL.map yt).length=x.zL.length:=gO ..
  have fs:th 117 [] [I x.xY] (.eR [.agg (zu (jU x)),I 0]) []:=by
   have:=HZ x.xY;rw[K5 hgood]at this;exact dW
  conv=>whnf
  refine uF ?_;(refine te hgx ?_)
  rw[mh];refine zH.seq x.zL.length (λj=>(.za::.ref 0 [] 3 0 0::.ref 1 [] 5 0 0::I 0::.ref 2 [] 5 0 0::.za::.ref 4 [] 4 0 0::.ref 5 [] 2 0 0::mK (.za::(lC s.zi)::I s.zi.length::I k::.za::.za::.za::.za::.za::I x.zL.length::I j::mK (mK (mK ([.za,.za])))))) (λj=>[⟨1,86,3,[qP s],0⟩,⟨1,106,5,[[.eM 1 0 [],.eM 1 0 [],.eM 1 0 [],.eM 1 0 [],Bo false]],0⟩,⟨1,106,5,[qP s++[.gl 3 2 (((s.zi.take k).map vK).map zy),Bo false]],0⟩,⟨4,111,2,((s.zi.take k).map vK).map zy,0⟩,oC x,⟨1,111,2,[[U 0,.gl 6 3 ((List.replicate j (jU x)).map zu)]],0⟩,⟨4,151,3,((List.replicate j (jU x)).map zu),0⟩]) (λk=>True) ?_ trivial (λj hj hr=>?_) (λhr=>?_)
  .refine zk.trans (zk.qM 5 1 151 3 V V (.inl V) V V) ?_;exact cC
  .have hle:(((List.replicate j (jU x)).map zu)).length=j:=by simp
   have ee:((List.replicate (j+1) (jU x)).map zu)=((List.replicate j (jU x)).map zu)++[zu (jU x)]:=by rw[s9,pZ];rfl
   conv=>whnf
   refine uF ?_;refine af fs ?_;refine td ?_
   refine⟨rfl,.inr V,by rw[hle];simp[maxLen];omega,by rw[hle];show(j+1)*40<=_;omega,dd ?_⟩;refine zai ?_;rw[zm an,ee];exact cE 7
  .refine uD ?_;refine⟨rfl,.inr V,bD,by rw[hlg];show(k+1)*32<=_;omega,dd ?_⟩;exact gE
 .refine uD ?_;exact dZ
def wC(n:Int):List (List Int)×Int:=if n<1\/8<n then ([],1) else (List.replicate n.toNat [0,0,0,0,0,0],0)
abbrev M8(r:List (List Int)×Int):C:=.eR [ff r.1,I r.2]
def xV(c:List (List Int)):Bool:=c.all (λr=>r.length == 6) && decide (1<=c.length) && decide (c.length<=8)
def K7(h:(rows.all λr=>r.all λc=>jM c && zG c)=true):∀r∈rows,∀c∈r,jM c=true/\zG c=true:=λr hr c hc=>by
 have:=gV.1 (gV.1 h r hr) c hc;simpa using this
def shut_map{enc:α->List C}(h:∀x,(enc x).all (λc=>jM c && zG c)=true)(l:List α):∀r∈l.map enc,∀c∈r,jM c=true/\zG c=true:=
 K7 (by rw[List.all_map];exact gV.2 λx _=>h x)
def qm{n ty sz fz:Nat}(h:∀r∈rows,∀c∈r,qE n 9 c=true):ql n [⟨1,ty,sz,rows,fz⟩]=true:=by
 unfold ql;simp only[sE,ug,tu];simp;exact h
def V6(a b:α){k n:Nat}(h:k<n):(List.replicate k a++List.replicate (n-k) b).set k a=List.replicate (k+1) a++List.replicate (n-(k+1)) b:=by
 rw[uv _ _ ah];have e:n-k=(n-(k+1))+1:=an
 simp only[ux,r7];rw[e,sS,List.set_cons_zero,s9,rL]
 rfl
def V5(a b:α){k n:Nat}(h:k<n):(List.replicate k a++List.replicate (n-k) b)[k]?=some b:=by
 rw[pq ah];simp only[ux,r7];have e:n-k=(n-(k+1))+1:=an
 rw[e,sS]
 rfl
def N4(n:Int):th 63 [] [I n] (M8 (wC n)) []:=by
 refine ab func63 ?_;refine⟨λh1=>?_,λh1=>?_⟩
 .have e:wC n=([],1):=by unfold wC;rw[gS (by simp at h1;omega)]
  rw[e];refine zac ?_
  exact du
 refine dd ?_;refine⟨λh2=>?_,λh2=>?_⟩
 .have e:wC n=([],1):=by unfold wC;rw[gS aC]
  rw[e];refine zac ?_
  exact du
 have b1:1<=n/\n<=8:=bW
 have e:wC n=(List.replicate n.toNat [0,0,0,0,0,0],0):=by unfold wC;rw[gP an]
 rw[e];refine dd ?_;refine⟨rfl,an,by show(24:Int)*n<=_;omega,an,dd ?_⟩;refine zH.seq n.toNat (λk=>(I n::.za::.eM 1 0 []::I 0::.sl 0 [] 1 0 n.toNat false::mK (.za::.za::I n.toNat::I k::mK ([])))) (λk=>[⟨1,0,1,(List.replicate k [lU [0,0,0,0,0,0]]++List.replicate (n.toNat-k) [C.eM 1 0 []]),0⟩]) (λk=>True) ?_ trivial (λk hk hr=>?_) (λhr=>?_)
 .refine zk.trans (zk.BO 0 V (by intro r hr c hc;rw[ry hr]at hc;rw[pX.1 hc];rfl)) ?_;exact cC
 .conv=>whnf
  refine uF ?_;refine⟨rfl,aj,by show(8:Int)*6<=_;decide,aj,dd ?_⟩;refine⟨an,ar,dd ?_⟩;have e1:0+(k:Int).toNat=k:=ah
  rw[e1];refine⟨_,V5 _ _ hk,rfl,dd ?_⟩;refine zai ?_;refine zk.trans (zk.zN 0 k 0 (r:=[.sl 1 [] 1 0 6 false]) V (by rw[pd,gS V,gS ar];rfl) V V (.inr V) V V ?_ ?_) ?_
  .exact K7 (rows:=List.replicate 6 [U 0]) V
  .intro r hr c hc;rcases rB hr with hr|rfl
   .rcases pw.1 hr with hr|hr <;> (rw[ry hr]at hc;rw[pX.1 hc];rfl)
   .rw[pX.1 hc];rfl
  .have e3:(List.replicate k [lU [0,0,0,0,0,0]]++List.replicate (n.toNat-k) [C.eM 1 0 []]).set k [lU [0,0,0,0,0,0]]=(List.replicate (k+1) [lU [0,0,0,0,0,0]]++List.replicate (n.toNat-(k+1)) [C.eM 1 0 []]):=V6 _ _ hk;rw[pL,<-e3,zm an];refine zk.jq 1 ta V V V (qm (rows:=(List.replicate k [lU [0,0,0,0,0,0]]++List.replicate (n.toNat-k) [C.eM 1 0 []]).set k [lU [0,0,0,0,0,0]]) λr hr c hc=>?_) V;rw[e3]at hr;rcases pw.1 hr with hr|hr <;> (rw[ry hr]at hc;rw[pX.1 hc];rfl)
 .refine uD ?_;have e4:(List.replicate n.toNat [(0:Int),0,0,0,0,0]).map zA=(List.replicate n.toNat [lU [0,0,0,0,0,0]]++List.replicate (n.toNat-n.toNat) [C.eM 1 0 []]):=by rw[List.map_replicate,r7,List.replicate_zero,sC];rfl
  have sh:∀r∈(List.replicate n.toNat [lU [0,0,0,0,0,0]]++List.replicate (n.toNat-n.toNat) [C.eM 1 0 []]),∀c∈r,jM c=true/\zG c=true:=by
   rw[r7,List.replicate_zero,sC];intro r hr c hc;rw[ry hr]at hc;rw[pX.1 hc];exact gd
  refine⟨.inl V,_,zk.Iy 2 V V (.inl V) ah sh,?_⟩;rw[<-e4]
  rfl
def OM(c:List (List Int))(hc:c.length<4000000000000000000):th 279 [] [ff c] (Bo (xV c)) []:=by
 have m1:(c.map zA).length=c.length:=gO ..;refine ab func279 ?_;rw[m1];refine zH.seq c.length (λk=>((ff c)::.za::Bo false::.za::.za::(ff c)::I c.length::I k::mK ([.za,.za,.za,.za,.za,.za,.za]))) (λk=>[]) (λk=>∀j,(h:j<c.length)->j<k->(c[j].length == 6)=true) ?_ ah (λk hk hr=>?_) (λhr=>?_)
 .exact cC
 .obtain⟨x,hx⟩:∃x,x=c[k]:=⟨_,rfl⟩;have hg:(c.map zA)[k]?=some (zA x):=by rw[gM,gL hk,hx];rfl
  have mx:(x.map qB).length=x.length:=gO ..;conv=>whnf
  refine zay ?_
  rw[mx];refine⟨λh1=>?_,λh1=>?_⟩
  .have hf:c.all (λr=>r.length == 6)=false:=by
    rw[rP];exact⟨x,bA,by simp at h1|-;omega⟩
   have e:xV c=false:=by unfold xV;rw[hf];rfl
   rw[e];refine zbw ?_
   exact uI
  .refine dd ?_;refine .inl ⟨rfl,?_,λj hj hjk=>?_⟩
   .exact dm
   .by_cases e:j=k
    .subst e;rw[<-hx];simp at h1|-;omega
    .exact dP
 .have ht:c.all (λr=>r.length == 6)=true:=by
   rw[gV];intro r hr';obtain⟨j,hj,rfl⟩:=pz.1 hr';exact hr j hj hj
  have e:xV c=(decide (1<=c.length) && decide (c.length<=8)):=by unfold xV;rw[ht];rfl
  rw[e];refine uD ?_;rw[m1];refine⟨λh1=>?_,λh1=>?_⟩
  .refine dd ?_;rw[m1];refine⟨λh2=>?_,λh2=>?_⟩
   .refine zac ?_
    (exact⟨.inl V,_,.refl _,uN (by symm;simp at h1 h2|-;omega)⟩)
   .refine zac ?_
    (exact⟨.inl V,_,.refl _,uN (by symm;simp at h1 h2|-;omega)⟩)
  .refine zac ?_
   (exact⟨.inl V,_,.refl _,uN (by symm;simp at h1|-;omega)⟩)
abbrev Cw(w:Wor):C:=.agg (xk w)
abbrev tW(r:Wor×Int):C:=.eR [Cw r.1,I r.2]
abbrev AL:Wor:=⟨0,0,0,[],[],[],[],[]⟩
def iM(s:eU):fj:=⟨s,false,0,false⟩
def CM(l:List eU)(i:Nat):Bool:=match l[i]? with
 |some s=>jO s && decide (z7 ((l.take i).map iM) s<0)
 |none=>true
def CE(l:List eU):Bool:=(List.range l.length).all (CM l)
def lM(s:Sna)(l:List eU)(n:Int):Wor×Int:=
 if yN s=false\/n<1\/8<n\/CE l=false then (AL,1)
 else (⟨0,0,0,List.replicate n.toNat 0,[(qA s).1],l.map iM,List.replicate n.toNat [0,0,0,0,0,0],[]⟩,0)
def Tv(s:Sna)(l:List eU)(n:Int)(hs:yR s)(hl:l.length<1000000000/\∀x∈l,x.length<4000000000000000000):th 26 [] [Cs s,lT l,I n] (tW (lM s l n)) []:=by
 have m1:(l.map qe).length=l.length:=gO ..;have cs:=IH s hs;refine ab func26 ?_;by_cases h0:yN s=true
 rotate_left
 .have e:lM s l n=(AL,1):=by unfold lM;rw[gS (.inl (ai h0))]
  have e2:qA s=(CY,1):=by unfold qA;rw[gP h0]
  rw[e2]at cs;have cs:th 62 [] [Cs s] (.eR [Cv CY,I 1]) []:=cs;rw[e];refine af cs ?_;refine td ?_
  exact c9
 have e2:qA s=((qA s).1,0):=by unfold qA;rw[gS h0]
 rw[e2]at cs;have cs:th 62 [] [Cs s] (.eR [Cv (qA s).1,I 0]) []:=cs;have hn:=N4 n;refine af cs ?_;refine td ?_
 by_cases h1:n<1\/8<n
 .have e:lM s l n=(AL,1):=by unfold lM;rw[gS an]
  have e3:wC n=([],1):=by unfold wC;rw[gS h1]
  rw[e3]at hn;have hn:th 63 [] [I n] (.eR [ff [],I 1]) []:=hn;rw[e];refine af hn ?_;refine td ?_
  exact c9
 have e3:wC n=(List.replicate n.toNat [0,0,0,0,0,0],0):=by unfold wC;rw[gP h1]
 rw[e3]at hn;have hn:th 63 [] [I n] (.eR [ff (List.replicate n.toNat [0,0,0,0,0,0]),I 0]) []:=hn;refine af hn ?_;refine td ?_
 refine .inl ⟨⟨false,[0,3],[2],[]⟩,ak,uH ?_⟩;refine⟨rfl,an,by show(8:Int)*n<=_;omega,an,dd ?_⟩;refine tc ?_
 rw[m1];have hb:CE l=false->lM s l n=(AL,1):=λh=>by unfold lM;rw[gS (.inr (.inr (.inr h)))]
 refine zH.seq l.length (λk=>(.za::.za::.za::.ref 0 [] 3 0 0:: .za::.za::.ref 1 [] 8 0 0::I 0:: .za::.za::.za::.ref 3 [] 8 0 0:: .za::.za::mK (mK (mK (lT l::I l.length::I k:: .za::.za::.za::.za::.za::.za::.za::mK (mK ([]))))))) (λk=>[⟨1,86,3,[qP s],0⟩,⟨1,38,8,[fB],0⟩,⟨1,106,5,[zt (qA s).1],0⟩,⟨1,38,8,[[I 0,I 0,I 0,.eM 0 1 (List.replicate n.toNat [I 0]),.eM 1 5 [zt (qA s).1],.gl 4 4 (((l.take k).map iM).map zU),ff (List.replicate n.toNat [0,0,0,0,0,0]),.eM 1 0 []]],0⟩,⟨4,98,4,((l.take k).map iM).map zU,0⟩]) (λk=>∀j,j<k->CM l j=true) ?_ ah (λk hk hr=>?_) (λhr=>?_)
 .refine zk.trans (zk.qM 3 5 98 4 V V (.inl V) V V) ?_;exact cC
 .obtain⟨x,hx⟩:∃x,x=l[k]:=⟨_,rfl⟩;have hx2:l[k]?=some x:=by rw[gL hk,hx]
  have hg:(l.map qe)[k]?=some (qe x):=by rw[gM,hx2];rfl
  have hxm:x∈l:=bA
  have hno:CM l k=(jO x && decide (z7 ((l.take k).map iM) x<0)):=by unfold CM;rw[hx2]
  have bad:CM l k=false->lM s l n=(AL,1):=λh=>hb (by unfold CE;rw[rP];exact⟨k,ai hk,aA⟩)
  have hlg:(((l.take k).map iM).map zU).length=k:=ar
  have eg:((l.take (k+1)).map iM).map zU=((l.take k).map iM).map zU++[zU (iM x)]:=bC
  conv=>whnf
  refine zay ?_
  refine af (yw x (by have:=hl.2 x hxm;omega)) ?_;refine⟨λh2=>?_,λh2=>?_⟩
  rotate_left
  .rw[bad (by rw[hno,h2];rfl)];refine zac ?_
   refine zap ?_
   exact c9
  refine dd ?_;refine af (va ((l.take k).map iM) x ar) ?_;refine⟨λh3=>?_,λh3=>?_⟩
  .rw[bad (by rw[hno,show decide (z7 ((l.take k).map iM) x<0)=false from by simp at h3|-;omega,sq])];refine zac ?_
   refine zap ?_
   exact c9
  refine zac ?_
  refine⟨rfl,.inr V,bD,by rw[hlg];show(k+1)*40<=_;omega,dd ?_⟩;refine .inl ⟨rfl,?_,λj hj=>?_⟩
  .rw[zm an,eg];exact cE 5
  .by_cases e:j=k
   .subst e;rw[hno,h2];simp at h3|-;omega
   .exact hr j an
 .have qc:CE l=true:=by
   unfold CE;rw[gV];intro i hi;exact hr i (ai hi)
  have e:lM s l n=(⟨0,0,0,List.replicate n.toNat 0,[(qA s).1],l.map iM,List.replicate n.toNat [0,0,0,0,0,0],[]⟩,0):=by unfold lM;rw[gP (by simp only[h0,qc];simp;omega)]
  rw[e];refine uD ?_;rw[px];refine⟨.inl V,_,zk.var 1 V V V (.cons (.refl _) (.cons (.refl _) (.cons (.refl _) (.cons (.refl _) (.cons (WC.share 1 5 _) (.cons (.refl _) (.cons (.refl _) (.cons (WC.nil 0 3) .nil)))))))),?_⟩
  have e9:xk ⟨0,0,0,List.replicate n.toNat 0,[(qA s).1],l.map iM,List.replicate n.toNat [0,0,0,0,0,0],[]⟩=[I 0,I 0,I 0,.eM 0 1 (List.replicate n.toNat [I 0]),.eM 0 5 [zt (qA s).1],lL (l.map iM),ff (List.replicate n.toNat [0,0,0,0,0,0]),.eM 0 3 []]:=by
   have e8:(List.replicate n.toNat (0:Int)).map encI=List.replicate n.toNat [I 0]:=List.map_replicate;show [I 0,I 0,I 0,C.eM 0 1 ((List.replicate n.toNat (0:Int)).map encI),_,_,_,_]=_;rw[e8]
   rfl
  show _=some (C.eR [C.agg (xk ⟨0,0,0,List.replicate n.toNat 0,[(qA s).1],l.map iM,List.replicate n.toNat [0,0,0,0,0,0],[]⟩),I 0]);rw[e9]
  rfl
end Go.Wor
namespace Go.Wor
open Go.Ab Go.Proofs Tryz Go.Hy Go.Gat Go.Nam Go.Hos Go.Con Go.Sna
variable{α:Type}{F:List (List C)}{z args caps:List C}{x:Ob}{P:Program}{f:FuncId}{enc:α->List C}{H:zq}{p:C->Bool}{v e g t:Nat}{g0:Gr}{e0:En}{v0:eX}{r0 l:List Int}
def jQ{k n:Nat}(hF:F.length=n)(h:k<n):(F.take k++(List.replicate n z).drop k)[k]?=some z:=by
 rw[pq ar,tj,rj,sU,gS an]
def qX{x:List C}{k n:Nat}(hx:F[k]?=some x)(hn:k<n):(F.take k++(List.replicate n z).drop k).set k x=F.take (k+1)++(List.replicate n z).drop (k+1):=by
 obtain⟨hk,rfl⟩:=gN.1 hx;have e1:(F.take k).length=k:=ar
 rw[uv _ _ an,e1,r7,List.drop_replicate,List.drop_replicate,pP hk,rL];have e2:n-k=(n-(k+1))+1:=an
 rw[e2,sS]
 rfl
def y4{n:Nat}(hF:F.length=n):F.take n++(List.replicate n z).drop n=F:=by
 rw[rO an,List.drop_of_length_le ah,sC]
def KX(x:Int)(l:List Int)(hl:l.length<1000000000):th 223 [] [lI (x::l)] (.sl 0 [] 1 0 (x::l).length false) [⟨2,3,1,(x::l).map encI,0⟩]:=by
 have e:0+((l.map encI).length+1)=(x::l).length:=ah
 rw[<-e];refine zb.zZ (fn:=f223) func223 V (uH ?_);exact zck
def vg(l:List Int)(hl:l.length<1000000000):th 223 [] [lI l] (lI l) []:=by
 cases l with
 |nil=>
  refine ab func223 ?_;refine⟨?_,?_⟩
  .refine dd ?_;exact du
  .exact zb9
 |cons x l=>
  have hl3:l.length+1<1000000000:=ai hl
  refine ab func223 ?_;refine zbD ?_;refine .inr ⟨.inl V,aq,aH,uH ?_⟩;exact dN
def Uq(x:Int)(l:List Int)(hl:l.length<1000000000):th 270 [] [lU (x::l)] (.sl 0 [] 1 0 (x::l).length false) [⟨2,52,1,(x::l).map qB,0⟩]:=by
 have e:0+((l.map qB).length+1)=(x::l).length:=ah
 rw[<-e];refine zb.zZ (fn:=f270) func270 V (uH ?_);exact zck
def Ur(l:List Int)(hl:l.length<1000000000):th 270 [] [lU l] (lU l) []:=by
 cases l with
 |nil=>
  refine ab func270 ?_;refine⟨?_,?_⟩
  .refine dd ?_;exact du
  .exact zb9
 |cons x l=>
  have hl3:l.length+1<1000000000:=ai hl
  refine ab func270 ?_;refine zbD ?_;refine .inr ⟨.inl V,aq,aH,uH ?_⟩;exact dN
def Up(x:fj)(l:List fj)(hl:l.length<1000000000):th 226 [] [lL (x::l)] (.sl 0 [] 4 0 (x::l).length false) [⟨2,98,4,(x::l).map zU,0⟩]:=by
 have e:0+((l.map zU).length+1)=(x::l).length:=ah
 rw[<-e];refine zb.zZ (fn:=f226) func226 V (uH ?_);refine zbD ?_;refine .inr ⟨.inl V,aq,cw,uH ?_⟩;exact uJ
def ke(l:List fj)(hl:l.length<1000000000):th 226 [] [lL l] (lL l) []:=by
 cases l with
 |nil=>
  refine ab func226 ?_;refine⟨?_,?_⟩
  .refine dd ?_;exact⟨.inl V,_,zk.cell 2 V (WC.nil 0 4),rfl⟩
  .refine dd ?_;refine .inr ⟨rfl,dd ?_⟩;exact⟨.inl V,_,zk.cell 2 V ((WC.none 1 4 4).trans (WC.share 1 4 [])),rfl⟩
 |cons x l=>
  have hl3:l.length+1<1000000000:=ai hl
  refine ab func226 ?_;refine zbD ?_;refine .inr ⟨.inl V,aq,cw,uH ?_⟩;exact dN
def KY(x:fg)(l:List fg)(hl:l.length<1000000000):th 229 [] [lR (x::l)] (.sl 0 [] 3 0 (x::l).length false) [⟨2,157,3,(x::l).map qh,0⟩]:=by
 have e:0+((l.map qh).length+1)=(x::l).length:=ah
 rw[<-e];refine zb.zZ (fn:=f229) func229 V (uH ?_);refine zbD ?_;refine .inr ⟨.inl V,aq,bG,uH ?_⟩;exact uJ
def Br(l:List fg)(hl:l.length<1000000000):th 229 [] [lR l] (lR l) []:=by
 cases l with
 |nil=>
  refine ab func229 ?_;refine⟨?_,?_⟩
  .refine dd ?_;exact⟨.inl V,_,zk.cell 2 V (WC.nil 0 3),rfl⟩
  .refine dd ?_;refine .inr ⟨rfl,dd ?_⟩;exact⟨.inl V,_,zk.cell 2 V ((WC.none 1 3 3).trans (WC.share 1 3 [])),rfl⟩
 |cons x l=>
  have hl3:l.length+1<1000000000:=ai hl
  refine ab func229 ?_;refine zbD ?_;refine .inr ⟨.inl V,aq,bG,uH ?_⟩;exact dN
def Jx(e:En)(he:e.next.length<1000000000):th 288 [] [.agg [],.agg (zu e)] (.agg (zu e)) []:=by
 refine ab func288 ?_;refine af (vg e.next he) ?_;exact uI
def VO(l:List En)(hl:l.length<1000000000)(hp:∀x∈l,th 288 [] [.agg [],.agg (zu x)] (.agg (zu x)) []):th 287 [] [lE l,.fn 288 [] [],.agg []] (.sl 0 [] 3 0 l.length false) [⟨2,151,3,l.map zu,0⟩]:=by
 have m1:(l.map zu).length=l.length:=gO ..;refine zb.zZ (fn:=f287) func287 V (uH ?_);rw[m1];refine⟨rfl,an,by show(40:Int)*_<=_;omega,an,dd ?_⟩;rw[m1,toNat_cast];refine zH.seq l.length (λk=>((lE l)::.fn 288 [] []::.za::.za::.za::.ref 0 [] 0 0 0::.eM 1 0 []::.sl 1 [] 3 0 l.length false::.za::.za::.za::.za::.za::(lE l)::I l.length::I k::mK ([.za,.za,.za,.za,.za]))) (λk=>[⟨1,259,0,[[]],0⟩,⟨2,151,3,(l.map zu).take k++(List.replicate l.length [U 0,.eM 1 0 [],I 0]).drop k,0⟩]) (λk=>True) ?_ trivial (λk hk hr=>?_) (λhr=>?_)
 .exact cC
 .obtain⟨x,hx⟩:∃x,x=l[k]:=⟨_,rfl⟩;have hx2:l[k]?=some x:=by rw[gL hk,hx]
  have hg:(l.map zu)[k]?=some (zu x):=by rw[gM,hx2];rfl
  conv=>whnf
  refine zay ?_
  refine af (hp x uY) ?_;refine⟨an,ar,dd ?_⟩;have e1:0+(k:Int).toNat=k:=ah
  rw[e1];refine⟨_,jQ ah hk,rfl,dd ?_⟩;refine zai ?_;have e2:=qX (z:=[U 0,.eM 1 0 [],I 0]) (n:=l.length) hg hk;rw[zm an,<-e2];exact cE 2
 .exact dM
def zB{r:List C}(h:r.all zG=true):∀q∈[r],∀c∈q,zG c=true:=λq hq c hc=>by
 rw[pX.1 hq]at hc;exact gV.1 h c hc
def Hr(g:Gr):Prop:=g.ends.length<1000000000/\∀e∈g.ends,e.next.length<1000000000
def El(v:eX):Prop:=v.zg.length<1000000000/\∀g∈v.zg,Hr g
structure z6(w:Wor):Prop where
 pins:w.pins.length<1000000000
 zd:w.zd.length<1000000000/\∀v∈w.zd,El v
 zc:w.zc.length<1000000000
 counts:w.counts.length<1000000000/\∀r∈w.counts,r.length<1000000000
 zn:w.zn.length<1000000000
def Iz(g:Gr)(hg:Hr g):th 269 [] [.agg [],.agg (zy g)] (.agg (zy g)) []:=by
 refine ab func269 ?_;refine ae [] (VO g.ends hg.1 λe he=>Jx e (hg.2 e he)) ?_;exact⟨.inl V,_,zk.zN 2 0 1 V V V V (.inr V) V ah (shut_map (enc:=zu) (λ_=>V) g.ends) (zB V),rfl⟩
def Vp(l:List Gr)(hl:l.length<1000000000)(hp:∀x∈l,th 269 [] [.agg [],.agg (zy x)] (.agg (zy x)) []):th 268 [] [lG l,.fn 269 [] [],.agg []] (.sl 0 [] 2 0 l.length false) [⟨2,111,2,l.map zy,0⟩]:=by
 have m1:(l.map zy).length=l.length:=gO ..;refine zb.zZ (fn:=f268) func268 V (uH ?_);rw[m1];refine⟨rfl,an,by show(32:Int)*_<=_;omega,an,dd ?_⟩;rw[m1,toNat_cast];refine zH.seq l.length (λk=>((lG l)::.fn 269 [] []::.za::.za::.za::.ref 0 [] 0 0 0::.eM 1 0 []::.sl 1 [] 2 0 l.length false::.za::.za::.za::.za::.za::(lG l)::I l.length::I k::mK ([.za,.za,.za,.za,.za]))) (λk=>[⟨1,259,0,[[]],0⟩,⟨2,111,2,(l.map zy).take k++(List.replicate l.length ([U 0,.eM 1 0 []]:List C)).drop k,0⟩]) (λk=>True) ?_ trivial (λk hk hr=>?_) (λhr=>?_)
 .exact cC
 .obtain⟨x,hx⟩:∃x,x=l[k]:=⟨_,rfl⟩;have hx2:l[k]?=some x:=by rw[gL hk,hx]
  have hg:(l.map zy)[k]?=some (zy x):=by rw[gM,hx2];rfl
  conv=>whnf
  refine zay ?_
  refine af (hp x uY) ?_;refine⟨an,ar,dd ?_⟩;have e1:0+(k:Int).toNat=k:=ah
  rw[e1];refine⟨_,jQ ah hk,rfl,dd ?_⟩;refine zai ?_;have e2:=qX (z:=([U 0,.eM 1 0 []]:List C)) (n:=l.length) hg hk;rw[zm an,<-e2];exact cE 2
 .exact dM
def jC(v:eX)(hv:El v):th 225 [] [.agg [],.agg (zt v)] (.agg (zt v)) []:=by
 refine ab func225 ?_;refine ae [] (Vp v.zg hv.1 λg hg=>Iz g (hv.2 g hg)) ?_;exact⟨.inl V,_,zk.zN 2 0 3 V V V V (.inr V) V ah (shut_map (enc:=zy) (λ_=>V) v.zg) (zB V),rfl⟩
def wO(l:List eX)(hl:l.length<1000000000)(hp:∀x∈l,th 225 [] [.agg [],.agg (zt x)] (.agg (zt x)) []):th 224 [] [lV l,.fn 225 [] [],.agg []] (.sl 0 [] 5 0 l.length false) [⟨2,106,5,l.map zt,0⟩]:=by
 have m1:(l.map zt).length=l.length:=gO ..;refine zb.zZ (fn:=f224) func224 V (uH ?_);rw[m1];refine⟨rfl,an,by show(104:Int)*_<=_;omega,an,dd ?_⟩;rw[m1,toNat_cast];refine zH.seq l.length (λk=>((lV l)::.fn 225 [] []::.za::.za::.za::.ref 0 [] 0 0 0::.eM 1 0 []::.sl 1 [] 5 0 l.length false::.za::.za::.za::.za::.za::(lV l)::I l.length::I k::mK ([.za,.za,.za,.za,.za]))) (λk=>[⟨1,259,0,[[]],0⟩,⟨2,106,5,(l.map zt).take k++(List.replicate l.length ([.eM 1 0 [],.eM 1 0 [],.eM 1 0 [],.eM 1 0 [],Bo false]:List C)).drop k,0⟩]) (λk=>True) ?_ trivial (λk hk hr=>?_) (λhr=>?_)
 .exact cC
 .obtain⟨x,hx⟩:∃x,x=l[k]:=⟨_,rfl⟩;have hx2:l[k]?=some x:=by rw[gL hk,hx]
  have hg:(l.map zt)[k]?=some (zt x):=by rw[gM,hx2];rfl
  conv=>whnf
  refine zay ?_
  refine af (hp x uY) ?_;refine⟨an,ar,dd ?_⟩;have e1:0+(k:Int).toNat=k:=ah
  rw[e1];refine⟨_,jQ ah hk,rfl,dd ?_⟩;refine zai ?_;have e2:=qX (z:=([.eM 1 0 [],.eM 1 0 [],.eM 1 0 [],.eM 1 0 [],Bo false]:List C)) (n:=l.length) hg hk;rw[zm an,<-e2];exact cE 2
 .exact dM
def xU(r:List Int)(hr:r.length<1000000000):th 228 [] [.agg [],lU r] (lU r) []:=by
 refine ab func228 ?_;refine af (Ur r hr) ?_;exact uI
def Ju(H':zq)(ρ:Nat->Nat):∀(i:Nat) (K:zq),nd [] H' ρ i K=K
 |_,[]=>rfl
 |i,ob::K=>by unfold nd;rw[Ju H' ρ (i+1) K];rfl
def oH{r:C}{H':zq}(h:zb P f [] args r H')(hR:qQ H'=true)(ha:args.map (jK [] 9)=args)(H:zq)(hf:qQ H=true):
  zb P f H args (yG (q6 [] H.length) 9 r) (H++H'.map (zM (q6 [] H.length))):=by
 have:=h.part [] hR (K:=H) V ha V V hf;have e:wz [] H H'=H++H'.map (zM (q6 [] H.length)):=by unfold wz;rw[Ju];rfl
 rwa [e]at this
def DH{f:C->C}(hf:∀x,(enc x).map f=enc x)(l:List α)(v:Nat)(row:List C):(((l.map enc).set v row).map λr=>r.map f)=(l.map enc).set v (row.map f):=by
 rw[r3,sd]
 congr 1
 exact r9 λx _=>hf x
def qg{n:Nat}(h1:ql n [x]=true)(h2:ql n H=true):ql n (x::H)=true:=by
 unfold ql at *;simp only[sE,ug,tu] at *;rw[h1,h2];rfl
def ze(h1:qQ [x]=true)(h2:qQ H=true):qQ (x::H)=true:=by
 unfold qQ at *;simp only[sE,ug,tu] at *;rw[h1,h2];rfl
def zf{ty sz fz:Nat}{rows:List (List C)}(h:∀r∈rows,∀c∈r,zG c=true):qQ [⟨1,ty,sz,rows,fz⟩]=true:=by
 unfold qQ;simp only[sE,ug,tu];rw[gV]
 exactλr hr=>gV.2 λc hc=>h r hr c hc
def zF(h:∀x,(enc x).all p=true){row:List C}(hr:row.all p=true)(l:List α)(v:Nat):∀r∈(l.map enc).set v row,∀c∈r,p c=true:=λr hm c hc=>by
 rcases rB hm with hm|rfl
 .obtain⟨x,_,rfl⟩:=pO.1 hm;exact gV.1 (h x) c hc
 .exact gV.1 hr c hc
def kg(h:∀x,(enc x).all p=true){row:List C}(hz:z.all p=true)(l:List α){k:Nat}(n:Nat)(hr:k<=v\/row.all p=true):∀r∈((l.map enc).set v row).take k++(List.replicate n z).drop k,∀c∈r,p c=true:=λr hm c hc=>by
 rcases pw.1 hm with hm|hm
 .rcases hr with hr|hr
  .rw[List.take_set_of_le hr]at hm;obtain⟨x,_,rfl⟩:=pO.1 (gU hm);exact gV.1 (h x) c hc
  .exact zF h hr l v r (gU hm) c hc
 .rw[ry (sO hm)]at hc;exact gV.1 hz c hc
def RO(e0:En)(x:Int)(l:List Int)(he:e0.next=x::l)(hl:l.length<1000000000):th 288 [] [.agg [],.agg (zu e0)] (.agg (fh 0 e0)) [oN e0]:=by
 have h1:th 288 [] [.agg [],.agg (zu e0)] (.agg (fh 3 e0)) [⟨1,259,0,[[]],0⟩,⟨1,151,3,[fh 3 e0],0⟩,⟨1,151,3,[fh 3 e0],0⟩,oN e0]:=by
  have hc:=KX x l hl;rw[<-he]at hc;refine zb.zZ (fn:=f288) func288 V (uH ?_);refine ae [] (hc) ?_;exact uJ
 exact h1.mj (λB h _=>zk.eZ [3] [0] _ _ tX V V V) (pC _)
def Ug(e0:En)(x:Int)(l:List Int)(he:e0.next=x::l)(hl:l.length<1000000000)(H:zq)(hf:qQ H=true):th 288 H [.agg [],.agg (zu e0)] (.agg ([U e0.head,C.sl H.length [] 1 0 e0.next.length false,I e0.zo])) (H++[oN e0]):=
 oH (RO e0 x l he hl) V V H hf
def zI{sel:List Nat}(hf:∀x,(enc x).map (jK sel 9)=enc x)(l:List α)(v:Nat)(row:List C)(ty sz fz:Nat):zJ sel ⟨1,ty,sz,(l.map enc).set v row,fz⟩=⟨1,ty,sz,(l.map enc).set v (row.map (jK sel 9)),fz⟩:=by
 show(⟨1,ty,sz,((l.map enc).set v row).map (λr=>r.map (jK sel 9)),fz⟩:Ob)=_;rw[DH hf]
def zD{ρ:Nat->Nat}(hf:∀x,(enc x).map (yG ρ 9)=enc x)(l:List α)(v:Nat)(row:List C)(ty sz fz:Nat):zM ρ ⟨1,ty,sz,(l.map enc).set v row,fz⟩=⟨1,ty,sz,(l.map enc).set v (row.map (yG ρ 9)),fz⟩:=by
 show(⟨1,ty,sz,((l.map enc).set v row).map (λr=>r.map (yG ρ 9)),fz⟩:Ob)=_;rw[DH hf]
def Uc(l:List En)(e:Nat)(e0:En)(hv:l[e]?=some e0)(hl:l.length<1000000000)(hp:∀x∈l,th 288 [] [.agg [],.agg (zu x)] (.agg (zu x)) [])
 (hA:∀H,qQ H=true->th 288 H [.agg [],.agg (zu e0)] (.agg ([U e0.head,C.sl H.length [] 1 0 e0.next.length false,I e0.zo])) (H++[oN e0])):
  th 287 [] [lE l,.fn 288 [] [],.agg []] (.sl 0 [] 3 0 l.length false) [⟨1,0,3,(l.map zu).set e (fh 1 e0),0⟩,oN e0]:=by
 have m1:(l.map zu).length=l.length:=gO ..;have hvl:=(gN.1 hv).1
 have h1:th 287 [] [lE l,.fn 288 [] [],.agg []] (.sl 1 [] 3 0 l.length false) [⟨1,259,0,[[]],0⟩,⟨1,0,3,(l.map zu).set e (fh 3 e0),0⟩,oD e0,oN e0]:=by
  refine zb.zZ (fn:=f287) func287 V (uH ?_);rw[m1];refine⟨rfl,an,by show(40:Int)*_<=_;omega,an,dd ?_⟩;rw[m1,toNat_cast];have ZZ:List C:=([U 0,.eM 1 0 [],I 0]:List C);refine zH.seq l.length (λk=>((lE l)::.fn 288 [] []::.za::.za::.za::.ref 0 [] 0 0 0::.eM 1 0 []::.sl 1 [] 3 0 l.length false::.za::.za::.za::.za::.za::(lE l)::I l.length::I k::mK ([.za,.za,.za,.za,.za]))) (λk=>if k<=e then [⟨1,259,0,[[]],0⟩,⟨1,0,3,((l.map zu).set e (fh 3 e0)).take k++(List.replicate l.length ([U 0,.eM 1 0 [],I 0]:List C)).drop k,0⟩] else [⟨1,259,0,[[]],0⟩,⟨1,0,3,((l.map zu).set e (fh 3 e0)).take k++(List.replicate l.length ([U 0,.eM 1 0 [],I 0]:List C)).drop k,0⟩,oD e0,oN e0]) (λk=>True) ?_ trivial (λk hk hr=>?_) (λhr=>?_)
  .rw[gS (pC _)];refine zk.trans (zk.BO 1 V λr hr c hc=>?_) (cC);rw[ry hr]at hc;exact gV.1 (rfl:([U 0,.eM 1 0 [],I 0]:List C).all zG=true) c hc
  .obtain⟨x,hx⟩:∃x,x=l[k]:=⟨_,rfl⟩;have hx2:l[k]?=some x:=by rw[gL hk,hx]
   have hxm:x∈l:=bA
   have hg:(l.map zu)[k]?=some (zu x):=by rw[gM,hx2];rfl
   have e1:0+(k:Int).toNat=k:=ah
   have low:∀n j,j<=e\/3<n->∀r∈((l.map zu).set e (fh 3 e0)).take j++(List.replicate l.length ([U 0,.eM 1 0 [],I 0]:List C)).drop j,∀c∈r,qE n 9 c=true:=λn j h=>kg (enc:=zu) (λ_=>V) V l l.length (h.imp_right λh=>by simp[qE,qP];omega)
   have own:∀j,∀r∈((l.map zu).set e (fh 3 e0)).take j++(List.replicate l.length ([U 0,.eM 1 0 [],I 0]:List C)).drop j,∀c∈r,zG c=true:=λj=>kg (enc:=zu) (λ_=>V) V l l.length (.inr V)
   by_cases hkv:k=e
   .subst hkv;obtain rfl:e0=x:=by rw[hv]at hx2;exact rC hx2
    have hF:((l.map zu).set k (fh 3 e0))[k]?=some (fh 3 e0):=by rw[pd,gS V,gS (ai hk)]
    rw[gS (pj _),gP an];conv=>whnf
    refine zay ?_
    exact zcd
   .have hF:((l.map zu).set e (fh 3 e0))[k]?=some (zu x):=by rw[pT (λh=>hkv h.symm)];exact hg
    by_cases eP:k<e
    .rw[gS an,gS an];conv=>whnf
     refine zay ?_
     refine zaw ?_;refine zk.jq 2 ta V V V (qg V (qm ?_)) V;have lw:=low 2 (k+1) (.inl an);rw[<-qX (z:=([U 0,.eM 1 0 [],I 0]:List C)) (n:=l.length) hF hk]at lw;exact lw
    .rw[gP an,gP an];conv=>whnf
     refine zay ?_
     refine zaw ?_;refine zk.jq 4 ta V V V (qg V (qg (qm ?_) (qg V V))) V;have lw:=low 4 (k+1) (.inr an);rw[<-qX (z:=([U 0,.eM 1 0 [],I 0]:List C)) (n:=l.length) hF hk]at lw;exact lw
  .exact gK
 refine h1.mj (λB h _=>?_) (pC _);have hw:=zk.eZ (B:=B) [1,3] [0] [.sl 1 [] 3 0 l.length false] [⟨1,259,0,[[]],0⟩,⟨1,0,3,(l.map zu).set e (fh 3 e0),0⟩,oD e0,oN e0] tX V V (ze V (ze (zf (zF (enc:=zu) (λ_=>V) V l e)) (ze V V)))
 have e:xv [1,3] [⟨1,259,0,[[]],0⟩,⟨1,0,3,(l.map zu).set e (fh 3 e0),0⟩,oD e0,oN e0]=[⟨1,0,3,(l.map zu).set e (fh 1 e0),0⟩,oN e0]:=by
  show zJ [1,3] ⟨1,0,3,(l.map zu).set e (fh 3 e0),0⟩::_=_;rw[zI (enc:=zu) (λ_=>V)]
  rfl
 rw[e]at hw;exact hw
structure Ej(g0:Gr)(e:Nat)(e0:En):Prop where
 sm:Hr g0
 at_:g0.ends[e]?=some e0
 ne:e0.next≠[]
def VN(h:Ej g0 e e0)(H:zq)(hf:qQ H=true):th 287 H [lE g0.ends,.fn 288 [] [],.agg []] (.sl H.length [] 3 0 g0.ends.length false) (H++[⟨1,0,3,(g0.ends.map zu).set e (fh (H.length+1) e0),0⟩,oN e0]):=by
 obtain⟨x,l,hx⟩:∃x l,e0.next=x::l:=by
  cases hh:e0.next with
  |nil=>exact absurd hh h.ne
  |cons x l=>exact⟨x,l,rfl⟩
 have hlen:l.length<1000000000:=by
  have:=h.sm.2 e0 (gT h.at_);rw[hx]at this;exact dt
 have:=oH (Uc g0.ends e e0 h.at_ h.sm.1 (λy hy=>Jx y (h.sm.2 y hy)) (Ug e0 x l hx hlen)) (ze (zf (zF (enc:=zu) (λ_=>V) V _ _)) V) V H hf
 have e9:[(⟨1,0,3,(g0.ends.map zu).set e (fh 1 e0),0⟩:Ob),oN e0].map (zM (q6 [] H.length))=[⟨1,0,3,(g0.ends.map zu).set e (fh (H.length+1) e0),0⟩,oN e0]:=by
  show zM _ ⟨1,0,3,_,0⟩::_=_;rw[zD (enc:=zu) (λ_=>V)]
  rfl
 rw[e9]at this;exact dW
def O8(h:Ej g0 e e0):th 269 [] [.agg [],.agg (zy g0)] (.agg (fi 0 g0)) [⟨1,0,3,(g0.ends.map zu).set e (fh 1 e0),0⟩,oN e0]:=by
 have own:∀i,∀r∈(g0.ends.map zu).set e (fh i e0),∀c∈r,zG c=true:=λi=>zF (enc:=zu) (λ_=>V) V _ _
 have h1:th 269 [] [.agg [],.agg (zy g0)] (.agg (fi 3 g0)) [⟨1,259,0,[[]],0⟩,⟨1,111,2,[fi 3 g0],0⟩,⟨1,111,2,[fi 3 g0],0⟩,⟨1,0,3,(g0.ends.map zu).set e (fh 4 e0),0⟩,oN e0]:=by
  refine zb.zZ (fn:=f269) func269 V (uH ?_);refine⟨_,_,VN h _ V,dd ?_⟩;exact uJ
 refine h1.mj (λB hB _=>?_) (pC _);have hw:=zk.eZ (B:=B) [3,4] [0] [.agg (fi 3 g0)] [⟨1,259,0,[[]],0⟩,⟨1,111,2,[fi 3 g0],0⟩,⟨1,111,2,[fi 3 g0],0⟩,⟨1,0,3,(g0.ends.map zu).set e (fh 4 e0),0⟩,oN e0] (by rw[show B=0 from ai hB];rfl) V V (ze V (ze V (ze V (ze (zf (own 4)) V))))
 have e:xv [3,4] [⟨1,259,0,[[]],0⟩,⟨1,111,2,[fi 3 g0],0⟩,⟨1,111,2,[fi 3 g0],0⟩,⟨1,0,3,(g0.ends.map zu).set e (fh 4 e0),0⟩,oN e0]=[⟨1,0,3,(g0.ends.map zu).set e (fh 1 e0),0⟩,oN e0]:=by
  show zJ [3,4] ⟨1,0,3,(g0.ends.map zu).set e (fh 4 e0),0⟩::_=_;rw[zI (enc:=zu) (λ_=>V)]
  rfl
 rw[e]at hw;exact hw
def Rq(h:Ej g0 e e0)(H:zq)(hf:qQ H=true):th 269 H [.agg [],.agg (zy g0)] (.agg ([U g0.zC,C.sl H.length [] 3 0 g0.ends.length false])) (H++[⟨1,0,3,(g0.ends.map zu).set e (fh (H.length+1) e0),0⟩,oN e0]):=by
 have:=oH (O8 h) (ze (zf (zF (enc:=zu) (λ_=>V) V _ _)) V) V H hf
 have e9:[(⟨1,0,3,(g0.ends.map zu).set e (fh 1 e0),0⟩:Ob),oN e0].map (zM (q6 [] H.length))=[⟨1,0,3,(g0.ends.map zu).set e (fh (H.length+1) e0),0⟩,oN e0]:=by
  show zM _ ⟨1,0,3,_,0⟩::_=_;rw[zD (enc:=zu) (λ_=>V)]
  rfl
 rw[e9]at this;exact dW
def Ud(e0:En)(e:Nat)(l:List Gr)(g:Nat)(g0:Gr)(hv:l[g]?=some g0)(hl:l.length<1000000000)(hp:∀x∈l,th 269 [] [.agg [],.agg (zy x)] (.agg (zy x)) [])
 (hA:∀H,qQ H=true->th 269 H [.agg [],.agg (zy g0)] (.agg ([U g0.zC,C.sl H.length [] 3 0 g0.ends.length false])) (H++[⟨1,0,3,(g0.ends.map zu).set e (fh (H.length+1) e0),0⟩,oN e0])):
  th 268 [] [lG l,.fn 269 [] [],.agg []] (.sl 0 [] 2 0 l.length false) [⟨1,0,2,(l.map zy).set g (fi 1 g0),0⟩,⟨1,0,3,(g0.ends.map zu).set e (fh 2 e0),0⟩,oN e0]:=by
 have m1:(l.map zy).length=l.length:=gO ..;have hvl:=(gN.1 hv).1
 have h1:th 268 [] [lG l,.fn 269 [] [],.agg []] (.sl 1 [] 2 0 l.length false) [⟨1,259,0,[[]],0⟩,⟨1,0,2,(l.map zy).set g (fi 3 g0),0⟩,⟨1,111,2,[zy g0],0⟩,⟨1,0,3,(g0.ends.map zu).set e (fh 4 e0),0⟩,oN e0]:=by
  refine zb.zZ (fn:=f268) func268 V (uH ?_);rw[m1];refine⟨rfl,an,by show(32:Int)*_<=_;omega,an,dd ?_⟩;rw[m1,toNat_cast];have ZZ:List C:=([U 0,.eM 1 0 []]:List C);refine zH.seq l.length (λk=>((lG l)::.fn 269 [] []::.za::.za::.za::.ref 0 [] 0 0 0::.eM 1 0 []::.sl 1 [] 2 0 l.length false::.za::.za::.za::.za::.za::(lG l)::I l.length::I k::mK ([.za,.za,.za,.za,.za]))) (λk=>if k<=g then [⟨1,259,0,[[]],0⟩,⟨1,0,2,((l.map zy).set g (fi 3 g0)).take k++(List.replicate l.length ([U 0,.eM 1 0 []]:List C)).drop k,0⟩] else [⟨1,259,0,[[]],0⟩,⟨1,0,2,((l.map zy).set g (fi 3 g0)).take k++(List.replicate l.length ([U 0,.eM 1 0 []]:List C)).drop k,0⟩,⟨1,111,2,[zy g0],0⟩,⟨1,0,3,(g0.ends.map zu).set e (fh 4 e0),0⟩,oN e0]) (λk=>True) ?_ trivial (λk hk hr=>?_) (λhr=>?_)
  .rw[gS (pC _)];refine zk.trans (zk.BO 1 V λr hr c hc=>?_) (cC);rw[ry hr]at hc;exact gV.1 (rfl:([U 0,.eM 1 0 []]:List C).all zG=true) c hc
  .obtain⟨x,hx⟩:∃x,x=l[k]:=⟨_,rfl⟩;have hx2:l[k]?=some x:=by rw[gL hk,hx]
   have hxm:x∈l:=bA
   have hg:(l.map zy)[k]?=some (zy x):=by rw[gM,hx2];rfl
   have e1:0+(k:Int).toNat=k:=ah
   have low:∀n j,j<=g\/3<n->∀r∈((l.map zy).set g (fi 3 g0)).take j++(List.replicate l.length ([U 0,.eM 1 0 []]:List C)).drop j,∀c∈r,qE n 9 c=true:=λn j h=>kg (enc:=zy) (λ_=>V) V l l.length (h.imp_right λh=>by simp[qE,qP];omega)
   have own:∀j,∀r∈((l.map zy).set g (fi 3 g0)).take j++(List.replicate l.length ([U 0,.eM 1 0 []]:List C)).drop j,∀c∈r,zG c=true:=λj=>kg (enc:=zy) (λ_=>V) V l l.length (.inr V)
   by_cases hkv:k=g
   .subst hkv;obtain rfl:g0=x:=by rw[hv]at hx2;exact rC hx2
    have hF:((l.map zy).set k (fi 3 g0))[k]?=some (fi 3 g0):=by rw[pd,gS V,gS (ai hk)]
    rw[gS (pj _),gP an];conv=>whnf
    refine zay ?_
    exact zcd
   .have hF:((l.map zy).set g (fi 3 g0))[k]?=some (zy x):=by rw[pT (λh=>hkv h.symm)];exact hg
    by_cases eP:k<g
    .rw[gS an,gS an];conv=>whnf
     refine zay ?_
     refine zaw ?_;refine zk.jq 2 ta V V V (qg V (qm ?_)) V;have lw:=low 2 (k+1) (.inl an);rw[<-qX (z:=([U 0,.eM 1 0 []]:List C)) (n:=l.length) hF hk]at lw;exact lw
    .rw[gP an,gP an];conv=>whnf
     refine zay ?_
     refine zaw ?_;refine zk.jq 5 ta V V V (qg V (qg (qm ?_) (qg V (qg (qm (zF (enc:=zu) (λ_=>V) V _ _)) V)))) V;have lw:=low 5 (k+1) (.inr an);rw[<-qX (z:=([U 0,.eM 1 0 []]:List C)) (n:=l.length) hF hk]at lw;exact lw
  .exact gK
 refine h1.mj (λB h _=>?_) (pC _);have hw:=zk.eZ (B:=B) [1,3,4] [0] [.sl 1 [] 2 0 l.length false] [⟨1,259,0,[[]],0⟩,⟨1,0,2,(l.map zy).set g (fi 3 g0),0⟩,⟨1,111,2,[zy g0],0⟩,⟨1,0,3,(g0.ends.map zu).set e (fh 4 e0),0⟩,oN e0] tX V V (ze V (ze (zf (zF (enc:=zy) (λ_=>V) V l g)) (ze V (ze (zf (zF (enc:=zu) (λ_=>V) V _ _)) V))))
 have e:xv [1,3,4] [⟨1,259,0,[[]],0⟩,⟨1,0,2,(l.map zy).set g (fi 3 g0),0⟩,⟨1,111,2,[zy g0],0⟩,⟨1,0,3,(g0.ends.map zu).set e (fh 4 e0),0⟩,oN e0]=[⟨1,0,2,(l.map zy).set g (fi 1 g0),0⟩,⟨1,0,3,(g0.ends.map zu).set e (fh 2 e0),0⟩,oN e0]:=by
  show zJ [1,3,4] ⟨1,0,2,(l.map zy).set g (fi 3 g0),0⟩::_=_;rw[zI (enc:=zy) (λ_=>V)];show _::zJ [1,3,4] ⟨1,0,3,(g0.ends.map zu).set e (fh 4 e0),0⟩::_=_;rw[zI (enc:=zu) (λ_=>V)];rfl
 rw[e]at hw;exact hw
structure Ek(v0:eX)(g:Nat)(g0:Gr)(e:Nat)(e0:En):Prop extends Ej g0 e e0 where
 B7:El v0
 fV:v0.zg[g]?=some g0
def VP(h:Ek v0 g g0 e e0)(H:zq)(hf:qQ H=true):th 268 H [lG v0.zg,.fn 269 [] [],.agg []] (.sl H.length [] 2 0 v0.zg.length false) (H++[⟨1,0,2,(v0.zg.map zy).set g (fi (H.length+1) g0),0⟩,⟨1,0,3,(g0.ends.map zu).set e (fh (H.length+2) e0),0⟩,oN e0]):=by
 have:=oH (Ud e0 e v0.zg g g0 h.fV h.B7.1 (λy hy=>Iz y (h.B7.2 y hy)) (Rq h.toEj)) (ze (zf (zF (enc:=zy) (λ_=>V) V _ _)) (ze (zf (zF (enc:=zu) (λ_=>V) V _ _)) V)) V H hf
 have e9:[(⟨1,0,2,(v0.zg.map zy).set g (fi 1 g0),0⟩:Ob),⟨1,0,3,(g0.ends.map zu).set e (fh 2 e0),0⟩,oN e0].map (zM (q6 [] H.length))=[⟨1,0,2,(v0.zg.map zy).set g (fi (H.length+1) g0),0⟩,⟨1,0,3,(g0.ends.map zu).set e (fh (H.length+2) e0),0⟩,oN e0]:=by
  show zM _ ⟨1,0,2,_,0⟩::zM _ ⟨1,0,3,_,0⟩::_=_;rw[zD (enc:=zy) (λ_=>V),zD (enc:=zu) (λ_=>V)]
  rfl
 rw[e9]at this;exact dW
def N6(h:Ek v0 g g0 e e0):th 225 [] [.agg [],.agg (zt v0)] (.agg (fl 0 v0)) [⟨1,0,2,(v0.zg.map zy).set g (fi 1 g0),0⟩,⟨1,0,3,(g0.ends.map zu).set e (fh 2 e0),0⟩,oN e0]:=by
 have h1:th 225 [] [.agg [],.agg (zt v0)] (.agg (fl 3 v0)) [⟨1,259,0,[[]],0⟩,⟨1,106,5,[fl 3 v0],0⟩,⟨1,106,5,[fl 3 v0],0⟩,⟨1,0,2,(v0.zg.map zy).set g (fi 4 g0),0⟩,⟨1,0,3,(g0.ends.map zu).set e (fh 5 e0),0⟩,oN e0]:=by
  refine zb.zZ (fn:=f225) func225 V (uH ?_);refine⟨_,_,VP h _ V,dd ?_⟩;exact uJ
 refine h1.mj (λB hB _=>?_) (pC _);have hw:=zk.eZ (B:=B) [3,4,5] [0] [.agg (fl 3 v0)] [⟨1,259,0,[[]],0⟩,⟨1,106,5,[fl 3 v0],0⟩,⟨1,106,5,[fl 3 v0],0⟩,⟨1,0,2,(v0.zg.map zy).set g (fi 4 g0),0⟩,⟨1,0,3,(g0.ends.map zu).set e (fh 5 e0),0⟩,oN e0] (by rw[show B=0 from ai hB];rfl) V V (ze V (ze V (ze V (ze (zf (zF (enc:=zy) (λ_=>V) V _ _)) (ze (zf (zF (enc:=zu) (λ_=>V) V _ _)) V)))))
 have e:xv [3,4,5] [⟨1,259,0,[[]],0⟩,⟨1,106,5,[fl 3 v0],0⟩,⟨1,106,5,[fl 3 v0],0⟩,⟨1,0,2,(v0.zg.map zy).set g (fi 4 g0),0⟩,⟨1,0,3,(g0.ends.map zu).set e (fh 5 e0),0⟩,oN e0]=[⟨1,0,2,(v0.zg.map zy).set g (fi 1 g0),0⟩,⟨1,0,3,(g0.ends.map zu).set e (fh 2 e0),0⟩,oN e0]:=by
  show zJ [3,4,5] ⟨1,0,2,(v0.zg.map zy).set g (fi 4 g0),0⟩::zJ [3,4,5] ⟨1,0,3,(g0.ends.map zu).set e (fh 5 e0),0⟩::_=_;rw[zI (enc:=zy) (λ_=>V),zI (enc:=zu) (λ_=>V)]
  rfl
 rw[e]at hw;exact hw
def Py(h:Ek v0 g g0 e e0)(H:zq)(hf:qQ H=true):th 225 H [.agg [],.agg (zt v0)] (.agg ((qP v0.snap++[C.sl H.length [] 2 0 v0.zg.length false,Bo v0.qF]))) (H++[⟨1,0,2,(v0.zg.map zy).set g (fi (H.length+1) g0),0⟩,⟨1,0,3,(g0.ends.map zu).set e (fh (H.length+2) e0),0⟩,oN e0]):=by
 have:=oH (N6 h) (ze (zf (zF (enc:=zy) (λ_=>V) V _ _)) (ze (zf (zF (enc:=zu) (λ_=>V) V _ _)) V)) V H hf
 have e9:[(⟨1,0,2,(v0.zg.map zy).set g (fi 1 g0),0⟩:Ob),⟨1,0,3,(g0.ends.map zu).set e (fh 2 e0),0⟩,oN e0].map (zM (q6 [] H.length))=[⟨1,0,2,(v0.zg.map zy).set g (fi (H.length+1) g0),0⟩,⟨1,0,3,(g0.ends.map zu).set e (fh (H.length+2) e0),0⟩,oN e0]:=by
  show zM _ ⟨1,0,2,_,0⟩::zM _ ⟨1,0,3,_,0⟩::_=_;rw[zD (enc:=zy) (λ_=>V),zD (enc:=zu) (λ_=>V)]
  rfl
 rw[e9]at this;exact dW
def Uf(g0:Gr)(g:Nat)(e0:En)(e:Nat)(l:List eX)(v:Nat)(v0:eX)(hv:l[v]?=some v0)(hl:l.length<1000000000)(hp:∀x∈l,th 225 [] [.agg [],.agg (zt x)] (.agg (zt x)) [])
 (hA:∀H,qQ H=true->th 225 H [.agg [],.agg (zt v0)] (.agg ((qP v0.snap++[C.sl H.length [] 2 0 v0.zg.length false,Bo v0.qF]))) (H++[⟨1,0,2,(v0.zg.map zy).set g (fi (H.length+1) g0),0⟩,⟨1,0,3,(g0.ends.map zu).set e (fh (H.length+2) e0),0⟩,oN e0])):
  th 224 [] [lV l,.fn 225 [] [],.agg []] (.sl 0 [] 5 0 l.length false) [⟨1,0,5,(l.map zt).set v (fl 1 v0),0⟩,⟨1,0,2,(v0.zg.map zy).set g (fi 2 g0),0⟩,⟨1,0,3,(g0.ends.map zu).set e (fh 3 e0),0⟩,oN e0]:=by
 have m1:(l.map zt).length=l.length:=gO ..;have hvl:=(gN.1 hv).1
 have h1:th 224 [] [lV l,.fn 225 [] [],.agg []] (.sl 1 [] 5 0 l.length false) [⟨1,259,0,[[]],0⟩,⟨1,0,5,(l.map zt).set v (fl 3 v0),0⟩,⟨1,106,5,[zt v0],0⟩,⟨1,0,2,(v0.zg.map zy).set g (fi 4 g0),0⟩,⟨1,0,3,(g0.ends.map zu).set e (fh 5 e0),0⟩,oN e0]:=by
  refine zb.zZ (fn:=f224) func224 V (uH ?_);rw[m1];refine⟨rfl,an,by show(104:Int)*_<=_;omega,an,dd ?_⟩;rw[m1,toNat_cast];have ZZ:List C:=([.eM 1 0 [],.eM 1 0 [],.eM 1 0 [],.eM 1 0 [],Bo false]:List C);refine zH.seq l.length (λk=>((lV l)::.fn 225 [] []::.za::.za::.za::.ref 0 [] 0 0 0::.eM 1 0 []::.sl 1 [] 5 0 l.length false::.za::.za::.za::.za::.za::(lV l)::I l.length::I k::mK ([.za,.za,.za,.za,.za]))) (λk=>if k<=v then [⟨1,259,0,[[]],0⟩,⟨1,0,5,((l.map zt).set v (fl 3 v0)).take k++(List.replicate l.length ([.eM 1 0 [],.eM 1 0 [],.eM 1 0 [],.eM 1 0 [],Bo false]:List C)).drop k,0⟩] else [⟨1,259,0,[[]],0⟩,⟨1,0,5,((l.map zt).set v (fl 3 v0)).take k++(List.replicate l.length ([.eM 1 0 [],.eM 1 0 [],.eM 1 0 [],.eM 1 0 [],Bo false]:List C)).drop k,0⟩,⟨1,106,5,[zt v0],0⟩,⟨1,0,2,(v0.zg.map zy).set g (fi 4 g0),0⟩,⟨1,0,3,(g0.ends.map zu).set e (fh 5 e0),0⟩,oN e0]) (λk=>True) ?_ trivial (λk hk hr=>?_) (λhr=>?_)
  .rw[gS (pC _)];refine zk.trans (zk.BO 1 V λr hr c hc=>?_) (cC);rw[ry hr]at hc;exact gV.1 (rfl:([.eM 1 0 [],.eM 1 0 [],.eM 1 0 [],.eM 1 0 [],Bo false]:List C).all zG=true) c hc
  .obtain⟨x,hx⟩:∃x,x=l[k]:=⟨_,rfl⟩;have hx2:l[k]?=some x:=by rw[gL hk,hx]
   have hxm:x∈l:=bA
   have hg:(l.map zt)[k]?=some (zt x):=by rw[gM,hx2];rfl
   have e1:0+(k:Int).toNat=k:=ah
   have low:∀n j,j<=v\/3<n->∀r∈((l.map zt).set v (fl 3 v0)).take j++(List.replicate l.length ([.eM 1 0 [],.eM 1 0 [],.eM 1 0 [],.eM 1 0 [],Bo false]:List C)).drop j,∀c∈r,qE n 9 c=true:=λn j h=>kg (enc:=zt) (λ_=>V) V l l.length (h.imp_right λh=>by simp[qE,qP];omega)
   have own:∀j,∀r∈((l.map zt).set v (fl 3 v0)).take j++(List.replicate l.length ([.eM 1 0 [],.eM 1 0 [],.eM 1 0 [],.eM 1 0 [],Bo false]:List C)).drop j,∀c∈r,zG c=true:=λj=>kg (enc:=zt) (λ_=>V) V l l.length (.inr V)
   by_cases hkv:k=v
   .subst hkv;obtain rfl:v0=x:=by rw[hv]at hx2;exact rC hx2
    have hF:((l.map zt).set k (fl 3 v0))[k]?=some (fl 3 v0):=by rw[pd,gS V,gS (ai hk)]
    rw[gS (pj _),gP an];conv=>whnf
    refine zay ?_
    exact zcd
   .have hF:((l.map zt).set v (fl 3 v0))[k]?=some (zt x):=by rw[pT (λh=>hkv h.symm)];exact hg
    by_cases eP:k<v
    .rw[gS an,gS an];conv=>whnf
     refine zay ?_
     refine zaw ?_;refine zk.jq 2 ta V V V (qg V (qm ?_)) V;have lw:=low 2 (k+1) (.inl an);rw[<-qX (z:=([.eM 1 0 [],.eM 1 0 [],.eM 1 0 [],.eM 1 0 [],Bo false]:List C)) (n:=l.length) hF hk]at lw;exact lw
    .rw[gP an,gP an];conv=>whnf
     refine zay ?_
     refine zaw ?_;refine zk.jq 6 ta V V V (qg V (qg (qm ?_) (qg V (qg (qm (zF (enc:=zy) (λ_=>V) V _ _)) (qg (qm (zF (enc:=zu) (λ_=>V) V _ _)) V))))) V;have lw:=low 6 (k+1) (.inr an);rw[<-qX (z:=([.eM 1 0 [],.eM 1 0 [],.eM 1 0 [],.eM 1 0 [],Bo false]:List C)) (n:=l.length) hF hk]at lw;exact lw
  .exact gK
 refine h1.mj (λB h _=>?_) (pC _);have hw:=zk.eZ (B:=B) [1,3,4,5] [0] [.sl 1 [] 5 0 l.length false] [⟨1,259,0,[[]],0⟩,⟨1,0,5,(l.map zt).set v (fl 3 v0),0⟩,⟨1,106,5,[zt v0],0⟩,⟨1,0,2,(v0.zg.map zy).set g (fi 4 g0),0⟩,⟨1,0,3,(g0.ends.map zu).set e (fh 5 e0),0⟩,oN e0] tX V V (ze V (ze (zf (zF (enc:=zt) (λ_=>V) V l v)) (ze V (ze (zf (zF (enc:=zy) (λ_=>V) V _ _)) (ze (zf (zF (enc:=zu) (λ_=>V) V _ _)) V)))))
 have e:xv [1,3,4,5] [⟨1,259,0,[[]],0⟩,⟨1,0,5,(l.map zt).set v (fl 3 v0),0⟩,⟨1,106,5,[zt v0],0⟩,⟨1,0,2,(v0.zg.map zy).set g (fi 4 g0),0⟩,⟨1,0,3,(g0.ends.map zu).set e (fh 5 e0),0⟩,oN e0]=[⟨1,0,5,(l.map zt).set v (fl 1 v0),0⟩,⟨1,0,2,(v0.zg.map zy).set g (fi 2 g0),0⟩,⟨1,0,3,(g0.ends.map zu).set e (fh 3 e0),0⟩,oN e0]:=by
  show zJ [1,3,4,5] ⟨1,0,5,(l.map zt).set v (fl 3 v0),0⟩::_=_;rw[zI (enc:=zt) (λ_=>V)];show _::zJ [1,3,4,5] ⟨1,0,2,(v0.zg.map zy).set g (fi 4 g0),0⟩::zJ [1,3,4,5] ⟨1,0,3,(g0.ends.map zu).set e (fh 5 e0),0⟩::_=_;rw[zI (enc:=zy) (λ_=>V),zI (enc:=zu) (λ_=>V)];rfl
 rw[e]at hw;exact hw
structure CU(vs:List eX)(v:Nat)(v0:eX)(g:Nat)(g0:Gr)(e:Nat)(e0:En):Prop extends Ek v0 g g0 e e0 where
 MJ:vs.length<1000000000/\∀v∈vs,El v
 fR:vs[v]?=some v0
def Vr{vs:List eX}(h:CU vs v v0 g g0 e e0)(H:zq)(hf:qQ H=true):th 224 H [lV vs,.fn 225 [] [],.agg []] (.sl H.length [] 5 0 vs.length false) (H++[⟨1,0,5,(vs.map zt).set v (fl (H.length+1) v0),0⟩,⟨1,0,2,(v0.zg.map zy).set g (fi (H.length+2) g0),0⟩,⟨1,0,3,(g0.ends.map zu).set e (fh (H.length+3) e0),0⟩,oN e0]):=by
 have:=oH (Uf g0 g e0 e vs v v0 h.fR h.MJ.1 (λy hy=>jC y (h.MJ.2 y hy)) (Py h.toEk)) (ze (zf (zF (enc:=zt) (λ_=>V) V _ _)) (ze (zf (zF (enc:=zy) (λ_=>V) V _ _)) (ze (zf (zF (enc:=zu) (λ_=>V) V _ _)) V))) V H hf
 have e9:[(⟨1,0,5,(vs.map zt).set v (fl 1 v0),0⟩:Ob),⟨1,0,2,(v0.zg.map zy).set g (fi 2 g0),0⟩,⟨1,0,3,(g0.ends.map zu).set e (fh 3 e0),0⟩,oN e0].map (zM (q6 [] H.length))=[⟨1,0,5,(vs.map zt).set v (fl (H.length+1) v0),0⟩,⟨1,0,2,(v0.zg.map zy).set g (fi (H.length+2) g0),0⟩,⟨1,0,3,(g0.ends.map zu).set e (fh (H.length+3) e0),0⟩,oN e0]:=by
  show zM _ ⟨1,0,5,_,0⟩::zM _ ⟨1,0,2,_,0⟩::zM _ ⟨1,0,3,_,0⟩::_=_;rw[zD (enc:=zt) (λ_=>V),zD (enc:=zy) (λ_=>V),zD (enc:=zu) (λ_=>V)]
  rfl
 rw[e9]at this;exact dW
def wN(l:List (List Int))(hl:l.length<1000000000)(hp:∀x∈l,th 228 [] [.agg [],lU x] (lU x) []):th 227 [] [ff l,.fn 228 [] [],.agg []] (.sl 0 [] 1 0 l.length false) [⟨2,155,1,l.map zA,0⟩]:=by
 have m1:(l.map zA).length=l.length:=gO ..;refine zb.zZ (fn:=f227) func227 V (uH ?_);rw[m1];refine⟨rfl,an,by show(24:Int)*_<=_;omega,an,dd ?_⟩;rw[m1,toNat_cast];refine zH.seq l.length (λk=>((ff l)::.fn 228 [] []::.za::.za::.za::.ref 0 [] 0 0 0::.eM 1 0 []::.sl 1 [] 1 0 l.length false::.za::.za::.za::.za::.za::(ff l)::I l.length::I k::mK ([.za,.za,.za,.za,.za]))) (λk=>[⟨1,259,0,[[]],0⟩,⟨2,155,1,(l.map zA).take k++(List.replicate l.length ([.eM 1 0 []]:List C)).drop k,0⟩]) (λk=>True) ?_ trivial (λk hk hr=>?_) (λhr=>?_)
 .exact cC
 .obtain⟨x,hx⟩:∃x,x=l[k]:=⟨_,rfl⟩;have hx2:l[k]?=some x:=by rw[gL hk,hx]
  have hg:(l.map zA)[k]?=some (zA x):=by rw[gM,hx2];rfl
  conv=>whnf
  refine zay ?_
  refine af (hp x uY) ?_;refine⟨an,ar,dd ?_⟩;have e1:0+(k:Int).toNat=k:=ah
  rw[e1];refine⟨_,jQ ah hk,rfl,dd ?_⟩;refine zai ?_;have e2:=qX (z:=([.eM 1 0 []]:List C)) (n:=l.length) hg hk;rw[zm an,<-e2];exact cE 2
 .exact dM
def Sf(r0:List Int)(x:Int)(l:List Int)(he:r0=x::l)(hl:l.length<1000000000):th 228 [] [.agg [],lU r0] (.sl 0 [] 1 0 r0.length false) [⟨2,52,1,r0.map qB,0⟩]:=by
 have h1:th 228 [] [.agg [],lU r0] (.sl 1 [] 1 0 r0.length false) [⟨1,259,0,[[]],0⟩,⟨2,52,1,r0.map qB,0⟩]:=by
  have hc:=Uq x l hl;rw[<-he]at hc;refine zb.zZ (fn:=f228) func228 V (uH ?_);refine ae [] (hc) ?_;exact uJ
 exact h1.mj (λB h _=>zk.eZ [1] [0] _ _ tX V V V) (pC _)
def UR(r0:List Int)(x:Int)(l:List Int)(he:r0=x::l)(hl:l.length<1000000000)(H:zq)(hf:qQ H=true):th 228 H [.agg [],lU r0] (.sl H.length [] 1 0 r0.length false) (H++[⟨2,52,1,r0.map qB,0⟩]):=
 oH (Sf r0 x l he hl) V V H hf
def kA{fn:Func}{c:Code}{H2:zq}{r:C}(hf:P.funcs[f]?=some fn)(hb:fn.body=some c)
 (h:wpA P 0 c (entry fn args) [] λex t1 H1=>(ex=.ret\/ex=.normal)/\∃s2 r1,zk 0 ⟨t1,H1⟩ s2/\vP P fn s2=some r1/\zk 0 ⟨[r1],s2.H⟩ ⟨[r],H2⟩):zb P f [] args r H2:=λw E vs hh hl=>by
 have h1:qz P f [] args λr1 H1=>zk 0 ⟨[r1],H1⟩ ⟨[r],H2⟩:=qz.zZ hf hb h
 refine(h1 w E vs hh hl).mono ?_;rintro e w' ⟨r1,H1,v,E',hw,h0,h2,h3,g⟩;obtain⟨E2,hs,g2⟩:=hw 0 w' E' ⟨#[v],[]⟩ ⟨h2,LL.one h3,pC _,pC _⟩;have hn2:=hs.heap.n;have hn0:E.n=0:=hh.n;refine⟨v,E2,h0,hs.heap,hs.tmps.cons_inv.1,⟨⟨by rw[hn0];exact pC _,λid hops hi=>by rw[hn0]at hi;omega,λid hops hi=>by rw[hn0]at hi;omega,λb o u hu=>g2.le.St _ _ _ (g.le.St _ _ _ hu),λid k u hi hu=>by rw[hn0]at hi;omega⟩,g2.os.trans g.os,g2.tape.trans g.tape,g2.output.trans g.output,ru g.size g2.size,?_,?_,?_⟩⟩
 .intro k hk ho;exact di
 .intro b o u hu;rcases g2.jx b o u hu with h1|h1|h1
  .exact g.jx b o u h1
  .exact gD
  .rcases g.own b h1 with h4|h4
   .exact .inr (.inl h4)
   .exact .inr (.inr h4)
 .intro b hb;rcases g2.own b hb with h1|h1
  .exact gJ
  .exact g.own b h1
def qx(w:Wor)(h:z6 w):th 173 [] [Cw w] (Cw w) []:=by
 refine ab func173 ?_;refine af (vg w.pins h.pins) ?_;refine zaB ?_;refine af (Br w.zn h.zn) ?_;exact⟨.inl V,_,(zk.zN 1 0 4 V V V V (.inr V) V ah (shut_map (enc:=zt) (λ_=>V) w.zd) (zB V)).trans (zk.zN 1 0 6 V V V V (.inr V) V ah (shut_map (enc:=zA) (λ_=>V) w.counts) (zB V)),rfl⟩
def Ue(l:List (List Int))(t:Nat)(r0:(List Int))(hv:l[t]?=some r0)(hl:l.length<1000000000)(hp:∀x∈l,th 228 [] [.agg [],lU x] (lU x) [])
 (hA:∀H,qQ H=true->th 228 H [.agg [],lU r0] (.sl H.length [] 1 0 r0.length false) (H++[⟨2,52,1,r0.map qB,0⟩])):
  th 227 [] [ff l,.fn 228 [] [],.agg []] (.sl 0 [] 1 0 l.length false) [⟨1,0,1,(l.map zA).set t ([C.sl 1 [] 1 0 r0.length false]),0⟩,⟨2,52,1,r0.map qB,0⟩]:=by
 have m1:(l.map zA).length=l.length:=gO ..;have hvl:=(gN.1 hv).1
 have h1:th 227 [] [ff l,.fn 228 [] [],.agg []] (.sl 1 [] 1 0 l.length false) [⟨1,259,0,[[]],0⟩,⟨1,0,1,(l.map zA).set t ([C.sl 2 [] 1 0 r0.length false]),0⟩,⟨2,52,1,r0.map qB,0⟩]:=by
  refine zb.zZ (fn:=f227) func227 V (uH ?_);rw[m1];refine⟨rfl,an,by show(24:Int)*_<=_;omega,an,dd ?_⟩;rw[m1,toNat_cast];have ZZ:List C:=([.eM 1 0 []]:List C);refine zH.seq l.length (λk=>((ff l)::.fn 228 [] []::.za::.za::.za::.ref 0 [] 0 0 0::.eM 1 0 []::.sl 1 [] 1 0 l.length false::.za::.za::.za::.za::.za::(ff l)::I l.length::I k::mK ([.za,.za,.za,.za,.za]))) (λk=>if k<=t then [⟨1,259,0,[[]],0⟩,⟨1,0,1,((l.map zA).set t ([C.sl 2 [] 1 0 r0.length false])).take k++(List.replicate l.length ([.eM 1 0 []]:List C)).drop k,0⟩] else [⟨1,259,0,[[]],0⟩,⟨1,0,1,((l.map zA).set t ([C.sl 2 [] 1 0 r0.length false])).take k++(List.replicate l.length ([.eM 1 0 []]:List C)).drop k,0⟩,⟨2,52,1,r0.map qB,0⟩]) (λk=>True) ?_ trivial (λk hk hr=>?_) (λhr=>?_)
  .rw[gS (pC _)];refine zk.trans (zk.BO 1 V λr hr c hc=>?_) (cC);rw[ry hr]at hc;exact gV.1 (rfl:([.eM 1 0 []]:List C).all zG=true) c hc
  .obtain⟨x,hx⟩:∃x,x=l[k]:=⟨_,rfl⟩;have hx2:l[k]?=some x:=by rw[gL hk,hx]
   have hxm:x∈l:=bA
   have hg:(l.map zA)[k]?=some (zA x):=by rw[gM,hx2];rfl
   have e1:0+(k:Int).toNat=k:=ah
   have low:∀n j,j<=t\/2<n->∀r∈((l.map zA).set t ([C.sl 2 [] 1 0 r0.length false])).take j++(List.replicate l.length ([.eM 1 0 []]:List C)).drop j,∀c∈r,qE n 9 c=true:=λn j h=>kg (enc:=zA) (λ_=>V) V l l.length (h.imp_right λh=>by simp[qE,qP];omega)
   have own:∀j,∀r∈((l.map zA).set t ([C.sl 2 [] 1 0 r0.length false])).take j++(List.replicate l.length ([.eM 1 0 []]:List C)).drop j,∀c∈r,zG c=true:=λj=>kg (enc:=zA) (λ_=>V) V l l.length (.inr V)
   by_cases hkv:k=t
   .subst hkv;obtain rfl:r0=x:=by rw[hv]at hx2;exact rC hx2
    have hF:((l.map zA).set k ([C.sl 2 [] 1 0 r0.length false]))[k]?=some ([C.sl 2 [] 1 0 r0.length false]):=by rw[pd,gS V,gS (ai hk)]
    rw[gS (pj _),gP an];conv=>whnf
    refine zay ?_
    refine⟨_,_,hA _ (ze V (zf (own k))),dd ?_⟩;exact dx
   .have hF:((l.map zA).set t ([C.sl 2 [] 1 0 r0.length false]))[k]?=some (zA x):=by rw[pT (λh=>hkv h.symm)];exact hg
    by_cases eP:k<t
    .rw[gS an,gS an];conv=>whnf
     refine zay ?_
     refine zaw ?_;refine zk.jq 2 ta V V V (qg V (qm ?_)) V;have lw:=low 2 (k+1) (.inl an);rw[<-qX (z:=([.eM 1 0 []]:List C)) (n:=l.length) hF hk]at lw;exact lw
    .rw[gP an,gP an];conv=>whnf
     refine zay ?_
     refine zaw ?_;refine zk.jq 3 ta V V V (qg V (qg (qm ?_) V)) V;have lw:=low 3 (k+1) (.inr an);rw[<-qX (z:=([.eM 1 0 []]:List C)) (n:=l.length) hF hk]at lw;exact lw
  .exact gK
 refine h1.mj (λB h _=>?_) (pC _);have hw:=zk.eZ (B:=B) [1,2] [0] [.sl 1 [] 1 0 l.length false] [⟨1,259,0,[[]],0⟩,⟨1,0,1,(l.map zA).set t ([C.sl 2 [] 1 0 r0.length false]),0⟩,⟨2,52,1,r0.map qB,0⟩] tX V V (ze V (ze (zf (zF (enc:=zA) (λ_=>V) V l t)) V))
 have e:xv [1,2] [⟨1,259,0,[[]],0⟩,⟨1,0,1,(l.map zA).set t ([C.sl 2 [] 1 0 r0.length false]),0⟩,⟨2,52,1,r0.map qB,0⟩]=[⟨1,0,1,(l.map zA).set t ([C.sl 1 [] 1 0 r0.length false]),0⟩,⟨2,52,1,r0.map qB,0⟩]:=by
  show zJ [1,2] ⟨1,0,1,(l.map zA).set t ([C.sl 2 [] 1 0 r0.length false]),0⟩::_=_;rw[zI (enc:=zA) (λ_=>V)]
  rfl
 rw[e]at hw;exact hw
structure AN(cs:List (List Int))(t:Nat)(r0:List Int):Prop where
 sm:cs.length<1000000000/\∀r∈cs,r.length<1000000000
 at_:cs[t]?=some r0
 ne:r0≠[]
def Vq{cs:List (List Int)}(h:AN cs t r0)(H:zq)(hf:qQ H=true):th 227 H [ff cs,.fn 228 [] [],.agg []] (.sl H.length [] 1 0 cs.length false) (H++[⟨1,0,1,(cs.map zA).set t ([C.sl (H.length+1) [] 1 0 r0.length false]),0⟩,⟨2,52,1,r0.map qB,0⟩]):=by
 obtain⟨x,l,hx⟩:∃x l,r0=x::l:=by
  cases hh:r0 with
  |nil=>exact absurd hh h.ne
  |cons x l=>exact⟨x,l,rfl⟩
 have hlen:l.length<1000000000:=by
  have:=h.sm.2 r0 (gT h.at_);rw[hx]at this;exact dt
 have:=oH (Ue cs t r0 h.at_ h.sm.1 (λy hy=>xU y (h.sm.2 y hy)) (UR r0 x l hx hlen)) (ze (zf (zF (enc:=zA) (λ_=>V) V _ _)) V) V H hf
 have e9:[(⟨1,0,1,(cs.map zA).set t ([C.sl 1 [] 1 0 r0.length false]),0⟩:Ob),⟨2,52,1,r0.map qB,0⟩].map (zM (q6 [] H.length))=[⟨1,0,1,(cs.map zA).set t ([C.sl (H.length+1) [] 1 0 r0.length false]),0⟩,⟨2,52,1,r0.map qB,0⟩]:=by
  show zM _ ⟨1,0,1,_,0⟩::_=_;rw[zD (enc:=zA) (λ_=>V)]
  rfl
 rw[e9]at this;exact dW
def Iw(w:Wor)(h:z6 w)(x:Int)(l:List Int)(hx:w.pins=x::l):th 173 [] [Cw w] (.agg [I w.zr,I w.current,I w.lock,.sl 0 [] 1 0 w.pins.length false,lV w.zd,lL w.zc,ff w.counts,lR w.zn]) [⟨2,3,1,w.pins.map encI,0⟩]:=by
 have hl:l.length<1000000000:=by have:=h.pins;rw[hx]at this;exact dt
 have hc:=KX x l hl;rw[<-hx]at hc;refine kA (fn:=f173) func173 V (uH ?_);refine ae [] (hc) ?_;refine zaB ?_;refine af (Br w.zn h.zn) ?_;refine za3 ?_;exact zk.eZ [3] [0] _ _ V V V (ze V (ze V (ze V (ze V (ze (zf λr hr c hc=>((shut_map (enc:=zt) (λ_=>V) w.zd) r hr c hc).2) (zf λr hr c hc=>((shut_map (enc:=zA) (λ_=>V) w.counts) r hr c hc).2))))))
def q8{B:Nat}(sel m:List Nat){t t2:List C}{H2:zq}(hB:BN B 0 sel=true)(qc:sel.all (λid=>Nat.blt id H.length)=true)(fN:yk sel=true)(fI:qQ H=true)(et:(Ap m 0 t).map (jK sel 9)=t2)(e:xv sel H=H2):zk B ⟨t,H⟩ ⟨t2,H2⟩:=by
 subst et e;exact zk.eZ sel m t H hB qc fN fI
def vh(w:Wor)(h:z6 w)(x:fj)(l:List fj)(hx:w.zc=x::l):th 173 [] [Cw w] (.agg (iv 0 w)) [⟨2,98,4,w.zc.map zU,0⟩]:=by
 have hl:l.length<1000000000:=by have:=h.zc;rw[hx]at this;exact dt
 have hc:=Up x l hl;rw[<-hx]at hc;refine zbi ?_;refine ae [] (wO w.zd h.zd.1 λv hv=>jC v (h.zd.2 v hv)) ?_;refine ae [] (hc) ?_;refine ae [] (wN w.counts h.counts.1 λr hr=>xU r (h.counts.2 r hr)) ?_;refine af (Br w.zn h.zn) ?_;refine za3 ?_;exact zk.eZ [4] [0] _ _ V V V (ze V (ze V (ze V (ze (zf λr hr c hc=>((shut_map (enc:=zt) (λ_=>V) w.zd) r hr c hc).2) (ze V (zf λr hr c hc=>((shut_map (enc:=zA) (λ_=>V) w.counts) r hr c hc).2))))))
def Iv(w:Wor)(h:z6 w)(cs:List (List Int))(hcs:w.counts=cs)(hp:AN cs t r0):th 173 [] [Cw w] (.agg [I w.zr,I w.current,I w.lock,lI w.pins,lV w.zd,lL w.zc,.sl 0 [] 1 0 cs.length false,lR w.zn]) [⟨1,0,1,(cs.map zA).set t ([C.sl 1 [] 1 0 r0.length false]),0⟩,⟨2,52,1,r0.map qB,0⟩]:=by
 subst hcs;have own:∀i,∀r∈(w.counts.map zA).set t ([C.sl i [] 1 0 r0.length false]),∀c∈r,zG c=true:=λi=>zF (enc:=zA) (λ_=>V) V _ _
 refine zbi ?_;refine ae [] (wO w.zd h.zd.1 λv hv=>jC v (h.zd.2 v hv)) ?_;refine af (ke w.zc h.zc) ?_;refine⟨_,_,Vq hp _ (ze V (ze V (ze V V))),dd ?_⟩;refine af (Br w.zn h.zn) ?_;refine⟨.inl V,_,_,zk.zN 1 0 4 V V V V (.inr V) V ah (shut_map (enc:=zt) (λ_=>V) w.zd) (zB V),rfl,?_⟩;refine q8 [4,5] [0] V V V (ze V (ze V (ze V (ze (zf λr hr c hc=>((shut_map (enc:=zt) (λ_=>V) w.zd) r hr c hc).2) (ze (zf (own 5)) V))))) V ?_;show zJ [4,5] ⟨1,0,1,(w.counts.map zA).set t ([C.sl 5 [] 1 0 r0.length false]),0⟩::_=_;rw[zI (enc:=zA) (λ_=>V)]
 rfl
def VM(w:Wor)(h:z6 w)(H:zq)(hf:qQ H=true):th 227 H [ff w.counts,.fn 228 [] [],.agg []] (.sl H.length [] 1 0 w.counts.length false) (H++[⟨2,155,1,w.counts.map zA,0⟩]):=
 oH (wN w.counts h.counts.1 λr hr=>xU r (h.counts.2 r hr)) V V H hf
def yB(w:Wor)(h:z6 w)(vs:List eX)(hvs:w.zd=vs)(hp:CU vs v v0 g g0 e e0):th 173 [] [Cw w] (.agg [I w.zr,I w.current,I w.lock,lI w.pins,.sl 0 [] 5 0 vs.length false,lL w.zc,ff w.counts,lR w.zn]) [⟨1,0,5,(vs.map zt).set v (fl 1 v0),0⟩,⟨1,0,2,(v0.zg.map zy).set g (fi 2 g0),0⟩,⟨1,0,3,(g0.ends.map zu).set e (fh 3 e0),0⟩,oN e0]:=by
 subst hvs;have own:∀i,∀r∈(w.zd.map zt).set v (fl i v0),∀c∈r,zG c=true:=λi=>zF (enc:=zt) (λ_=>V) V _ _
 refine zbi ?_;refine⟨_,_,Vr hp _ V,dd ?_⟩;refine af (ke w.zc h.zc) ?_;refine⟨_,_,VM w h _ (ze V (ze V (ze V (ze (zf (own 4)) (ze (zf (zF (enc:=zy) (λ_=>V) V _ _)) (ze (zf (zF (enc:=zu) (λ_=>V) V _ _)) V)))))),dd ?_⟩;refine af (Br w.zn h.zn) ?_;refine zbP ?_;refine q8 [3,4,5,6] [0] V V V (ze V (ze V (ze V (ze (zf (own 4)) (ze (zf (zF (enc:=zy) (λ_=>V) V _ _)) (ze (zf (zF (enc:=zu) (λ_=>V) V _ _)) (ze V (zf λr hr c hc=>((shut_map (enc:=zA) (λ_=>V) w.counts) r hr c hc).2)))))))) V ?_;show zJ [3,4,5,6] ⟨1,0,5,(w.zd.map zt).set v (fl 4 v0),0⟩::zJ [3,4,5,6] ⟨1,0,2,(v0.zg.map zy).set g (fi 5 g0),0⟩::zJ [3,4,5,6] ⟨1,0,3,(g0.ends.map zu).set e (fh 6 e0),0⟩::_=_;rw[zI (enc:=zt) (λ_=>V),zI (enc:=zy) (λ_=>V),zI (enc:=zu) (λ_=>V)]
 rfl
def fS(i n:Int):Bool:=decide (0<=i) && decide (i<n)
def wu(i n:Int):th 208 [] [I i,I n] (Bo (fS i n)) []:=by
 refine ab func208 ?_;refine⟨λh1=>?_,λh1=>?_⟩
 .refine dd ?_;refine⟨λh2=>?_,λh2=>?_⟩
  .refine dd ?_
   (exact⟨.inl V,_,.refl _,uN (by unfold fS;simp at h1 h2|-;omega)⟩)
  .refine dd ?_
   (exact⟨.inl V,_,.refl _,uN (by unfold fS;simp at h1 h2|-;omega)⟩)
 .refine dd ?_
  (exact⟨.inl V,_,.refl _,uN (by unfold fS;simp at h1|-;omega)⟩)
def Rv(p:Int->Bool)(hcb:qt prog f=true)(hp:∀r∈l,th f H ([I r]++caps) (Bo (p r)) H)(hl:l.length<4611686018427387904):
  th 107 H [lI l,.fn f [] caps] (I (match l.findIdx? p with|some i=>(i:Int)|none=> -1)) H:=by
 refine zb.zZ (fn:=f107) func107 V (uH ?_)
 refine zH.inv (λn t1 H1=>∃k,k+n=l.length/\H1=H/\(∀j,j<k->∀r,l[j]?=some r->p r=false)/\
   t1=((lI l)::.fn f [] caps::.za::.za::I 0::.za::.za::I (l.map encI).length::I k::mK ([.za,.za]))) l.length ?_ ?_
 .exact dy
 rintro n _ _ ⟨k,hk,rfl,hno,rfl⟩;conv=>whnf
 refine⟨λh=>?_,λh=>?_⟩
 .conv=>whnf
  have eP:k<l.length:=ai h
  refine⟨an,encI l[k],aB,uH ?_⟩;rw[hcb];refine⟨_,_,hp _ (pH eP),uH ?_⟩;refine⟨λh2=>?_,λh2=>?_⟩
  .conv=>whnf
   refine zaX ?_
   have:l.findIdx? p=some k:=by
    rw[pB];refine⟨eP,h2,λj hj=>?_⟩;simp[hno j hj _ (gL an)]
   rw[this]
   rfl
  .conv=>whnf
   refine .inl ⟨rfl,n-1,_,_,an,zk.mask [0,1,4,7,8] _ _,k+1,an,rfl,?_,?_⟩
   .intro j hj r hr;by_cases hjk:j=k
    .subst hjk;rw[gL eP]at hr;cases hr
     exact h2
    .exact hno j an r hr
   .rw[zm an];rfl
 .conv=>whnf
  refine zaX ?_
  have:l.findIdx? p=none:=by
   rw[pD];intro x hx;obtain⟨j,hj⟩:=pA.1 hx;have hjl:=(gN.1 hj).1;have:¬k<l.length:=ai h
   exact hno j an x hj
  rw[this]
  rfl
def JI(p:Int->Bool)(hcb:qt prog f=true)(hp:∀r∈l,th f H ([I r]++caps) (Bo (p r)) H)(hl:l.length<4611686018427387904):
  th 57 H [lI l,.fn f [] caps] (Bo (l.any p)) H:=by
 refine zb.zZ (fn:=f57) func57 V (uH ?_);refine⟨_,_,Rv p hcb hp hl,dd ?_⟩;refine zbg ?_;refine⟨λh=>?_,λh=>?_⟩ <;> rw[h]
 .exact dO
 .exact dO
def Ru{l:List En}(p:En->Bool)(hcb:qt prog f=true)(hp:∀r∈l,th f H ([Go.Slp.Ev r]++caps) (Bo (p r)) H)(hl:l.length<4611686018427387904):
  th 295 H [lE l,.fn f [] caps] (I (match l.findIdx? p with|some i=>(i:Int)|none=> -1)) H:=by
 refine zb.zZ (fn:=f295) func295 V (uH ?_)
 refine zH.inv (λn t1 H1=>∃k,k+n=l.length/\H1=H/\(∀j,j<k->∀r,l[j]?=some r->p r=false)/\
   t1=((lE l)::.fn f [] caps::.za::.za::I 0::.za::.za::I (l.map zu).length::I k::mK ([.za,.za]))) l.length ?_ ?_
 .exact dy
 rintro n _ _ ⟨k,hk,rfl,hno,rfl⟩;conv=>whnf
 refine⟨λh=>?_,λh=>?_⟩
 .conv=>whnf
  have eP:k<l.length:=ai h
  refine⟨an,zu l[k],aB,uH ?_⟩;rw[hcb];refine⟨_,_,hp _ (pH eP),uH ?_⟩;refine⟨λh2=>?_,λh2=>?_⟩
  .conv=>whnf
   refine zaX ?_
   have:l.findIdx? p=some k:=by
    rw[pB];refine⟨eP,h2,λj hj=>?_⟩;simp[hno j hj _ (gL an)]
   rw[this]
   rfl
  .conv=>whnf
   refine .inl ⟨rfl,n-1,_,_,an,zk.mask [0,1,4,7,8] _ _,k+1,an,rfl,?_,?_⟩
   .intro j hj r hr;by_cases hjk:j=k
    .subst hjk;rw[gL eP]at hr;cases hr
     exact h2
    .exact hno j an r hr
   .rw[zm an];rfl
 .conv=>whnf
  refine zaX ?_
  have:l.findIdx? p=none:=by
   rw[pD];intro x hx;obtain⟨j,hj⟩:=pA.1 hx;have hjl:=(gN.1 hj).1;have:¬k<l.length:=ai h
   exact hno j an x hj
  rw[this]
  rfl
def RI{l:List En}(p:En->Bool)(hcb:qt prog f=true)(hp:∀r∈l,th f H ([Go.Slp.Ev r]++caps) (Bo (p r)) H)(hl:l.length<4611686018427387904):
  th 283 H [lE l,.fn f [] caps] (Bo (l.any p)) H:=by
 refine zb.zZ (fn:=f283) func283 V (uH ?_);refine⟨_,_,Ru p hcb hp hl,dd ?_⟩;refine zbg ?_;refine⟨λh=>?_,λh=>?_⟩ <;> rw[h]
 .exact dO
 .exact dO
def nW(ep p:Int):Bool:=decide (p<0) || decide (p > ep+1)
def Og(w:Wor)(p:Int)(h0:0<=w.zr)(h1:w.zr<=1000000000000):th 280 [oW w] ([I p]++[.ref 0 [] 8 0 0]) (Bo (nW w.zr p)) [oW w]:=by
 have e:IntKind.i64.wrap (w.zr+1)=w.zr+1:=jB an an;refine zb.zZ (fn:=f280) func280 V (uH ?_);refine⟨λh2=>?_,λh2=>?_⟩
 .refine dd ?_;exact⟨.inl V,_,.refl _,rfl,uN (by unfold nW;rw[h2];rfl)⟩
 .refine dd ?_;rw[e];refine⟨λh3=>?_,λh3=>?_⟩
  .refine dd ?_;exact⟨.inl V,_,.refl _,rfl,uN (by unfold nW;rw[h2,h3];rfl)⟩
  .refine dd ?_;exact⟨.inl V,_,.refl _,rfl,uN (by unfold nW;rw[h2,h3];rfl)⟩
def jt(w:Wor):Bool:=decide (1<=w.pins.length) && decide (w.pins.length<=8) && decide (w.counts.length=w.pins.length) && xV w.counts && decide (0<=w.zr) && decide (w.zr<=1000000000000) && (decide (w.lock=0) || decide (w.lock=1)) && !w.pins.any (nW w.zr)
def O7(w:Wor)(hp:w.pins.length<4000000000000000000)(hc:w.counts.length<4000000000000000000):th 254 [] [Cw w] (Bo (jt w)) []:=by
 have m1:(w.pins.map encI).length=w.pins.length:=gO ..;have m2:(w.counts.map zA).length=w.counts.length:=gO ..;refine ab func254 ?_;rw[m1];refine⟨λh1=>?_,λh1=>?_⟩
 ·(have e:jt w=false:=by (unfold jt;(rw[show decide (1<=w.pins.length)=false from by rw[pM];have:=gQ h1;omega]);simp));exact dc
 refine dd ?_;refine⟨λh2=>?_,λh2=>?_⟩
 ·(have e:jt w=false:=by (unfold jt;(rw[show decide (w.pins.length<=8)=false from cU]);simp));exact dc
 refine dd ?_;rw[m2];refine⟨λh3=>?_,λh3=>?_⟩
 ·(have e:jt w=false:=by (unfold jt;(rw[show decide (w.counts.length=w.pins.length)=false from by rw[pM];intro hh;simp[hh]at h3]);simp));exact dc
 refine dd ?_;refine af (OM w.counts hc) ?_;refine⟨λh4=>?_,λh4=>?_⟩
 rotate_left
 ·(have e:jt w=false:=by (unfold jt;(rw[h4]);simp));exact dc
 refine dd ?_;refine⟨λh5=>?_,λh5=>?_⟩
 ·(have e:jt w=false:=by (unfold jt;(rw[show decide (0<=w.zr)=false from by simp at h5|-;omega]);simp));exact dc
 refine dd ?_;refine⟨λh6=>?_,λh6=>?_⟩
 ·(have e:jt w=false:=by (unfold jt;(rw[show decide (w.zr<=1000000000000)=false from by simp at h6|-;omega]);simp));exact dc
 refine dd ?_;have b0:0<=w.zr:=by simp at h5;omega
 have b1:w.zr<=1000000000000:=by simp at h6;omega
 have hcon:=JI (H:=[oW w]) (f:=280) (l:=w.pins) (caps:=[.ref 0 [] 8 0 0]) (nW w.zr) ak (λr _=>Og w r b0 b1) an
 have g0:jt w=((decide (w.lock=0) || decide (w.lock=1)) && !w.pins.any (nW w.zr)):=by
  have h3':w.counts.length=w.pins.length:=aD
  unfold jt;rw[show decide (1<=w.pins.length)=true from by rw[decide_eq_true_iff];have:=gR h1;omega,show decide (w.pins.length<=8)=true from cU,show decide (w.counts.length=w.pins.length)=true from ai h3',h4,show decide (0<=w.zr)=true from ai b0,show decide (w.zr<=1000000000000)=true from ai b1]
  rfl
 have fin:∀hl:(decide (w.lock=0) || decide (w.lock=1))=true,jt w=!w.pins.any (nW w.zr):=λhl=>by rw[g0,hl];rfl
 refine⟨λh7=>?_,λh7=>?_⟩
 .refine dd ?_;refine⟨λh8=>?_,λh8=>?_⟩
  .have e:jt w=false:=by rw[g0,show(decide (w.lock=0) || decide (w.lock=1))=false from by simp at h7 h8|-;omega];rfl
   rw[e];refine zac ?_
   exact uI
  rw[fin (by simp at h8|-;omega)];refine zac ?_
  refine ae [0] (hcon) ?_;refine⟨λh9=>?_,λh9=>?_⟩
  .refine dd ?_
   (exact⟨.inl V,_,.refl _,uN (by rw[h9];rfl)⟩)
  .refine dd ?_
   (exact⟨.inl V,_,.refl _,uN (by rw[h9];rfl)⟩)
 .rw[fin (by simp at h7|-;omega)];refine zac ?_
  refine ae [0] (hcon) ?_;refine⟨λh9=>?_,λh9=>?_⟩
  .refine dd ?_
   (exact⟨.inl V,_,.refl _,uN (by rw[h9];rfl)⟩)
  .refine dd ?_
   (exact⟨.inl V,_,.refl _,uN (by rw[h9];rfl)⟩)
def yu(x:fq)(e:En):Bool:=!Go.Slp.fm e || (e.next.length:Int) != x.xY
def N5(x:fq)(e:En)(he:e.ok):th 282 [oC x] ([Go.Slp.Ev e]++[.ref 0 [] 4 0 0]) (Bo (yu x e)) [oC x]:=by
 have m1:(e.next.map encI).length=e.next.length:=gO ..;refine zb.zZ (fn:=f282) func282 V (uH ?_);refine af (Go.Slp.Be e he) ?_;refine⟨λh1=>?_,λh1=>?_⟩
 rotate_left
 .refine dd ?_;exact⟨.inl V,_,zk.keep [3] 1 _ _ V V V V,rfl,uN (by unfold yu;rw[h1];rfl)⟩
 .refine dd ?_;rw[m1];refine⟨λh2=>?_,λh2=>?_⟩
  .refine dd ?_;exact⟨.inl V,_,zk.keep [3] 1 _ _ V V V V,rfl,uN (by unfold yu;rw[h1,h2];rfl)⟩
  .refine dd ?_;exact⟨.inl V,_,zk.keep [3] 1 _ _ V V V V,rfl,uN (by unfold yu;rw[h1,h2];rfl)⟩
structure EI(v:eX):Prop where
 snap:yR v.snap
 zg:v.zg.length<1000000000000
 ends : ∀g∈v.zg, g.ends.length<1000000000000 /\ ∀e∈g.ends, e.ok
def kD(v:eX)(i:Nat):Bool:=match v.zg[i]?,v.snap.zi[i]? with
 |some g,some x=>decide (g.ends.length=x.zL.length) && !g.ends.any (yu x)
 |_,_=>true
def kO(v:eX):Bool:=yN v.snap && decide (v.zg.length=v.snap.zi.length) && (List.range v.zg.length).all (kD v)
def OP(v:eX)(hv:EI v):th 256 [] [Cv v] (Bo (kO v)) []:=by
 have m1:(v.zg.map zy).length=v.zg.length:=gO ..;have m2:(v.snap.zi.map jl).length=v.snap.zi.length:=gO ..;have hgl:=hv.zg;refine ab func256 ?_;refine af (It v.snap hv.snap) ?_;refine⟨λh1=>?_,λh1=>?_⟩
 rotate_left
 .have e:kO v=false:=by unfold kO;rw[h1];rfl
  rw[e];refine zac ?_
  exact uI
 refine dd ?_;rw[m1,m2];refine⟨λh2=>?_,λh2=>?_⟩
 .have e:kO v=false:=by unfold kO;rw[show decide (v.zg.length=v.snap.zi.length)=false from by rw[pM];intro hh;simp[hh]at h2,sq];rfl
  rw[e];refine zac ?_
  exact uI
 have h2':v.zg.length=v.snap.zi.length:=aC
 refine zac ?_
 rw[m1];refine zH.seq v.zg.length (λk=>(.za::.ref 0 [] 5 0 0::Bo false::mK (mK (.za::.za::.za::(lG v.zg)::I v.zg.length::I k::mK (mK (mK ([.za]))))))) (λk=>[⟨1,106,5,[zt v],0⟩]) (λk=>∀j,j<k->kD v j=true) ?_ ah (λk hk hr=>?_) (λhr=>?_)
 .exact cC
 .obtain⟨g,hg⟩:∃g,g=v.zg[k]:=⟨_,rfl⟩;obtain⟨x,hx⟩:∃x,x=v.snap.zi[k]'an:=⟨_,rfl⟩;have gg:(v.zg.map zy)[k]?=some (zy g):=by rw[gM,gL hk,hg];rfl
  have gx:(v.snap.zi.map jl)[k]?=some (jl x):=by rw[gM,gL an,hx];rfl
  have hgm:g∈v.zg:=by rw[hg];exact gz
  have me:(g.ends.map zu).length=g.ends.length:=gO ..;have mh:(x.zL.map yt).length=x.zL.length:=gO ..
  have hd:kD v k=(decide (g.ends.length=x.zL.length) && !g.ends.any (yu x)):=by
   unfold kD;rw[gL hk,gL an,<-hg,<-hx]
  have bad:kD v k=false->kO v=false:=λh=>by
   have:(List.range v.zg.length).all (kD v)=false:=by rw[rP];exact⟨k,ai hk,aA⟩
   unfold kO;rw[this,sq]
  have hcon:=RI (H:=[oC x]) (f:=282) (l:=g.ends) (caps:=[.ref 0 [] 4 0 0]) (yu x) ak (λr hr=>N5 x r ((hv.ends g hgm).2 r hr)) (by have:=(hv.ends g hgm).1;omega);conv=>whnf
  refine uF ?_;(refine te gg ?_)
  (refine te gx ?_)
  rw[me,mh];refine⟨λh3=>?_,λh3=>?_⟩
  .rw[bad (by rw[hd,show decide (g.ends.length=x.zL.length)=false from by rw[pM];intro hh;simp[hh]at h3];rfl)];refine zac ?_
   refine zap ?_
   exact uI
  refine dd ?_;refine ae [2] (hcon) ?_;refine⟨λh4=>?_,λh4=>?_⟩
  .rw[bad (by rw[hd,h4,uo,sq])];refine zac ?_
   refine zap ?_
   exact uI
  refine zac ?_
  refine .inl ⟨rfl,?_,λj hj=>?_⟩
  .exact dz
  .by_cases e:j=k
   .subst e;rw[hd,h4];simp at h3|-;omega
   .exact hr j an
 .have e:kO v=true:=by
   unfold kO;rw[h1,show decide (v.zg.length=v.snap.zi.length)=true from ai h2',Bool.true_and,Bool.true_and,gV]
   exactλi hi=>hr i (ai hi)
  rw[e];refine uD ?_;exact uI
def yJ(l:List fg):List (Int×Value):=l.foldl (λm r=>yy m r.version (Value.bool r.gone)) []
def yK(l:List fg)(i:Int):Bool:=match ((jh (yJ l) i).bind λj=>((yJ l)[j]?).map (·.2):Option Value) with
 |some (.bool b)=>b
 |_=>false
def Ut{m:List (Int×Value)}(h:∀kv∈m,∃b,kv.2=Value.bool b)(k:Int)(b:Bool):∀kv∈yy m k (Value.bool b),∃b,kv.2=Value.bool b:=λkv hm=>by
 unfold yy at hm;split at hm
 .rcases rB hm with hm|rfl
  .exact h kv hm
  .exact⟨b,rfl⟩
 .rcases pw.1 hm with hm|hm
  .exact h kv hm
  .rw[pX.1 hm];exact⟨b,rfl⟩
def Rp(l:List fg):∀kv∈yJ l,∃b,kv.2=Value.bool b:=by
 unfold yJ
 suffices key:∀(l:List fg) (m:List (Int×Value)),(∀kv∈m,∃b,kv.2=Value.bool b)->∀kv∈l.foldl (λm r=>yy m r.version (Value.bool r.gone)) m,∃b,kv.2=Value.bool b from key l [] ah
 intro l
 induction l with
 |nil=>intro m h;exact h
 |cons r l ih=>intro m h;exact ih _ (Ut h _ _)
def Vb(l:List fg)(i:Int):(((jh (yJ l) i).bind λj=>((yJ l)[j]?).map (·.2)).getD (Value.bool false))=Value.bool (yK l i):=by
 unfold yK;cases h:(jh (yJ l) i).bind λj=>((yJ l)[j]?).map (·.2) with
 |none=>rfl
 |some v=>
  obtain⟨j,_,hj⟩:=rD.1 h;obtain⟨kv,h1,rfl⟩:=pN.1 hj;obtain⟨b,hb⟩:=Rp l kv (gT h1);simp only[rm];rw[hb]
def T1(l:List fg){k:Nat}{r:fg}(h:l[k]?=some r):yJ (l.take (k+1))=yy (yJ (l.take k)) r.version (Value.bool r.gone):=by
 obtain⟨hk,rfl⟩:=gN.1 h;unfold yJ;rw[pP hk,eh]
 rfl
structure fa(w:Wor):Prop where
 pins:w.pins.length<1000000000000
 zd:w.zd.length<1000000000000/\∀v∈w.zd,EI v
 zc:w.zc.length<1000000000000/\∀l∈w.zc,l.ok
 counts:w.counts.length<1000000000000/\∀r∈w.counts,r.length<1000000000000
 zn:w.zn.length<1000000000000
def yv(w:Wor)(r:fg):Bool:=decide (r.version≥(w.zd.length:Int)) || r.version == w.current || decide (r.at_ > w.zr)
def nK(w:Wor)(i:Nat):Bool:=match w.zd[i]? with
 |some v=>kO v && (v.qF == yK w.zn i)
 |none=>true
def nc(w:Wor)(i:Nat):Bool:=match w.zc[i]? with
 |some l=>Go.Gat.fm l && decide (z7 w.zc l.name=i)
 |none=>true
def jW(w:Wor):Bool:=jt w && (decide (0<=w.current) && decide (w.current<w.zd.length)) && Go.Lim.fm w.zn && !w.zn.any (yv w) && (List.range w.zd.length).all (nK w) && (List.range w.zc.length).all (nc w)
def OQ(w:Wor)(hw:fa w):th 207 [] [Cw w] (Bo (jW w)) []:=by
 have m1:(w.zd.map zt).length=w.zd.length:=gO ..;have m2:(w.zn.map qh).length=w.zn.length:=gO ..;have m3:(w.zc.map zU).length=w.zc.length:=gO ..;have b1:=hw.pins;have b2:=hw.zd.1;have b3:=hw.zc.1;have b4:=hw.counts.1;have b5:=hw.zn;refine ab func207 ?_;refine af (O7 w an an) ?_;refine⟨λh1=>?_,λh1=>?_⟩
 rotate_left
 ·(have e:jW w=false:=by (unfold jW;(rw[h1]);simp));exact dc
 refine dd ?_;refine⟨λh2=>?_,λh2=>?_⟩
 ·(have e:jW w=false:=by (unfold jW;(rw[show decide (0<=w.current)=false from cU]);simp));exact dc
 refine dd ?_;rw[m1];refine⟨λh3=>?_,λh3=>?_⟩
 ·(have e:jW w=false:=by (unfold jW;(rw[show decide (w.current<w.zd.length)=false from by simp at h3|-;omega]);simp));exact dc
 refine dd ?_;refine af (Go.Lim.Be (l:=w.zn) an) ?_;refine⟨λh4=>?_,λh4=>?_⟩
 rotate_left
 ·(have e:jW w=false:=by (unfold jW;(rw[h4]);simp));exact dc
 refine zac ?_
 intro b;refine dd ?_;rw[m2]
 have g0:jW w=(!w.zn.any (yv w) && (List.range w.zd.length).all (nK w) && (List.range w.zc.length).all (nc w)):=by
  unfold jW;rw[h1,show decide (0<=w.current)=true from cU,show decide (w.current<w.zd.length)=true from by simp at h3|-;omega,h4]
  rfl
 refine zH.seq w.zn.length (λk=>(.za::.ref 0 [] 8 0 0::Bo false:: .v (.map (some b)):: .za::.za::.za::.za::.za::.za::mK (mK (mK (lR w.zn::I w.zn.length::I k:: .za::.za::.za::.za::.za::.za::mK (jp (mK (mK (mK ([])))))))))) (λk=>[oW w,fP b (jF qk (yJ (w.zn.take k))) (yJ (w.zn.take k)).length]) (λk=>∀j,(h:j<w.zn.length)->j<k->yv w w.zn[j]=false) ?_ ah (λk hk hr=>?_) (λhr=>?_)
 .exact cC
 .obtain⟨r,hx⟩:∃r,r=w.zn[k]:=⟨_,rfl⟩;have hx2:w.zn[k]?=some r:=by rw[gL hk,hx]
  have hg:(w.zn.map qh)[k]?=some (qh r):=by rw[gM,hx2];rfl
  have bad:yv w r=true->jW w=false:=λh=>by
   have:w.zn.any (yv w)=true:=ri.2 ⟨r,gT hx2,h⟩;rw[g0,this];rfl
  conv=>whnf
  refine zay ?_
  rw[m1];refine⟨λh5=>?_,λh5=>?_⟩
  ·(rw[bad (by unfold yv;rw[h5];rfl)]);exact zaW
  refine dd ?_;refine⟨λh6=>?_,λh6=>?_⟩
  ·(rw[bad (by unfold yv;rw[h6,uf];rfl)]);exact zaW
  refine dd ?_;refine⟨λh7=>?_,λh7=>?_⟩
  ·(rw[bad (by unfold yv;rw[h7,uf])]);exact zaW
  refine zac ?_
  refine⟨λq=>?_,λq=>?_⟩
  all_goals
   refine dd ?_;refine⟨_,_,e6.mapUpdate (id:=1) _ _ _ _ (.inl V) underlying286 (lJ.int underlying3) V V r.version (λE u h=>jE h) (.bool r.gone) (λE u h=>by rw[q];exact jE h),dd ?_⟩;refine .inl ⟨rfl,?_,λj hj hjk=>?_⟩
   .rw[zm an,<-T1 w.zn hx2];exact cE 2
   .by_cases e:j=k
    .subst e;rw[<-hx];unfold yv;rw[h5,h6,h7];rfl
    .exact dP
 have hl0:w.zn.any (yv w)=false:=by
  rw[pI];intro x hx;obtain⟨j,hj,rfl⟩:=pz.1 hx;simp[hr j hj hj]
 rw[px];refine uD ?_;rw[m1];have g1:jW w=((List.range w.zd.length).all (nK w) && (List.range w.zc.length).all (nc w)):=by rw[g0,hl0];rfl
 refine zH.seq w.zd.length (λk=>(.za::.ref 0 [] 8 0 0::Bo false:: .v (.map (some b)):: .za::.za::.za::.za::.za::.za::.za::mK (jp (mK (mK (lV w.zd::I w.zd.length::I k:: .za::.za::.za::.za::.za::mK (mK (mK (mK ([])))))))))) (λk=>[oW w,fP b (jF qk (yJ (w.zn))) (yJ (w.zn)).length]) (λk=>∀j,j<k->nK w j=true) ?_ ah (λk hk hr=>?_) (λhr=>?_)
 .exact cC
 .obtain⟨v,hx⟩:∃v,v=w.zd[k]:=⟨_,rfl⟩;have hx2:w.zd[k]?=some v:=by rw[gL hk,hx]
  have hg:(w.zd.map zt)[k]?=some (zt v):=by rw[gM,hx2];rfl
  have hd:nK w k=(kO v && (v.qF == yK w.zn k)):=by unfold nK;rw[hx2]
  have bad:nK w k=false->jW w=false:=λh=>by
   have:(List.range w.zd.length).all (nK w)=false:=by rw[rP];exact⟨k,ai hk,aA⟩
   rw[g1,this];rfl
  conv=>whnf
  refine zay ?_
  refine af (OP v (hw.zd.2 v (gT hx2))) ?_;refine⟨λh5=>?_,λh5=>?_⟩
  rotate_left
  ·(rw[bad (by rw[hd,h5];rfl)]);exact zaW
  refine dd ?_;refine⟨λq=>?_,λq=>?_⟩
  all_goals
   refine dd ?_;refine⟨_,_,e6.lookup (id:=1) _ _ _ V underlying286 (lJ.int underlying3) V V (k:Int) (λE u h=>jE h) (c:=Bo (yK w.zn k)) V V (λE=>by rw[Vb];exact .v _ V),dd ?_⟩;refine⟨λq2=>?_,λq2=>?_⟩
   ·(rw[bad (by rw[hd,q];simp at q2;simp[q2])]);exact zaW
   refine zac ?_
   refine .inl ⟨rfl,?_,λj hj=>?_⟩
   .exact dH
   .by_cases e:j=k
    .subst e;rw[hd,h5,q];simp at q2;simp[q2]
    .exact hr j an
 have hv0:(List.range w.zd.length).all (nK w)=true:=by
  rw[gV]
  exactλi hi=>hr i (ai hi)
 have g2:jW w=(List.range w.zc.length).all (nc w):=by rw[g1,hv0];rfl
 refine uD ?_;rw[m3];refine zH.seq w.zc.length (λk=>(.za::.ref 0 [] 8 0 0::Bo false:: .v (.map (some b)):: .za::.za::.za::mK (jp (jp (mK (lL w.zc::I w.zc.length::I k:: .za::mK (mK ([])))))))) (λk=>[oW w,fP b (jF qk (yJ (w.zn))) (yJ (w.zn)).length]) (λk=>∀j,j<k->nc w j=true) ?_ ah (λk hk hr=>?_) (λhr=>?_)
 .exact cC
 .obtain⟨l,hx⟩:∃l,l=w.zc[k]:=⟨_,rfl⟩;have hx2:w.zc[k]?=some l:=by rw[gL hk,hx]
  have hg:(w.zc.map zU)[k]?=some (zU l):=by rw[gM,hx2];rfl
  have hd:nc w k=(Go.Gat.fm l && decide (z7 w.zc l.name=k)):=by unfold nc;rw[hx2]
  have bad:nc w k=false->jW w=false:=λh=>by
   have:(List.range w.zc.length).all (nc w)=false:=by rw[rP];exact⟨k,ai hk,aA⟩
   rw[g2,this]
  conv=>whnf
  refine zay ?_
  refine af (Go.Gat.Be l (hw.zc.2 l (gT hx2))) ?_;refine⟨λh5=>?_,λh5=>?_⟩
  rotate_left
  ·(rw[bad (by rw[hd,h5];rfl)]);exact zaW
  refine dd ?_;refine af (va w.zc l.name an) ?_;refine⟨λh6=>?_,λh6=>?_⟩
  ·(rw[bad (by rw[hd,show decide (z7 w.zc l.name=(k:Int))=false from by rw[pM];intro hh;simp[hh]at h6,sq])]);exact zaW
  refine zac ?_
  refine .inl ⟨rfl,?_,λj hj=>?_⟩
  .exact dH
  .by_cases e:j=k
   .subst e;rw[hd,h5];simp at h6;simp[h6]
   .exact hr j an
 .have hl1:(List.range w.zc.length).all (nc w)=true:=by
   rw[gV]
   exactλi hi=>hr i (ai hi)
  rw[g2,hl1];refine uD ?_;exact uI
end Go.Wor
