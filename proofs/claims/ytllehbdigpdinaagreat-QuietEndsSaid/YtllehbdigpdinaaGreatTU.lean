import Derived.Test.YtllehbdigpdinaaGreatTF
import Derived.Test.YtllehbdigpdinaaGreatTS
import Derived.Test.YtllehbdigpdinaaGreatTT
set_option linter.all false
set_option maxRecDepth 100000
set_option maxHeartbeats 4000000
namespace Go.Wor
open Go.Ab Go.Proofs Tryz Go.Hy Go.Gat Go.Nam Go.Hos Go.Con Go.Sna
def An(l:List fK)(n:Int):fK:=if 0<=n/\n<l.length then (l[n.toNat]?).getD [] else []
def kM(l:List ij)(n:Int):fK:=if 0<=n/\n<l.length then ((l[n.toNat]?).map (·.name)).getD [] else []
def BN(s:Sna)(r:mX):oL:=⟨An s.zc r.listen,r.host,r.path,kM s.zo r.zg⟩
def mU(s:Sna):iq:=⟨s.zc,s.rules.map (BN s),s.zo⟩
def kO(s:Sna):Bool:=(jj (mU s)).1 == 0
structure AT(s:Sna):Prop where
 zc:s.zc.length<1000000000000/\∀x∈s.zc,x.length<4000000000000000000
 rules:s.rules.length<1000000000000/\∀r∈s.rules,r.host.length<1000000000000000/\r.path.length<1000000000000000
 zo:s.zo.length<1000000000000/\∀x∈s.zo,x.name.length<4000000000000000000/\x.zS.length<4000000000000000000
def AT.cfg{s:Sna}(h:AT s):ka (mU s):=by
 refine⟨h.zc,⟨by simpa [mU] using h.rules.1,λr hr=>?_⟩,h.zo⟩;simp only[mU,gY]at hr;obtain⟨q,hq,rfl⟩:=hr;refine⟨?_,(h.rules.2 q hq).1,(h.rules.2 q hq).2,?_⟩
 .show(An s.zc q.listen).length<_;unfold An;split
  .cases hx:s.zc[q.listen.toNat]? with
   |none=>simp
   |some x=>exact h.zc.2 x (gu hx)
  .simp
 .show(kM s.zo q.zg).length<_;unfold kM;split
  .cases hx:s.zo[q.zg.toNat]? with
   |none=>simp
   |some x=>exact(h.zo.2 x (gu hx)).1
  .simp
def WI(s:Sna)(hs:AT s):tj 144 [] [Cs s] (Cf (mU s)) []:=by
 have m1:(s.rules.map vQ).length=s.rules.length:=gC ..;have m2:(s.zc.map qx).length=s.zc.length:=gC ..;have m3:(s.zo.map vo).length=s.zo.length:=gC ..;have hl:=hs.rules.1;refine ab func144 ?_;rw[m1];refine qg.seq s.rules.length (λk=>(.za::.ref 0 [] 3 0 0:: .ref 1 [] 3 0 0:: .ref 2 [] 3 0 0:: .za::tY (mE s.rules::I s.rules.length::I k:: .za::.za::.za::.za::.za::tY (jp (tY ([])))))) (λk=>[⟨1,116,3,[encS s],0⟩,⟨1,26,3,[[.fF 1 0 [],.fF 1 0 [],.fF 1 0 []]],0⟩,⟨1,26,3,[[lT s.zc,.gl 3 4 (((s.rules.take k).map (BN s)).map lW),lC s.zo]],0⟩,⟨4,113,4,((s.rules.take k).map (BN s)).map lW,0⟩]) (λk=>True) ?_ trivial (λk hk hr=>?_) (λhr=>?_)
 .refine zp.trans (zp.B7 2 1 113 4 V V (.inl V) V V) ?_;exact cC
 .obtain⟨r,hx⟩:∃r,r=s.rules[k]:=⟨_,rfl⟩;have hg:(s.rules.map vQ)[k]?=some (vQ r):=by rw[gy,gk hk,hx];rfl
  have hlg:(((s.rules.take k).map (BN s)).map lW).length=k:=aA
  have eg:((s.rules.take (k+1)).map (BN s)).map lW=((s.rules.take k).map (BN s)).map lW++[lW (BN s r)]:=bX
  have hv:∀a b,a=An s.zc r.listen->b=kM s.zo r.zg->lW ⟨a,r.host,r.path,b⟩=lW (BN s r):=λa b h1 h2=>by rw[h1,h2];rfl
  conv=>whnf
  refine zan ?_
  refine⟨λh1=>?_,λh1=>?_⟩
  rotate_left
  .refine zad ?_
   refine⟨λq1=>?_,λq1=>?_⟩;rotate_left;(focus (refine dd ?_;refine hZ ?_;(refine⟨rfl,.inr V,bY,cI,dd ?_⟩);(refine .inl ⟨rfl,?_,trivial⟩);(rw[zw aw,eg,<-hv _ _ cJ cK]);exact cE 4));refine dd ?_;(rw[m3]);refine⟨λq2=>?_,λq2=>?_⟩;rotate_left;(focus (refine dd ?_;refine hZ ?_;(refine⟨rfl,.inr V,bY,cI,dd ?_⟩);(refine .inl ⟨rfl,?_,trivial⟩);(rw[zw aw,eg,<-hv _ _ cJ cL]);exact cE 4));(have q3:r.zg.toNat<s.zo.length:=by simp at q1 q2;omega);(have gq:(s.zo.map vo)[r.zg.toNat]?=some (vo s.zo[r.zg.toNat]):=by rw[gy,gk q3];rfl);refine zaZ ?_;(rw[zw aw,eg,<-hv _ _ cJ (by unfold kM;rw[gz (by simp at q1 q2;omega),gk q3])]);exact cE 4
  refine dd ?_;rw[m2];refine⟨λh2=>?_,λh2=>?_⟩
  rotate_left
  .refine zad ?_
   refine⟨λq1=>?_,λq1=>?_⟩;rotate_left;(focus (refine dd ?_;refine hZ ?_;(refine⟨rfl,.inr V,bY,cI,dd ?_⟩);(refine .inl ⟨rfl,?_,trivial⟩);(rw[zw aw,eg,<-hv _ _ cM cK]);exact cE 4));refine dd ?_;(rw[m3]);refine⟨λq2=>?_,λq2=>?_⟩;rotate_left;(focus (refine dd ?_;refine hZ ?_;(refine⟨rfl,.inr V,bY,cI,dd ?_⟩);(refine .inl ⟨rfl,?_,trivial⟩);(rw[zw aw,eg,<-hv _ _ cM cL]);exact cE 4));(have q3:r.zg.toNat<s.zo.length:=by simp at q1 q2;omega);(have gq:(s.zo.map vo)[r.zg.toNat]?=some (vo s.zo[r.zg.toNat]):=by rw[gy,gk q3];rfl);refine zaZ ?_;(rw[zw aw,eg,<-hv _ _ cM (by unfold kM;rw[gz (by simp at q1 q2;omega),gk q3])]);exact cE 4
  have h3:r.listen.toNat<s.zc.length:=cN
  have gl:(s.zc.map qx)[r.listen.toNat]?=some (qx s.zc[r.listen.toNat]):=by rw[gy,gk h3];rfl
  refine zad ?_
  refine⟨cG,_,gl,dd ?_⟩;refine⟨λq1=>?_,λq1=>?_⟩;rotate_left;(focus (refine dd ?_;refine hZ ?_;(refine⟨rfl,.inr V,bY,cI,dd ?_⟩);(refine .inl ⟨rfl,?_,trivial⟩);(rw[zw aw,eg,<-hv _ _ (by unfold An;rw[gz cN,gk h3]) cK]);exact cE 4));refine dd ?_;(rw[m3]);refine⟨λq2=>?_,λq2=>?_⟩;rotate_left;(focus (refine dd ?_;refine hZ ?_;(refine⟨rfl,.inr V,bY,cI,dd ?_⟩);(refine .inl ⟨rfl,?_,trivial⟩);(rw[zw aw,eg,<-hv _ _ (by unfold An;rw[gz cN,gk h3]) cL]);exact cE 4));(have q3:r.zg.toNat<s.zo.length:=by simp at q1 q2;omega);(have gq:(s.zo.map vo)[r.zg.toNat]?=some (vo s.zo[r.zg.toNat]):=by rw[gy,gk q3];rfl);refine zaZ ?_;(rw[zw aw,eg,<-hv _ _ (by unfold An;rw[gz cN,gk h3]) (by unfold kM;rw[gz (by simp at q1 q2;omega),gk q3])]);exact cE 4
 .exact dK
def OD(s:Sna)(hs:AT s):tj 95 [] [Cs s] (Bo (kO s)) []:=by
 refine ab func95 ?_;refine ah (WI s hs) ?_;refine ah (check_sound (mU s) hs.cfg) ?_;refine⟨λh=>?_,λh=>?_⟩
 .refine dd ?_
  (exact⟨.inl V,_,.refl _,uN (by unfold kO;exact h.symm)⟩)
 .refine dd ?_
  (exact⟨.inl V,_,.refl _,uN (by unfold kO;exact h.symm)⟩)
end Go.Wor
namespace Go.Wor
open Go.Ab Go.Proofs Tryz Go.Hy Go.Gat Go.Nam Go.Hos Go.Con Go.Sna
open Go.Slp (w8 N1)
variable{α:Type}{rows:List (List C)}
def Ip{f:Nat->Int}{n:Nat}(h:(xr f n).1=0):∀j,j<n->f j=0:=λj hj=>by
 unfold xr at h;split at h
 .rename_i i hi;rw[List.find?_range_eq_some]at hi;exact absurd h (aq hi.1)
 .rename_i hn;rw[List.find?_range_eq_none]at hn;simpa using hn j hj
structure II(x:ij):Prop where
 name:yk x.name=true
 x9:x.x9=1\/x.x9=2
 ye:1<=x.ye/\x.ye<=4
 zS:1<=x.zS.length/\x.zS.length<=4
structure T1(s:Sna):Prop where
 zc:1<=s.zc.length/\s.zc.length<=4
 rules:1<=s.rules.length/\s.rules.length<=8
 zo:1<=s.zo.length/\s.zo.length<=4
 all:∀x∈s.zo,II x
def jP{s:Sna}(h:kO s=true):T1 s:=by
 unfold kO at h;have h:(jj (mU s)).1=0:=aq h
 unfold jj at h;split at h
 .contradiction
 rename_i h1;split at h
 .contradiction
 rename_i h2;split at h
 .contradiction
 rename_i h3;have h1:(vV (mU s)).1=0:=aq h1
 unfold vV at h1;split at h1
 .cases h1
 rename_i h4;have e:(mU s).zO.length=s.rules.length:=by simp[mU]
 rw[e]at h4;simp only[show(mU s).zc=s.zc from V,show(mU s).zo=s.zo from V]at h4;have b:∀n:Nat,∀m:Int,¬(decide (1<=(n:Int)) && decide ((n:Int)<=m))=false->1<=n/\(n:Int)<=m:=λn m hh=>by simp at hh;omega
 have q1:=b s.zc.length 4 λhh=>h4 (.inl (.inl hh))
 have q2:=b s.rules.length 8 λhh=>h4 (.inl (.inr hh))
 have q3:=b s.zo.length 4 λhh=>h4 (.inr hh)
 refine⟨aw,aw,aw,λx hx=>?_⟩;obtain⟨i,hi,rfl⟩:=pJ.1 hx;have h5:=Ip (f:=Ad s.zo) (n:=s.zo.length) (Decidable.of_not_not h3) i hi;unfold Ad at h5;rw[gk hi]at h5;dsimp only at h5;split at h5
 .cases h5
 rename_i p1;split at h5
 .cases h5
 split at h5
 .cases h5
 rename_i p2;split at h5
 .cases h5
 rename_i p3;split at h5
 .cases h5
 rename_i p4;refine⟨aq p1,?_,?_,?_⟩
 .by_cases a:s.zo[i].x9=1
  .exact .inl a
  .by_cases a2:s.zo[i].x9=2
   .exact .inr a2
   .exact absurd ⟨a,a2⟩ p2
 .simp at p3;omega
 .simp at p4;omega
abbrev x6(x:ij):En:=(w8 x.ye).1
def zvq{x:ij}(h:II x):w8 x.ye=(x6 x,0):=by
 have:=h.ye;unfold x6 w8;rw[gp aw]
def mK(x:ij):Gr:=⟨0,List.replicate x.zS.length (x6 x)⟩
abbrev Vi:Sna:=⟨[],[],[]⟩
abbrev IB:fI:=⟨Vi,[],false⟩
def ja(s:Sna):fI×Int:=if kO s then (⟨s,s.zo.map mK,false⟩,0) else (IB,1)
abbrev Cv(v:fI):C:=.agg (zM v)
abbrev tV(r:fI×Int):C:=.fJ [Cv r.1,I r.2]
def GW(s:Sna)(hs:AT s):tj 55 [] [Cs s] (tV (ja s)) []:=by
 have m1:(s.zo.map vo).length=s.zo.length:=gC ..;refine ab func55 ?_;refine ah (OD s hs) ?_;refine⟨λh1=>?_,λh1=>?_⟩
 rotate_left
 .have e:ja s=(IB,1):=by unfold ja;rw[gp bf]
  rw[e];refine zad ?_
  exact⟨.inl V,_,zp.var 1 V V V (.cons (WC.nil 0 1) (.cons (WC.nil 0 4) (.cons (WC.nil 0 4) (.cons (WC.nil 0 2) (.cons (.refl _) .nil))))),rfl⟩
 have e:ja s=(⟨s,s.zo.map mK,false⟩,0):=by unfold ja;rw[gz h1]
 have hg:=jP h1;rw[e];refine zad ?_
 rw[m1];refine qg.seq s.zo.length (λk=>(.za::.ref 0 [] 3 0 0::.ref 1 [] 5 0 0::I 0::.ref 2 [] 5 0 0::tY (.za::.za::.za::.za::(lC s.zo)::I s.zo.length::I k::tY (tY (tY (tY ([.za]))))))) (λk=>[⟨1,116,3,[encS s],0⟩,⟨1,138,5,[[.fF 1 0 [],.fF 1 0 [],.fF 1 0 [],.fF 1 0 [],Bo false]],0⟩,⟨1,138,5,[encS s++[.gl 3 2 (((s.zo.take k).map mK).map zK),Bo false]],0⟩,⟨4,165,2,((s.zo.take k).map mK).map zK,0⟩]) (λk=>True) ?_ trivial (λk hk hr=>?_) (λhr=>?_)
 .refine zp.trans (zp.B7 2 3 165 2 V V (.inl V) V V) ?_;exact cC
 .obtain⟨x,hx⟩:∃x,x=s.zo[k]:=⟨_,rfl⟩;have hgx:(s.zo.map vo)[k]?=some (vo x):=by rw[gy,gk hk,hx];rfl
  have hgood:=hg.all x tH;have hc4:=hg.zo.2;have h4:=hgood.zS.2;have hlg:(((s.zo.take k).map mK).map zK).length=k:=aA
  have eg:((s.zo.take (k+1)).map mK).map zK=((s.zo.take k).map mK).map zK++[zK (mK x)]:=bX
  have mh:(x.zS.map w6).length=x.zS.length:=gC ..
  have fs:tj 96 [] [I x.ye] (.fJ [.agg (zE (x6 x)),I 0]) []:=by
   have:=N1 x.ye;rw[zvq hgood]at this;exact dG
  conv=>whnf
  refine uF ?_;(refine tc hgx ?_)
  rw[mh];refine qg.seq x.zS.length (λj=>(.za::.ref 0 [] 3 0 0::.ref 1 [] 5 0 0::I 0::.ref 2 [] 5 0 0::.za::.ref 4 [] 4 0 0::.ref 5 [] 2 0 0::tY (.za::(lC s.zo)::I s.zo.length::I k::.za::.za::.za::.za::.za::I x.zS.length::I j::tY (tY (tY ([.za,.za])))))) (λj=>[⟨1,116,3,[encS s],0⟩,⟨1,138,5,[[.fF 1 0 [],.fF 1 0 [],.fF 1 0 [],.fF 1 0 [],Bo false]],0⟩,⟨1,138,5,[encS s++[.gl 3 2 (((s.zo.take k).map mK).map zK),Bo false]],0⟩,⟨4,165,2,((s.zo.take k).map mK).map zK,0⟩,oC x,⟨1,165,2,[[U 0,.gl 6 3 ((List.replicate j (x6 x)).map zE)]],0⟩,⟨4,168,3,((List.replicate j (x6 x)).map zE),0⟩]) (λk=>True) ?_ trivial (λj hj hr=>?_) (λhr=>?_)
  .refine zp.trans (zp.B7 5 1 168 3 V V (.inl V) V V) ?_;exact cC
  .have hle:(((List.replicate j (x6 x)).map zE)).length=j:=by simp
   have ee:((List.replicate (j+1) (x6 x)).map zE)=((List.replicate j (x6 x)).map zE)++[zE (x6 x)]:=by rw[eF,pR];rfl
   conv=>whnf
   refine uF ?_;refine ah fs ?_;refine hZ ?_
   refine⟨rfl,.inr V,by rw[hle];simp[maxLen];omega,by rw[hle];show(j+1)*40<=_;omega,dd ?_⟩;refine zaF ?_;rw[zw aw,ee];exact cE 7
  .refine uD ?_;refine⟨rfl,.inr V,bY,by rw[hlg];show(k+1)*32<=_;omega,dd ?_⟩;refine zaF ?_;rw[zw aw,eg];exact cE 4
 .exact dK
def AR(n:Int):List (List Int)×Int:=if n<1\/8<n then ([],1) else (List.replicate n.toNat [0,0,0,0,0,0],0)
abbrev TY(r:List (List Int)×Int):C:=.fJ [iG r.1,I r.2]
def Di(c:List (List Int)):Bool:=c.all (λr=>r.length == 6) && decide (1<=c.length) && decide (c.length<=8)
def RD(h:(rows.all λr=>r.all λc=>xm c && zB c)=true):∀r∈rows,∀c∈r,xm c=true/\zB c=true:=λr hr c hc=>by
 have:=gE.1 (gE.1 h r hr) c hc;simpa using this
def shut_map{enc:α->List C}(h:∀x,(enc x).all (λc=>xm c && zB c)=true)(l:List α):∀r∈l.map enc,∀c∈r,xm c=true/\zB c=true:=
 RD (by rw[List.all_map];exact gE.2 λx _=>h x)
def yE{n ty sz fz:Nat}(h:∀r∈rows,∀c∈r,je n 9 c=true):zW n [⟨1,ty,sz,rows,fz⟩]=true:=by
 unfold zW;simp only[r7,tX,sF];simp;exact h
def zy1(a b:α){k n:Nat}(h:k<n):(List.replicate k a++List.replicate (n-k) b).set k a=List.replicate (k+1) a++List.replicate (n-(k+1)) b:=by
 rw[ey _ _ aj];have e:n-k=(n-(k+1))+1:=aw
 simp only[tn,rR];rw[e,sN,sA,eF,rO]
 rfl
def zy0(a b:α){k n:Nat}(h:k<n):(List.replicate k a++List.replicate (n-k) b)[k]?=some b:=by
 rw[gP aj];simp only[tn,rR];have e:n-k=(n-(k+1))+1:=aw
 rw[e,sN]
 rfl
def Oc(n:Int):tj 84 [] [I n] (TY (AR n)) []:=by
 refine ab func84 ?_;refine⟨λh1=>?_,λh1=>?_⟩
 .have e:AR n=([],1):=by unfold AR;rw[gz cG]
  rw[e];refine zad ?_
  exact dy
 refine dd ?_;refine⟨λh2=>?_,λh2=>?_⟩
 .have e:AR n=([],1):=by unfold AR;rw[gz bd]
  rw[e];refine zad ?_
  exact dy
 have b1:1<=n/\n<=8:=cN
 have e:AR n=(List.replicate n.toNat [0,0,0,0,0,0],0):=by unfold AR;rw[gp aw]
 rw[e];refine dd ?_;refine⟨rfl,aw,by show(24:Int)*n<=_;omega,aw,dd ?_⟩;refine qg.seq n.toNat (λk=>(I n::.za::.fF 1 0 []::I 0::.sl 0 [] 1 0 n.toNat false::tY (.za::.za::I n.toNat::I k::tY ([])))) (λk=>[⟨1,0,1,(List.replicate k [lU [0,0,0,0,0,0]]++List.replicate (n.toNat-k) [C.fF 1 0 []]),0⟩]) (λk=>True) ?_ trivial (λk hk hr=>?_) (λhr=>?_)
 .refine zp.trans (zp.EF 0 V (by intro r hr c hc;rw[pS hr]at hc;rw[gZ.1 hc];rfl)) ?_;exact cC
 .conv=>whnf
  refine uF ?_;refine⟨rfl,ar,by show(8:Int)*6<=_;decide,ar,dd ?_⟩;refine⟨aw,aA,dd ?_⟩;have e1:0+(k:Int).toNat=k:=aj
  rw[e1];refine⟨_,zy0 _ _ hk,rfl,dd ?_⟩;refine zaF ?_;refine zp.trans (zp.zV 0 k 0 (r:=[.sl 1 [] 1 0 6 false]) V (by rw[gJ,gz V,gz aA];rfl) V V (.inr V) V V ?_ ?_) ?_
  .exact RD (rows:=List.replicate 6 [U 0]) V
  .intro r hr c hc;rcases pE hr with hr|rfl
   .rcases pw.1 hr with hr|hr <;> (rw[pS hr]at hc;rw[gZ.1 hc];rfl)
   .rw[gZ.1 hc];rfl
  .have e3:(List.replicate k [lU [0,0,0,0,0,0]]++List.replicate (n.toNat-k) [C.fF 1 0 []]).set k [lU [0,0,0,0,0,0]]=(List.replicate (k+1) [lU [0,0,0,0,0,0]]++List.replicate (n.toNat-(k+1)) [C.fF 1 0 []]):=zy1 _ _ hk;rw[pA,<-e3,zw aw];refine zp.xO 1 hC V V V (yE (rows:=(List.replicate k [lU [0,0,0,0,0,0]]++List.replicate (n.toNat-k) [C.fF 1 0 []]).set k [lU [0,0,0,0,0,0]]) λr hr c hc=>?_) V;rw[e3]at hr;rcases pw.1 hr with hr|hr <;> (rw[pS hr]at hc;rw[gZ.1 hc];rfl)
 .refine uD ?_;have e4:(List.replicate n.toNat [(0:Int),0,0,0,0,0]).map zQ=(List.replicate n.toNat [lU [0,0,0,0,0,0]]++List.replicate (n.toNat-n.toNat) [C.fF 1 0 []]):=by rw[List.map_replicate,rR,List.replicate_zero,rA];rfl
  have sh:∀r∈(List.replicate n.toNat [lU [0,0,0,0,0,0]]++List.replicate (n.toNat-n.toNat) [C.fF 1 0 []]),∀c∈r,xm c=true/\zB c=true:=by
   rw[rR,List.replicate_zero,rA];intro r hr c hc;rw[pS hr]at hc;rw[gZ.1 hc];exact dN
  refine⟨.inl V,_,zp.JY 2 V V (.inl V) aj sh,?_⟩;rw[<-e4]
  rfl
def Ws(c:List (List Int))(hc:c.length<4000000000000000000):tj 109 [] [iG c] (Bo (Di c)) []:=by
 have m1:(c.map zQ).length=c.length:=gC ..;refine ab func109 ?_;rw[m1];refine qg.seq c.length (λk=>((iG c)::.za::Bo false::.za::.za::(iG c)::I c.length::I k::tY ([.za,.za,.za,.za,.za,.za,.za]))) (λk=>[]) (λk=>∀j,(h:j<c.length)->j<k->(c[j].length == 6)=true) ?_ aj (λk hk hr=>?_) (λhr=>?_)
 .exact cC
 .obtain⟨x,hx⟩:∃x,x=c[k]:=⟨_,rfl⟩;have hg:(c.map zQ)[k]?=some (zQ x):=by rw[gy,gk hk,hx];rfl
  have mx:(x.map j4).length=x.length:=gC ..;conv=>whnf
  refine zan ?_
  rw[mx];refine⟨λh1=>?_,λh1=>?_⟩
  .have hf:c.all (λr=>r.length == 6)=false:=by
    rw[sI];exact⟨x,bV,by simp at h1|-;omega⟩
   have e:Di c=false:=by unfold Di;rw[hf];rfl
   rw[e];refine dd ?_;refine zaw ?_
   exact uI
  .refine dd ?_;refine .inl ⟨rfl,?_,λj hj hjk=>?_⟩
   .rw[zw aw];exact cE 0
   .by_cases e:j=k
    .subst e;rw[<-hx];simp at h1|-;omega
    .exact hr j hj aw
 .have ht:c.all (λr=>r.length == 6)=true:=by
   rw[gE];intro r hr';obtain⟨j,hj,rfl⟩:=pJ.1 hr';exact hr j hj hj
  have e:Di c=(decide (1<=c.length) && decide (c.length<=8)):=by unfold Di;rw[ht];rfl
  rw[e];refine uD ?_;rw[m1];refine⟨λh1=>?_,λh1=>?_⟩
  .refine dd ?_;rw[m1];refine⟨λh2=>?_,λh2=>?_⟩
   .refine zad ?_
    (exact⟨.inl V,_,.refl _,uN (by symm;simp at h1 h2|-;omega)⟩)
   .refine zad ?_
    (exact⟨.inl V,_,.refl _,uN (by symm;simp at h1 h2|-;omega)⟩)
  .refine zad ?_
   (exact⟨.inl V,_,.refl _,uN (by symm;simp at h1|-;omega)⟩)
abbrev Cw(w:Wor):C:=.agg (yC w)
abbrev tW(r:Wor×Int):C:=.fJ [Cw r.1,I r.2]
abbrev ot:Wor:=⟨0,0,0,[],[],[],[],[]⟩
def kG(s:fK):fT:=⟨s,false,0,false⟩
def Et(l:List fK)(i:Nat):Bool:=match l[i]? with
 |some s=>yk s && decide (zT ((l.take i).map kG) s<0)
 |none=>true
def Er(l:List fK):Bool:=(List.range l.length).all (Et l)
def lx(s:Sna)(l:List fK)(n:Int):Wor×Int:=
 if kO s=false\/n<1\/8<n\/Er l=false then (ot,1)
 else (⟨0,0,0,List.replicate n.toNat 0,[(ja s).1],l.map kG,List.replicate n.toNat [0,0,0,0,0,0],[]⟩,0)
def ztB(s:Sna)(l:List fK)(n:Int)(hs:AT s)(hl:l.length<1000000000/\∀x∈l,x.length<4000000000000000000):tj 43 [] [Cs s,lT l,I n] (tW (lx s l n)) []:=by
 have m1:(l.map qx).length=l.length:=gC ..;have cs:=GW s hs;refine ab func43 ?_;by_cases h0:kO s=true
 rotate_left
 .have e:lx s l n=(ot,1):=by unfold lx;rw[gz (.inl (aq h0))]
  have e2:ja s=(IB,1):=by unfold ja;rw[gp h0]
  rw[e2]at cs;have cs:tj 55 [] [Cs s] (.fJ [Cv IB,I 1]) []:=cs;rw[e];refine ah cs ?_;refine hZ ?_
  exact cX
 have e2:ja s=((ja s).1,0):=by unfold ja;rw[gz h0]
 rw[e2]at cs;have cs:tj 55 [] [Cs s] (.fJ [Cv (ja s).1,I 0]) []:=cs;have hn:=Oc n;refine ah cs ?_;refine hZ ?_
 by_cases h1:n<1\/8<n
 .have e:lx s l n=(ot,1):=by unfold lx;rw[gz aw]
  have e3:AR n=([],1):=by unfold AR;rw[gz h1]
  rw[e3]at hn;have hn:tj 84 [] [I n] (.fJ [iG [],I 1]) []:=hn;rw[e];refine ah hn ?_;refine hZ ?_
  exact cX
 have e3:AR n=(List.replicate n.toNat [0,0,0,0,0,0],0):=by unfold AR;rw[gp h1]
 rw[e3]at hn;have hn:tj 84 [] [I n] (.fJ [iG (List.replicate n.toNat [0,0,0,0,0,0]),I 0]) []:=hn;refine ah hn ?_;refine hZ ?_
 refine .inl ⟨⟨false,[0,3],[2],[]⟩,au,uH ?_⟩;refine⟨rfl,aw,by show(8:Int)*n<=_;omega,aw,dd ?_⟩;refine hU ?_
 rw[m1];have hb:Er l=false->lx s l n=(ot,1):=λh=>by unfold lx;rw[gz (.inr (.inr (.inr h)))]
 refine qg.seq l.length (λk=>(.za::.za::.za::.ref 0 [] 3 0 0:: .za::.za::.ref 1 [] 8 0 0::I 0:: .za::.za::.za::.ref 3 [] 8 0 0:: .za::.za::tY (tY (tY (lT l::I l.length::I k:: .za::.za::.za::.za::.za::.za::.za::tY (tY ([]))))))) (λk=>[⟨1,116,3,[encS s],0⟩,⟨1,38,8,[oP],0⟩,⟨1,138,5,[zM (ja s).1],0⟩,⟨1,38,8,[[I 0,I 0,I 0,.fF 0 1 (List.replicate n.toNat [I 0]),.fF 1 5 [zM (ja s).1],.gl 4 4 (((l.take k).map kG).map qO),iG (List.replicate n.toNat [0,0,0,0,0,0]),.fF 1 0 []]],0⟩,⟨4,144,4,((l.take k).map kG).map qO,0⟩]) (λk=>∀j,j<k->Et l j=true) ?_ aj (λk hk hr=>?_) (λhr=>?_)
 .refine zp.trans (zp.B7 3 5 144 4 V V (.inl V) V V) ?_;exact cC
 .obtain⟨x,hx⟩:∃x,x=l[k]:=⟨_,rfl⟩;have hx2:l[k]?=some x:=by rw[gk hk,hx]
  have hg:(l.map qx)[k]?=some (qx x):=by rw[gy,hx2];rfl
  have hxm:x∈l:=bV
  have hno:Et l k=(yk x && decide (zT ((l.take k).map kG) x<0)):=by unfold Et;rw[hx2]
  have bad:Et l k=false->lx s l n=(ot,1):=λh=>hb (by unfold Er;rw[sI];exact⟨k,aq hk,aH⟩)
  have hlg:(((l.take k).map kG).map qO).length=k:=aA
  have eg:((l.take (k+1)).map kG).map qO=((l.take k).map kG).map qO++[qO (kG x)]:=bX
  conv=>whnf
  refine zan ?_
  refine ah (yv x (by have:=hl.2 x hxm;omega)) ?_;refine⟨λh2=>?_,λh2=>?_⟩
  rotate_left
  .rw[bad (by rw[hno,h2];rfl)];refine zad ?_
   refine zaw ?_
   exact cX
  refine dd ?_;refine ah (wR ((l.take k).map kG) x aA) ?_;refine⟨λh3=>?_,λh3=>?_⟩
  .rw[bad (by rw[hno,show decide (zT ((l.take k).map kG) x<0)=false from by simp at h3|-;omega,sJ])];refine zad ?_
   refine zaw ?_
   exact cX
  refine zad ?_
  refine⟨rfl,.inr V,bY,by rw[hlg];show(k+1)*40<=_;omega,dd ?_⟩;refine .inl ⟨rfl,?_,λj hj=>?_⟩
  .rw[zw aw,eg];exact cE 5
  .by_cases e:j=k
   .subst e;rw[hno,h2];simp at h3|-;omega
   .exact hr j aw
 .have qb:Er l=true:=by
   unfold Er;rw[gE];intro i hi;exact hr i (aq hi)
  have e:lx s l n=(⟨0,0,0,List.replicate n.toNat 0,[(ja s).1],l.map kG,List.replicate n.toNat [0,0,0,0,0,0],[]⟩,0):=by unfold lx;rw[gp (by simp only[h0,qb];simp;omega)]
  rw[e];refine uD ?_;rw[pI];refine⟨.inl V,_,zp.var 1 V V V (.cons (.refl _) (.cons (.refl _) (.cons (.refl _) (.cons (.refl _) (.cons (WC.share 1 5 _) (.cons (.refl _) (.cons (.refl _) (.cons (WC.nil 0 3) .nil)))))))),?_⟩
  have e9:yC ⟨0,0,0,List.replicate n.toNat 0,[(ja s).1],l.map kG,List.replicate n.toNat [0,0,0,0,0,0],[]⟩=[I 0,I 0,I 0,.fF 0 1 (List.replicate n.toNat [I 0]),.fF 0 5 [zM (ja s).1],lL (l.map kG),iG (List.replicate n.toNat [0,0,0,0,0,0]),.fF 0 3 []]:=by
   have e8:(List.replicate n.toNat (0:Int)).map encI=List.replicate n.toNat [I 0]:=List.map_replicate;show [I 0,I 0,I 0,C.fF 0 1 ((List.replicate n.toNat (0:Int)).map encI),_,_,_,_]=_;rw[e8]
   rfl
  show _=some (C.fJ [C.agg (yC ⟨0,0,0,List.replicate n.toNat 0,[(ja s).1],l.map kG,List.replicate n.toNat [0,0,0,0,0,0],[]⟩),I 0]);rw[e9]
  rfl
end Go.Wor
namespace Go.Wor
open Go.Ab Go.Proofs Tryz Go.Hy Go.Gat Go.Nam Go.Hos Go.Con Go.Sna
variable{α:Type}{F:List (List C)}{z args caps:List C}{x:Ob}{P:Program}{f:FuncId}{enc:α->List C}{H:zn}{p:C->Bool}{v e g t:Nat}{g0:Gr}{v0:fI}{r0 l:List Int}
def xp{k n:Nat}(hF:F.length=n)(h:k<n):(F.take k++(List.replicate n z).drop k)[k]?=some z:=by
 rw[gP aA,ua,rb,sP,gz aw]
def jh{x:List C}{k n:Nat}(hx:F[k]?=some x)(hn:k<n):(F.take k++(List.replicate n z).drop k).set k x=F.take (k+1)++(List.replicate n z).drop (k+1):=by
 obtain⟨hk,rfl⟩:=gh.1 hx;have e1:(F.take k).length=k:=aA
 rw[ey _ _ aw,e1,rR,List.drop_replicate,List.drop_replicate,rj hk,rO];have e2:n-k=(n-(k+1))+1:=aw
 rw[e2,sN]
 rfl
def vR{n:Nat}(hF:F.length=n):F.take n++(List.replicate n z).drop n=F:=by
 rw[sr aw,List.drop_of_length_le aj,rA]
def Q9(x:Int)(l:List Int)(hl:l.length<1000000000):tj 210 [] [lI (x::l)] (.sl 0 [] 1 0 (x::l).length false) [⟨2,3,1,(x::l).map encI,0⟩]:=by
 have e:0+((l.map encI).length+1)=(x::l).length:=aj
 rw[<-e];refine zb.zN (fn:=f210) func210 V (uH ?_);refine za7 ?_;exact uJ
def ki(l:List Int)(hl:l.length<1000000000):tj 210 [] [lI l] (lI l) []:=by
 cases l with
 |nil=>
  refine ab func210 ?_;refine⟨?_,?_⟩
  .refine dd ?_;exact dy
  .exact zbc
 |cons x l=>
  have hl3:l.length+1<1000000000:=aq hl
  refine ab func210 ?_;refine za7 ?_;exact dt
def zuZ(x:Int)(l:List Int)(hl:l.length<1000000000):tj 248 [] [lU (x::l)] (.sl 0 [] 1 0 (x::l).length false) [⟨2,63,1,(x::l).map j4,0⟩]:=by
 have e:0+((l.map j4).length+1)=(x::l).length:=aj
 rw[<-e];refine zb.zN (fn:=f248) func248 V (uH ?_);refine za7 ?_;exact uJ
def zu0(l:List Int)(hl:l.length<1000000000):tj 248 [] [lU l] (lU l) []:=by
 cases l with
 |nil=>
  refine ab func248 ?_;refine⟨?_,?_⟩
  .refine dd ?_;exact dy
  .exact zbc
 |cons x l=>
  have hl3:l.length+1<1000000000:=aq hl
  refine ab func248 ?_;refine za7 ?_;exact dt
def zuY(x:fT)(l:List fT)(hl:l.length<1000000000):tj 213 [] [lL (x::l)] (.sl 0 [] 4 0 (x::l).length false) [⟨2,144,4,(x::l).map qO,0⟩]:=by
 have e:0+((l.map qO).length+1)=(x::l).length:=aj
 rw[<-e];refine zb.zN (fn:=f213) func213 V (uH ?_);refine⟨aj,uH ?_⟩;refine .inr ⟨.inl V,ay,by show _*40<=_;simp;omega,uH ?_⟩;exact uJ
def wA(l:List fT)(hl:l.length<1000000000):tj 213 [] [lL l] (lL l) []:=by
 cases l with
 |nil=>
  refine ab func213 ?_;refine⟨?_,?_⟩
  .refine dd ?_;exact⟨.inl V,_,zp.cell 2 V (WC.nil 0 4),rfl⟩
  .refine dd ?_;refine .inr ⟨rfl,dd ?_⟩;exact⟨.inl V,_,zp.cell 2 V ((WC.none 1 4 4).trans (WC.share 1 4 [])),rfl⟩
 |cons x l=>
  have hl3:l.length+1<1000000000:=aq hl
  refine ab func213 ?_;refine⟨aj,uH ?_⟩;refine .inr ⟨.inl V,ay,by show _*40<=_;simp;omega,uH ?_⟩;exact dt
def Ra(x:fS)(l:List fS)(hl:l.length<1000000000):tj 216 [] [lR (x::l)] (.sl 0 [] 3 0 (x::l).length false) [⟨2,142,3,(x::l).map xz,0⟩]:=by
 have e:0+((l.map xz).length+1)=(x::l).length:=aj
 rw[<-e];refine zb.zN (fn:=f216) func216 V (uH ?_);refine⟨aj,uH ?_⟩;refine .inr ⟨.inl V,ay,by show _*24<=_;simp;omega,uH ?_⟩;exact uJ
def D9(l:List fS)(hl:l.length<1000000000):tj 216 [] [lR l] (lR l) []:=by
 cases l with
 |nil=>
  refine ab func216 ?_;refine⟨?_,?_⟩
  .refine dd ?_;exact⟨.inl V,_,zp.cell 2 V (WC.nil 0 3),rfl⟩
  .refine dd ?_;refine .inr ⟨rfl,dd ?_⟩;exact⟨.inl V,_,zp.cell 2 V ((WC.none 1 3 3).trans (WC.share 1 3 [])),rfl⟩
 |cons x l=>
  have hl3:l.length+1<1000000000:=aq hl
  refine ab func216 ?_;refine⟨aj,uH ?_⟩;refine .inr ⟨.inl V,ay,by show _*24<=_;simp;omega,uH ?_⟩;exact dt
def Pm(e:En)(he:e.next.length<1000000000):tj 256 [] [.agg [],.agg (zE e)] (.agg (zE e)) []:=by
 refine ab func256 ?_;refine ah (ki e.next he) ?_;exact uI
def zxM(l:List En)(hl:l.length<1000000000)(hp:∀x∈l,tj 256 [] [.agg [],.agg (zE x)] (.agg (zE x)) []):tj 255 [] [lE l,.fn 256 [] [],.agg []] (.sl 0 [] 3 0 l.length false) [⟨2,168,3,l.map zE,0⟩]:=by
 have m1:(l.map zE).length=l.length:=gC ..;refine zb.zN (fn:=f255) func255 V (uH ?_);rw[m1];refine⟨rfl,aw,by show(40:Int)*_<=_;omega,aw,dd ?_⟩;rw[m1,toNat_cast];refine qg.seq l.length (λk=>((lE l)::.fn 256 [] []::.za::.za::.za::.ref 0 [] 0 0 0::.fF 1 0 []::.sl 1 [] 3 0 l.length false::.za::.za::.za::.za::.za::(lE l)::I l.length::I k::tY ([.za,.za,.za,.za,.za]))) (λk=>[⟨1,296,0,[[]],0⟩,⟨2,168,3,(l.map zE).take k++(List.replicate l.length [U 0,.fF 1 0 [],I 0]).drop k,0⟩]) (λk=>True) ?_ trivial (λk hk hr=>?_) (λhr=>?_)
 .exact cC
 .obtain⟨x,hx⟩:∃x,x=l[k]:=⟨_,rfl⟩;have hx2:l[k]?=some x:=by rw[gk hk,hx]
  have hg:(l.map zE)[k]?=some (zE x):=by rw[gy,hx2];rfl
  conv=>whnf
  refine zan ?_
  refine ah (hp x tH) ?_;refine⟨aw,aA,dd ?_⟩;have e1:0+(k:Int).toNat=k:=aj
  rw[e1];refine⟨_,xp aj hk,rfl,dd ?_⟩;refine zaF ?_;have e2:=jh (z:=[U 0,.fF 1 0 [],I 0]) (n:=l.length) hg hk;rw[zw aw,<-e2];exact cE 2
 .exact dq
def qa{r:List C}(h:r.all zB=true):∀q∈[r],∀c∈q,zB c=true:=λq hq c hc=>by
 rw[gZ.1 hq]at hc;exact gE.1 h c hc
def MW(g:Gr):Prop:=g.ends.length<1000000000/\∀e∈g.ends,e.next.length<1000000000
def IN(v:fI):Prop:=v.zq.length<1000000000/\∀g∈v.zq,MW g
structure jg(w:Wor):Prop where
 pins:w.pins.length<1000000000
 ze:w.ze.length<1000000000/\∀v∈w.ze,IN v
 zc:w.zc.length<1000000000
 counts:w.counts.length<1000000000/\∀r∈w.counts,r.length<1000000000
 zm:w.zm.length<1000000000
def Oj(g:Gr)(hg:MW g):tj 247 [] [.agg [],.agg (zK g)] (.agg (zK g)) []:=by
 refine ab func247 ?_;refine af [] (zxM g.ends hg.1 λe he=>Pm e (hg.2 e he)) ?_;exact⟨.inl V,_,zp.zV 2 0 1 V V V V (.inr V) V aj (shut_map (enc:=zE) (λ_=>V) g.ends) (qa V),rfl⟩
def zxO(l:List Gr)(hl:l.length<1000000000)(hp:∀x∈l,tj 247 [] [.agg [],.agg (zK x)] (.agg (zK x)) []):tj 246 [] [lG l,.fn 247 [] [],.agg []] (.sl 0 [] 2 0 l.length false) [⟨2,165,2,l.map zK,0⟩]:=by
 have m1:(l.map zK).length=l.length:=gC ..;refine zb.zN (fn:=f246) func246 V (uH ?_);rw[m1];refine⟨rfl,aw,by show(32:Int)*_<=_;omega,aw,dd ?_⟩;rw[m1,toNat_cast];refine qg.seq l.length (λk=>((lG l)::.fn 247 [] []::.za::.za::.za::.ref 0 [] 0 0 0::.fF 1 0 []::.sl 1 [] 2 0 l.length false::.za::.za::.za::.za::.za::(lG l)::I l.length::I k::tY ([.za,.za,.za,.za,.za]))) (λk=>[⟨1,296,0,[[]],0⟩,⟨2,165,2,(l.map zK).take k++(List.replicate l.length ([U 0,.fF 1 0 []]:List C)).drop k,0⟩]) (λk=>True) ?_ trivial (λk hk hr=>?_) (λhr=>?_)
 .exact cC
 .obtain⟨x,hx⟩:∃x,x=l[k]:=⟨_,rfl⟩;have hx2:l[k]?=some x:=by rw[gk hk,hx]
  have hg:(l.map zK)[k]?=some (zK x):=by rw[gy,hx2];rfl
  conv=>whnf
  refine zan ?_
  refine ah (hp x tH) ?_;refine⟨aw,aA,dd ?_⟩;have e1:0+(k:Int).toNat=k:=aj
  rw[e1];refine⟨_,xp aj hk,rfl,dd ?_⟩;refine zaF ?_;have e2:=jh (z:=([U 0,.fF 1 0 []]:List C)) (n:=l.length) hg hk;rw[zw aw,<-e2];exact cE 2
 .exact dq
def jX(v:fI)(hv:IN v):tj 212 [] [.agg [],.agg (zM v)] (.agg (zM v)) []:=by
 refine ab func212 ?_;refine af [] (zxO v.zq hv.1 λg hg=>Oj g (hv.2 g hg)) ?_;exact⟨.inl V,_,zp.zV 2 0 3 V V V V (.inr V) V aj (shut_map (enc:=zK) (λ_=>V) v.zq) (qa V),rfl⟩
def Cz(l:List fI)(hl:l.length<1000000000)(hp:∀x∈l,tj 212 [] [.agg [],.agg (zM x)] (.agg (zM x)) []):tj 211 [] [lV l,.fn 212 [] [],.agg []] (.sl 0 [] 5 0 l.length false) [⟨2,138,5,l.map zM,0⟩]:=by
 have m1:(l.map zM).length=l.length:=gC ..;refine zb.zN (fn:=f211) func211 V (uH ?_);rw[m1];refine⟨rfl,aw,by show(104:Int)*_<=_;omega,aw,dd ?_⟩;rw[m1,toNat_cast];refine qg.seq l.length (λk=>((lV l)::.fn 212 [] []::.za::.za::.za::.ref 0 [] 0 0 0::.fF 1 0 []::.sl 1 [] 5 0 l.length false::.za::.za::.za::.za::.za::(lV l)::I l.length::I k::tY ([.za,.za,.za,.za,.za]))) (λk=>[⟨1,296,0,[[]],0⟩,⟨2,138,5,(l.map zM).take k++(List.replicate l.length ([.fF 1 0 [],.fF 1 0 [],.fF 1 0 [],.fF 1 0 [],Bo false]:List C)).drop k,0⟩]) (λk=>True) ?_ trivial (λk hk hr=>?_) (λhr=>?_)
 .exact cC
 .obtain⟨x,hx⟩:∃x,x=l[k]:=⟨_,rfl⟩;have hx2:l[k]?=some x:=by rw[gk hk,hx]
  have hg:(l.map zM)[k]?=some (zM x):=by rw[gy,hx2];rfl
  conv=>whnf
  refine zan ?_
  refine ah (hp x tH) ?_;refine⟨aw,aA,dd ?_⟩;have e1:0+(k:Int).toNat=k:=aj
  rw[e1];refine⟨_,xp aj hk,rfl,dd ?_⟩;refine zaF ?_;have e2:=jh (z:=([.fF 1 0 [],.fF 1 0 [],.fF 1 0 [],.fF 1 0 [],Bo false]:List C)) (n:=l.length) hg hk;rw[zw aw,<-e2];exact cE 2
 .exact dq
def yz(r:List Int)(hr:r.length<1000000000):tj 215 [] [.agg [],lU r] (lU r) []:=by
 refine ab func215 ?_;refine ah (zu0 r hr) ?_;exact uI
def PO(H':zn)(ρ:Nat->Nat):∀(i:Nat) (K:zn),Ar [] H' ρ i K=K
 |_,[]=>rfl
 |i,ob::K=>by unfold Ar;rw[PO H' ρ (i+1) K];rfl
def BY{r:C}{H':zn}(h:zb P f [] args r H')(hR:qw H'=true)(ha:args.map (xX [] 9)=args)(H:zn)(hf:qw H=true):
  zb P f H args (vH (jm [] H.length) 9 r) (H++H'.map (zG (jm [] H.length))):=by
 have:=h.part [] hR (K:=H) V ha V V hf;have e:lD [] H H'=H++H'.map (zG (jm [] H.length)):=by unfold lD;rw[PO];rfl
 rwa [e]at this
def Q8{f:C->C}(hf:∀x,(enc x).map f=enc x)(l:List α)(v:Nat)(row:List C):(((l.map enc).set v row).map λr=>r.map f)=(l.map enc).set v (row.map f):=by
 rw[rp,rC]
 congr 1
 exact pQ λx _=>hf x
def j5{n:Nat}(h1:zW n [x]=true)(h2:zW n H=true):zW n (x::H)=true:=by
 unfold zW at *;exact dz
def zd(h1:qw [x]=true)(h2:qw H=true):qw (x::H)=true:=by
 unfold qw at *;exact dz
def zi{ty sz fz:Nat}{rows:List (List C)}(h:∀r∈rows,∀c∈r,zB c=true):qw [⟨1,ty,sz,rows,fz⟩]=true:=by
 unfold qw;simp only[r7,tX,sF];rw[gE]
 exactλr hr=>gE.2 λc hc=>h r hr c hc
def zD(h:∀x,(enc x).all p=true){row:List C}(hr:row.all p=true)(l:List α)(v:Nat):∀r∈(l.map enc).set v row,∀c∈r,p c=true:=λr hm c hc=>by
 rcases pE hm with hm|rfl
 .obtain⟨x,_,rfl⟩:=gY.1 hm;exact gE.1 (h x) c hc
 .exact gE.1 hr c hc
def wH(h:∀x,(enc x).all p=true){row:List C}(hz:z.all p=true)(l:List α){k:Nat}(n:Nat)(hr:k<=v\/row.all p=true):∀r∈((l.map enc).set v row).take k++(List.replicate n z).drop k,∀c∈r,p c=true:=λr hm c hc=>by
 rcases pw.1 hm with hm|hm
 .rcases hr with hr|hr
  .rw[List.take_set_of_le hr]at hm;obtain⟨x,_,rfl⟩:=gY.1 (rH hm);exact gE.1 (h x) c hc
  .exact zD h hr l v r (rH hm) c hc
 .rw[pS (sa hm)]at hc;exact gE.1 hz c hc
def YW(e0:En)(x:Int)(l:List Int)(he:e0.next=x::l)(hl:l.length<1000000000):tj 256 [] [.agg [],.agg (zE e0)] (.agg (ia 0 e0)) [oN e0]:=by
 have h1:tj 256 [] [.agg [],.agg (zE e0)] (.agg (ia 3 e0)) [⟨1,296,0,[[]],0⟩,⟨1,168,3,[ia 3 e0],0⟩,⟨1,168,3,[ia 3 e0],0⟩,oN e0]:=by
  have hc:=Q9 x l hl;rw[<-he]at hc;refine zb.zN (fn:=f256) func256 V (uH ?_);refine af [] (hc) ?_;exact uJ
 exact h1.o7 (λB h _=>zp.fL [3] [0] _ _ tK V V V) (pa _)
def zvb(e0:En)(x:Int)(l:List Int)(he:e0.next=x::l)(hl:l.length<1000000000)(H:zn)(hf:qw H=true):tj 256 H [.agg [],.agg (zE e0)] (.agg ([U e0.head,C.sl H.length [] 1 0 e0.next.length false,I e0.zj])) (H++[oN e0]):=
 BY (YW e0 x l he hl) V V H hf
def zH{sel:List Nat}(hf:∀x,(enc x).map (xX sel 9)=enc x)(l:List α)(v:Nat)(row:List C)(ty sz fz:Nat):zL sel ⟨1,ty,sz,(l.map enc).set v row,fz⟩=⟨1,ty,sz,(l.map enc).set v (row.map (xX sel 9)),fz⟩:=by
 show(⟨1,ty,sz,((l.map enc).set v row).map (λr=>r.map (xX sel 9)),fz⟩:Ob)=_;rw[Q8 hf]
def zy{ρ:Nat->Nat}(hf:∀x,(enc x).map (vH ρ 9)=enc x)(l:List α)(v:Nat)(row:List C)(ty sz fz:Nat):zG ρ ⟨1,ty,sz,(l.map enc).set v row,fz⟩=⟨1,ty,sz,(l.map enc).set v (row.map (vH ρ 9)),fz⟩:=by
 show(⟨1,ty,sz,((l.map enc).set v row).map (λr=>r.map (vH ρ 9)),fz⟩:Ob)=_;rw[Q8 hf]
def zu5(l:List En)(e:Nat)(e0:En)(hv:l[e]?=some e0)(hl:l.length<1000000000)(hp:∀x∈l,tj 256 [] [.agg [],.agg (zE x)] (.agg (zE x)) [])
 (hA:∀H,qw H=true->tj 256 H [.agg [],.agg (zE e0)] (.agg ([U e0.head,C.sl H.length [] 1 0 e0.next.length false,I e0.zj])) (H++[oN e0])):
  tj 255 [] [lE l,.fn 256 [] [],.agg []] (.sl 0 [] 3 0 l.length false) [⟨1,0,3,(l.map zE).set e (ia 1 e0),0⟩,oN e0]:=by
 have m1:(l.map zE).length=l.length:=gC ..;have hvl:=(gh.1 hv).1
 have h1:tj 255 [] [lE l,.fn 256 [] [],.agg []] (.sl 1 [] 3 0 l.length false) [⟨1,296,0,[[]],0⟩,⟨1,0,3,(l.map zE).set e (ia 3 e0),0⟩,oD e0,oN e0]:=by
  refine zb.zN (fn:=f255) func255 V (uH ?_);rw[m1];refine⟨rfl,aw,by show(40:Int)*_<=_;omega,aw,dd ?_⟩;rw[m1,toNat_cast];have ZZ:List C:=([U 0,.fF 1 0 [],I 0]:List C);refine qg.seq l.length (λk=>((lE l)::.fn 256 [] []::.za::.za::.za::.ref 0 [] 0 0 0::.fF 1 0 []::.sl 1 [] 3 0 l.length false::.za::.za::.za::.za::.za::(lE l)::I l.length::I k::tY ([.za,.za,.za,.za,.za]))) (λk=>if k<=e then [⟨1,296,0,[[]],0⟩,⟨1,0,3,((l.map zE).set e (ia 3 e0)).take k++(List.replicate l.length ([U 0,.fF 1 0 [],I 0]:List C)).drop k,0⟩] else [⟨1,296,0,[[]],0⟩,⟨1,0,3,((l.map zE).set e (ia 3 e0)).take k++(List.replicate l.length ([U 0,.fF 1 0 [],I 0]:List C)).drop k,0⟩,oD e0,oN e0]) (λk=>True) ?_ trivial (λk hk hr=>?_) (λhr=>?_)
  .rw[gz (pa _)];refine zp.trans (zp.EF 1 V λr hr c hc=>?_) (cC);rw[pS hr]at hc;exact gE.1 (rfl:([U 0,.fF 1 0 [],I 0]:List C).all zB=true) c hc
  .obtain⟨x,hx⟩:∃x,x=l[k]:=⟨_,rfl⟩;have hx2:l[k]?=some x:=by rw[gk hk,hx]
   have hxm:x∈l:=bV
   have hg:(l.map zE)[k]?=some (zE x):=by rw[gy,hx2];rfl
   have e1:0+(k:Int).toNat=k:=aj
   have low:∀n j,j<=e\/3<n->∀r∈((l.map zE).set e (ia 3 e0)).take j++(List.replicate l.length ([U 0,.fF 1 0 [],I 0]:List C)).drop j,∀c∈r,je n 9 c=true:=λn j h=>wH (enc:=zE) (λ_=>V) V l l.length (h.imp_right λh=>by simp[je,encS];omega)
   have own:∀j,∀r∈((l.map zE).set e (ia 3 e0)).take j++(List.replicate l.length ([U 0,.fF 1 0 [],I 0]:List C)).drop j,∀c∈r,zB c=true:=λj=>wH (enc:=zE) (λ_=>V) V l l.length (.inr V)
   by_cases hkv:k=e
   .subst hkv;obtain rfl:e0=x:=by rw[hv]at hx2;exact gA hx2
    have hF:((l.map zE).set k (ia 3 e0))[k]?=some (ia 3 e0):=by rw[gJ,gz V,gz (aq hk)]
    rw[gz (gG _),gp aw];conv=>whnf
    refine zan ?_
    exact zbf
   .have hF:((l.map zE).set e (ia 3 e0))[k]?=some (zE x):=by rw[pj (λh=>hkv h.symm)];exact hg
    by_cases fE:k<e
    .rw[gz aw,gz aw];conv=>whnf
     refine zan ?_
     refine zaj ?_;refine zp.xO 2 hC V V V (j5 V (yE ?_)) V;have lw:=low 2 (k+1) (.inl aw);rw[<-jh (z:=([U 0,.fF 1 0 [],I 0]:List C)) (n:=l.length) hF hk]at lw;exact lw
    .rw[gp aw,gp aw];conv=>whnf
     refine zan ?_
     refine zaj ?_;refine zp.xO 4 hC V V V (j5 V (j5 (yE ?_) (j5 V V))) V;have lw:=low 4 (k+1) (.inr aw);rw[<-jh (z:=([U 0,.fF 1 0 [],I 0]:List C)) (n:=l.length) hF hk]at lw;exact lw
  .exact dZ
 refine h1.o7 (λB h _=>?_) (pa _);have hw:=zp.fL (B:=B) [1,3] [0] [.sl 1 [] 3 0 l.length false] [⟨1,296,0,[[]],0⟩,⟨1,0,3,(l.map zE).set e (ia 3 e0),0⟩,oD e0,oN e0] tK V V (zd V (zd (zi (zD (enc:=zE) (λ_=>V) V l e)) (zd V V)))
 have e:xJ [1,3] [⟨1,296,0,[[]],0⟩,⟨1,0,3,(l.map zE).set e (ia 3 e0),0⟩,oD e0,oN e0]=[⟨1,0,3,(l.map zE).set e (ia 1 e0),0⟩,oN e0]:=by
  show zL [1,3] ⟨1,0,3,(l.map zE).set e (ia 3 e0),0⟩::_=_;rw[zH (enc:=zE) (λ_=>V)]
  rfl
 rw[e]at hw;exact hw
structure IL(g0:Gr)(e:Nat)(e0:En):Prop where
 sm:MW g0
 at_:g0.ends[e]?=some e0
 ne:e0.next≠[]
def zxL{e0:En}(h:IL g0 e e0)(H:zn)(hf:qw H=true):tj 255 H [lE g0.ends,.fn 256 [] [],.agg []] (.sl H.length [] 3 0 g0.ends.length false) (H++[⟨1,0,3,(g0.ends.map zE).set e (ia (H.length+1) e0),0⟩,oN e0]):=by
 obtain⟨x,l,hx⟩:∃x l,e0.next=x::l:=by
  cases hh:e0.next with
  |nil=>exact absurd hh h.ne
  |cons x l=>exact⟨x,l,rfl⟩
 have hlen:l.length<1000000000:=by
  have:=h.sm.2 e0 (gu h.at_);rw[hx]at this;exact dc
 have:=BY (zu5 g0.ends e e0 h.at_ h.sm.1 (λy hy=>Pm y (h.sm.2 y hy)) (zvb e0 x l hx hlen)) (zd (zi (zD (enc:=zE) (λ_=>V) V _ _)) V) V H hf
 have e9:[(⟨1,0,3,(g0.ends.map zE).set e (ia 1 e0),0⟩:Ob),oN e0].map (zG (jm [] H.length))=[⟨1,0,3,(g0.ends.map zE).set e (ia (H.length+1) e0),0⟩,oN e0]:=by
  show zG _ ⟨1,0,3,_,0⟩::_=_;rw[zy (enc:=zE) (λ_=>V)]
  rfl
 rw[e9]at this;exact dG
def Wy{e0:En}(h:IL g0 e e0):tj 247 [] [.agg [],.agg (zK g0)] (.agg (im 0 g0)) [⟨1,0,3,(g0.ends.map zE).set e (ia 1 e0),0⟩,oN e0]:=by
 have own:∀i,∀r∈(g0.ends.map zE).set e (ia i e0),∀c∈r,zB c=true:=λi=>zD (enc:=zE) (λ_=>V) V _ _
 have h1:tj 247 [] [.agg [],.agg (zK g0)] (.agg (im 3 g0)) [⟨1,296,0,[[]],0⟩,⟨1,165,2,[im 3 g0],0⟩,⟨1,165,2,[im 3 g0],0⟩,⟨1,0,3,(g0.ends.map zE).set e (ia 4 e0),0⟩,oN e0]:=by
  refine zb.zN (fn:=f247) func247 V (uH ?_);refine⟨_,_,zxL h _ V,dd ?_⟩;exact uJ
 refine h1.o7 (λB hB _=>?_) (pa _);have hw:=zp.fL (B:=B) [3,4] [0] [.agg (im 3 g0)] [⟨1,296,0,[[]],0⟩,⟨1,165,2,[im 3 g0],0⟩,⟨1,165,2,[im 3 g0],0⟩,⟨1,0,3,(g0.ends.map zE).set e (ia 4 e0),0⟩,oN e0] (by rw[show B=0 from aq hB];rfl) V V (zd V (zd V (zd V (zd (zi (own 4)) V))))
 have e:xJ [3,4] [⟨1,296,0,[[]],0⟩,⟨1,165,2,[im 3 g0],0⟩,⟨1,165,2,[im 3 g0],0⟩,⟨1,0,3,(g0.ends.map zE).set e (ia 4 e0),0⟩,oN e0]=[⟨1,0,3,(g0.ends.map zE).set e (ia 1 e0),0⟩,oN e0]:=by
  show zL [3,4] ⟨1,0,3,(g0.ends.map zE).set e (ia 4 e0),0⟩::_=_;rw[zH (enc:=zE) (λ_=>V)]
  rfl
 rw[e]at hw;exact hw
def YB{e0:En}(h:IL g0 e e0)(H:zn)(hf:qw H=true):tj 247 H [.agg [],.agg (zK g0)] (.agg ([U g0.zx,C.sl H.length [] 3 0 g0.ends.length false])) (H++[⟨1,0,3,(g0.ends.map zE).set e (ia (H.length+1) e0),0⟩,oN e0]):=by
 have:=BY (Wy h) (zd (zi (zD (enc:=zE) (λ_=>V) V _ _)) V) V H hf
 have e9:[(⟨1,0,3,(g0.ends.map zE).set e (ia 1 e0),0⟩:Ob),oN e0].map (zG (jm [] H.length))=[⟨1,0,3,(g0.ends.map zE).set e (ia (H.length+1) e0),0⟩,oN e0]:=by
  show zG _ ⟨1,0,3,_,0⟩::_=_;rw[zy (enc:=zE) (λ_=>V)]
  rfl
 rw[e9]at this;exact dG
def zu6(e0:En)(e:Nat)(l:List Gr)(g:Nat)(g0:Gr)(hv:l[g]?=some g0)(hl:l.length<1000000000)(hp:∀x∈l,tj 247 [] [.agg [],.agg (zK x)] (.agg (zK x)) [])
 (hA:∀H,qw H=true->tj 247 H [.agg [],.agg (zK g0)] (.agg ([U g0.zx,C.sl H.length [] 3 0 g0.ends.length false])) (H++[⟨1,0,3,(g0.ends.map zE).set e (ia (H.length+1) e0),0⟩,oN e0])):
  tj 246 [] [lG l,.fn 247 [] [],.agg []] (.sl 0 [] 2 0 l.length false) [⟨1,0,2,(l.map zK).set g (im 1 g0),0⟩,⟨1,0,3,(g0.ends.map zE).set e (ia 2 e0),0⟩,oN e0]:=by
 have m1:(l.map zK).length=l.length:=gC ..;have hvl:=(gh.1 hv).1
 have h1:tj 246 [] [lG l,.fn 247 [] [],.agg []] (.sl 1 [] 2 0 l.length false) [⟨1,296,0,[[]],0⟩,⟨1,0,2,(l.map zK).set g (im 3 g0),0⟩,⟨1,165,2,[zK g0],0⟩,⟨1,0,3,(g0.ends.map zE).set e (ia 4 e0),0⟩,oN e0]:=by
  refine zb.zN (fn:=f246) func246 V (uH ?_);rw[m1];refine⟨rfl,aw,by show(32:Int)*_<=_;omega,aw,dd ?_⟩;rw[m1,toNat_cast];have ZZ:List C:=([U 0,.fF 1 0 []]:List C);refine qg.seq l.length (λk=>((lG l)::.fn 247 [] []::.za::.za::.za::.ref 0 [] 0 0 0::.fF 1 0 []::.sl 1 [] 2 0 l.length false::.za::.za::.za::.za::.za::(lG l)::I l.length::I k::tY ([.za,.za,.za,.za,.za]))) (λk=>if k<=g then [⟨1,296,0,[[]],0⟩,⟨1,0,2,((l.map zK).set g (im 3 g0)).take k++(List.replicate l.length ([U 0,.fF 1 0 []]:List C)).drop k,0⟩] else [⟨1,296,0,[[]],0⟩,⟨1,0,2,((l.map zK).set g (im 3 g0)).take k++(List.replicate l.length ([U 0,.fF 1 0 []]:List C)).drop k,0⟩,⟨1,165,2,[zK g0],0⟩,⟨1,0,3,(g0.ends.map zE).set e (ia 4 e0),0⟩,oN e0]) (λk=>True) ?_ trivial (λk hk hr=>?_) (λhr=>?_)
  .rw[gz (pa _)];refine zp.trans (zp.EF 1 V λr hr c hc=>?_) (cC);rw[pS hr]at hc;exact gE.1 (rfl:([U 0,.fF 1 0 []]:List C).all zB=true) c hc
  .obtain⟨x,hx⟩:∃x,x=l[k]:=⟨_,rfl⟩;have hx2:l[k]?=some x:=by rw[gk hk,hx]
   have hxm:x∈l:=bV
   have hg:(l.map zK)[k]?=some (zK x):=by rw[gy,hx2];rfl
   have e1:0+(k:Int).toNat=k:=aj
   have low:∀n j,j<=g\/3<n->∀r∈((l.map zK).set g (im 3 g0)).take j++(List.replicate l.length ([U 0,.fF 1 0 []]:List C)).drop j,∀c∈r,je n 9 c=true:=λn j h=>wH (enc:=zK) (λ_=>V) V l l.length (h.imp_right λh=>by simp[je,encS];omega)
   have own:∀j,∀r∈((l.map zK).set g (im 3 g0)).take j++(List.replicate l.length ([U 0,.fF 1 0 []]:List C)).drop j,∀c∈r,zB c=true:=λj=>wH (enc:=zK) (λ_=>V) V l l.length (.inr V)
   by_cases hkv:k=g
   .subst hkv;obtain rfl:g0=x:=by rw[hv]at hx2;exact gA hx2
    have hF:((l.map zK).set k (im 3 g0))[k]?=some (im 3 g0):=by rw[gJ,gz V,gz (aq hk)]
    rw[gz (gG _),gp aw];conv=>whnf
    refine zan ?_
    exact zbf
   .have hF:((l.map zK).set g (im 3 g0))[k]?=some (zK x):=by rw[pj (λh=>hkv h.symm)];exact hg
    by_cases fE:k<g
    .rw[gz aw,gz aw];conv=>whnf
     refine zan ?_
     refine zaj ?_;refine zp.xO 2 hC V V V (j5 V (yE ?_)) V;have lw:=low 2 (k+1) (.inl aw);rw[<-jh (z:=([U 0,.fF 1 0 []]:List C)) (n:=l.length) hF hk]at lw;exact lw
    .rw[gp aw,gp aw];conv=>whnf
     refine zan ?_
     refine zaj ?_;refine zp.xO 5 hC V V V (j5 V (j5 (yE ?_) (j5 V (j5 (yE (zD (enc:=zE) (λ_=>V) V _ _)) V)))) V;have lw:=low 5 (k+1) (.inr aw);rw[<-jh (z:=([U 0,.fF 1 0 []]:List C)) (n:=l.length) hF hk]at lw;exact lw
  .exact dZ
 refine h1.o7 (λB h _=>?_) (pa _);have hw:=zp.fL (B:=B) [1,3,4] [0] [.sl 1 [] 2 0 l.length false] [⟨1,296,0,[[]],0⟩,⟨1,0,2,(l.map zK).set g (im 3 g0),0⟩,⟨1,165,2,[zK g0],0⟩,⟨1,0,3,(g0.ends.map zE).set e (ia 4 e0),0⟩,oN e0] tK V V (zd V (zd (zi (zD (enc:=zK) (λ_=>V) V l g)) (zd V (zd (zi (zD (enc:=zE) (λ_=>V) V _ _)) V))))
 have e:xJ [1,3,4] [⟨1,296,0,[[]],0⟩,⟨1,0,2,(l.map zK).set g (im 3 g0),0⟩,⟨1,165,2,[zK g0],0⟩,⟨1,0,3,(g0.ends.map zE).set e (ia 4 e0),0⟩,oN e0]=[⟨1,0,2,(l.map zK).set g (im 1 g0),0⟩,⟨1,0,3,(g0.ends.map zE).set e (ia 2 e0),0⟩,oN e0]:=by
  show zL [1,3,4] ⟨1,0,2,(l.map zK).set g (im 3 g0),0⟩::_=_;rw[zH (enc:=zK) (λ_=>V)];show _::zL [1,3,4] ⟨1,0,3,(g0.ends.map zE).set e (ia 4 e0),0⟩::_=_;rw[zH (enc:=zE) (λ_=>V)];rfl
 rw[e]at hw;exact hw
structure IM(v0:fI)(g:Nat)(g0:Gr)(e:Nat)(e0:En):Prop extends IL g0 e e0 where
 Fl:IN v0
 fY:v0.zq[g]?=some g0
def zxN{e0:En}(h:IM v0 g g0 e e0)(H:zn)(hf:qw H=true):tj 246 H [lG v0.zq,.fn 247 [] [],.agg []] (.sl H.length [] 2 0 v0.zq.length false) (H++[⟨1,0,2,(v0.zq.map zK).set g (im (H.length+1) g0),0⟩,⟨1,0,3,(g0.ends.map zE).set e (ia (H.length+2) e0),0⟩,oN e0]):=by
 have:=BY (zu6 e0 e v0.zq g g0 h.fY h.Fl.1 (λy hy=>Oj y (h.Fl.2 y hy)) (YB h.toIL)) (zd (zi (zD (enc:=zK) (λ_=>V) V _ _)) (zd (zi (zD (enc:=zE) (λ_=>V) V _ _)) V)) V H hf
 have e9:[(⟨1,0,2,(v0.zq.map zK).set g (im 1 g0),0⟩:Ob),⟨1,0,3,(g0.ends.map zE).set e (ia 2 e0),0⟩,oN e0].map (zG (jm [] H.length))=[⟨1,0,2,(v0.zq.map zK).set g (im (H.length+1) g0),0⟩,⟨1,0,3,(g0.ends.map zE).set e (ia (H.length+2) e0),0⟩,oN e0]:=by
  show zG _ ⟨1,0,2,_,0⟩::zG _ ⟨1,0,3,_,0⟩::_=_;rw[zy (enc:=zK) (λ_=>V),zy (enc:=zE) (λ_=>V)]
  rfl
 rw[e9]at this;exact dG
def Wi{e0:En}(h:IM v0 g g0 e e0):tj 212 [] [.agg [],.agg (zM v0)] (.agg (iY 0 v0)) [⟨1,0,2,(v0.zq.map zK).set g (im 1 g0),0⟩,⟨1,0,3,(g0.ends.map zE).set e (ia 2 e0),0⟩,oN e0]:=by
 have h1:tj 212 [] [.agg [],.agg (zM v0)] (.agg (iY 3 v0)) [⟨1,296,0,[[]],0⟩,⟨1,138,5,[iY 3 v0],0⟩,⟨1,138,5,[iY 3 v0],0⟩,⟨1,0,2,(v0.zq.map zK).set g (im 4 g0),0⟩,⟨1,0,3,(g0.ends.map zE).set e (ia 5 e0),0⟩,oN e0]:=by
  refine zb.zN (fn:=f212) func212 V (uH ?_);refine⟨_,_,zxN h _ V,dd ?_⟩;exact uJ
 refine h1.o7 (λB hB _=>?_) (pa _);have hw:=zp.fL (B:=B) [3,4,5] [0] [.agg (iY 3 v0)] [⟨1,296,0,[[]],0⟩,⟨1,138,5,[iY 3 v0],0⟩,⟨1,138,5,[iY 3 v0],0⟩,⟨1,0,2,(v0.zq.map zK).set g (im 4 g0),0⟩,⟨1,0,3,(g0.ends.map zE).set e (ia 5 e0),0⟩,oN e0] (by rw[show B=0 from aq hB];rfl) V V (zd V (zd V (zd V (zd (zi (zD (enc:=zK) (λ_=>V) V _ _)) (zd (zi (zD (enc:=zE) (λ_=>V) V _ _)) V)))))
 have e:xJ [3,4,5] [⟨1,296,0,[[]],0⟩,⟨1,138,5,[iY 3 v0],0⟩,⟨1,138,5,[iY 3 v0],0⟩,⟨1,0,2,(v0.zq.map zK).set g (im 4 g0),0⟩,⟨1,0,3,(g0.ends.map zE).set e (ia 5 e0),0⟩,oN e0]=[⟨1,0,2,(v0.zq.map zK).set g (im 1 g0),0⟩,⟨1,0,3,(g0.ends.map zE).set e (ia 2 e0),0⟩,oN e0]:=by
  show zL [3,4,5] ⟨1,0,2,(v0.zq.map zK).set g (im 4 g0),0⟩::zL [3,4,5] ⟨1,0,3,(g0.ends.map zE).set e (ia 5 e0),0⟩::_=_;rw[zH (enc:=zK) (λ_=>V),zH (enc:=zE) (λ_=>V)]
  rfl
 rw[e]at hw;exact hw
def W7{e0:En}(h:IM v0 g g0 e e0)(H:zn)(hf:qw H=true):tj 212 H [.agg [],.agg (zM v0)] (.agg ((encS v0.snap++[C.sl H.length [] 2 0 v0.zq.length false,Bo v0.qX]))) (H++[⟨1,0,2,(v0.zq.map zK).set g (im (H.length+1) g0),0⟩,⟨1,0,3,(g0.ends.map zE).set e (ia (H.length+2) e0),0⟩,oN e0]):=by
 have:=BY (Wi h) (zd (zi (zD (enc:=zK) (λ_=>V) V _ _)) (zd (zi (zD (enc:=zE) (λ_=>V) V _ _)) V)) V H hf
 have e9:[(⟨1,0,2,(v0.zq.map zK).set g (im 1 g0),0⟩:Ob),⟨1,0,3,(g0.ends.map zE).set e (ia 2 e0),0⟩,oN e0].map (zG (jm [] H.length))=[⟨1,0,2,(v0.zq.map zK).set g (im (H.length+1) g0),0⟩,⟨1,0,3,(g0.ends.map zE).set e (ia (H.length+2) e0),0⟩,oN e0]:=by
  show zG _ ⟨1,0,2,_,0⟩::zG _ ⟨1,0,3,_,0⟩::_=_;rw[zy (enc:=zK) (λ_=>V),zy (enc:=zE) (λ_=>V)]
  rfl
 rw[e9]at this;exact dG
def zu8(g0:Gr)(g:Nat)(e0:En)(e:Nat)(l:List fI)(v:Nat)(v0:fI)(hv:l[v]?=some v0)(hl:l.length<1000000000)(hp:∀x∈l,tj 212 [] [.agg [],.agg (zM x)] (.agg (zM x)) [])
 (hA:∀H,qw H=true->tj 212 H [.agg [],.agg (zM v0)] (.agg ((encS v0.snap++[C.sl H.length [] 2 0 v0.zq.length false,Bo v0.qX]))) (H++[⟨1,0,2,(v0.zq.map zK).set g (im (H.length+1) g0),0⟩,⟨1,0,3,(g0.ends.map zE).set e (ia (H.length+2) e0),0⟩,oN e0])):
  tj 211 [] [lV l,.fn 212 [] [],.agg []] (.sl 0 [] 5 0 l.length false) [⟨1,0,5,(l.map zM).set v (iY 1 v0),0⟩,⟨1,0,2,(v0.zq.map zK).set g (im 2 g0),0⟩,⟨1,0,3,(g0.ends.map zE).set e (ia 3 e0),0⟩,oN e0]:=by
 have m1:(l.map zM).length=l.length:=gC ..;have hvl:=(gh.1 hv).1
 have h1:tj 211 [] [lV l,.fn 212 [] [],.agg []] (.sl 1 [] 5 0 l.length false) [⟨1,296,0,[[]],0⟩,⟨1,0,5,(l.map zM).set v (iY 3 v0),0⟩,⟨1,138,5,[zM v0],0⟩,⟨1,0,2,(v0.zq.map zK).set g (im 4 g0),0⟩,⟨1,0,3,(g0.ends.map zE).set e (ia 5 e0),0⟩,oN e0]:=by
  refine zb.zN (fn:=f211) func211 V (uH ?_);rw[m1];refine⟨rfl,aw,by show(104:Int)*_<=_;omega,aw,dd ?_⟩;rw[m1,toNat_cast];have ZZ:List C:=([.fF 1 0 [],.fF 1 0 [],.fF 1 0 [],.fF 1 0 [],Bo false]:List C);refine qg.seq l.length (λk=>((lV l)::.fn 212 [] []::.za::.za::.za::.ref 0 [] 0 0 0::.fF 1 0 []::.sl 1 [] 5 0 l.length false::.za::.za::.za::.za::.za::(lV l)::I l.length::I k::tY ([.za,.za,.za,.za,.za]))) (λk=>if k<=v then [⟨1,296,0,[[]],0⟩,⟨1,0,5,((l.map zM).set v (iY 3 v0)).take k++(List.replicate l.length ([.fF 1 0 [],.fF 1 0 [],.fF 1 0 [],.fF 1 0 [],Bo false]:List C)).drop k,0⟩] else [⟨1,296,0,[[]],0⟩,⟨1,0,5,((l.map zM).set v (iY 3 v0)).take k++(List.replicate l.length ([.fF 1 0 [],.fF 1 0 [],.fF 1 0 [],.fF 1 0 [],Bo false]:List C)).drop k,0⟩,⟨1,138,5,[zM v0],0⟩,⟨1,0,2,(v0.zq.map zK).set g (im 4 g0),0⟩,⟨1,0,3,(g0.ends.map zE).set e (ia 5 e0),0⟩,oN e0]) (λk=>True) ?_ trivial (λk hk hr=>?_) (λhr=>?_)
  .rw[gz (pa _)];refine zp.trans (zp.EF 1 V λr hr c hc=>?_) (cC);rw[pS hr]at hc;exact gE.1 (rfl:([.fF 1 0 [],.fF 1 0 [],.fF 1 0 [],.fF 1 0 [],Bo false]:List C).all zB=true) c hc
  .obtain⟨x,hx⟩:∃x,x=l[k]:=⟨_,rfl⟩;have hx2:l[k]?=some x:=by rw[gk hk,hx]
   have hxm:x∈l:=bV
   have hg:(l.map zM)[k]?=some (zM x):=by rw[gy,hx2];rfl
   have e1:0+(k:Int).toNat=k:=aj
   have low:∀n j,j<=v\/3<n->∀r∈((l.map zM).set v (iY 3 v0)).take j++(List.replicate l.length ([.fF 1 0 [],.fF 1 0 [],.fF 1 0 [],.fF 1 0 [],Bo false]:List C)).drop j,∀c∈r,je n 9 c=true:=λn j h=>wH (enc:=zM) (λ_=>V) V l l.length (h.imp_right λh=>by simp[je,encS];omega)
   have own:∀j,∀r∈((l.map zM).set v (iY 3 v0)).take j++(List.replicate l.length ([.fF 1 0 [],.fF 1 0 [],.fF 1 0 [],.fF 1 0 [],Bo false]:List C)).drop j,∀c∈r,zB c=true:=λj=>wH (enc:=zM) (λ_=>V) V l l.length (.inr V)
   by_cases hkv:k=v
   .subst hkv;obtain rfl:v0=x:=by rw[hv]at hx2;exact gA hx2
    have hF:((l.map zM).set k (iY 3 v0))[k]?=some (iY 3 v0):=by rw[gJ,gz V,gz (aq hk)]
    rw[gz (gG _),gp aw];conv=>whnf
    refine zan ?_
    exact zbf
   .have hF:((l.map zM).set v (iY 3 v0))[k]?=some (zM x):=by rw[pj (λh=>hkv h.symm)];exact hg
    by_cases fE:k<v
    .rw[gz aw,gz aw];conv=>whnf
     refine zan ?_
     refine zaj ?_;refine zp.xO 2 hC V V V (j5 V (yE ?_)) V;have lw:=low 2 (k+1) (.inl aw);rw[<-jh (z:=([.fF 1 0 [],.fF 1 0 [],.fF 1 0 [],.fF 1 0 [],Bo false]:List C)) (n:=l.length) hF hk]at lw;exact lw
    .rw[gp aw,gp aw];conv=>whnf
     refine zan ?_
     refine zaj ?_;refine zp.xO 6 hC V V V (j5 V (j5 (yE ?_) (j5 V (j5 (yE (zD (enc:=zK) (λ_=>V) V _ _)) (j5 (yE (zD (enc:=zE) (λ_=>V) V _ _)) V))))) V;have lw:=low 6 (k+1) (.inr aw);rw[<-jh (z:=([.fF 1 0 [],.fF 1 0 [],.fF 1 0 [],.fF 1 0 [],Bo false]:List C)) (n:=l.length) hF hk]at lw;exact lw
  .exact dZ
 refine h1.o7 (λB h _=>?_) (pa _);have hw:=zp.fL (B:=B) [1,3,4,5] [0] [.sl 1 [] 5 0 l.length false] [⟨1,296,0,[[]],0⟩,⟨1,0,5,(l.map zM).set v (iY 3 v0),0⟩,⟨1,138,5,[zM v0],0⟩,⟨1,0,2,(v0.zq.map zK).set g (im 4 g0),0⟩,⟨1,0,3,(g0.ends.map zE).set e (ia 5 e0),0⟩,oN e0] tK V V (zd V (zd (zi (zD (enc:=zM) (λ_=>V) V l v)) (zd V (zd (zi (zD (enc:=zK) (λ_=>V) V _ _)) (zd (zi (zD (enc:=zE) (λ_=>V) V _ _)) V)))))
 have e:xJ [1,3,4,5] [⟨1,296,0,[[]],0⟩,⟨1,0,5,(l.map zM).set v (iY 3 v0),0⟩,⟨1,138,5,[zM v0],0⟩,⟨1,0,2,(v0.zq.map zK).set g (im 4 g0),0⟩,⟨1,0,3,(g0.ends.map zE).set e (ia 5 e0),0⟩,oN e0]=[⟨1,0,5,(l.map zM).set v (iY 1 v0),0⟩,⟨1,0,2,(v0.zq.map zK).set g (im 2 g0),0⟩,⟨1,0,3,(g0.ends.map zE).set e (ia 3 e0),0⟩,oN e0]:=by
  show zL [1,3,4,5] ⟨1,0,5,(l.map zM).set v (iY 3 v0),0⟩::_=_;rw[zH (enc:=zM) (λ_=>V)];show _::zL [1,3,4,5] ⟨1,0,2,(v0.zq.map zK).set g (im 4 g0),0⟩::zL [1,3,4,5] ⟨1,0,3,(g0.ends.map zE).set e (ia 5 e0),0⟩::_=_;rw[zH (enc:=zK) (λ_=>V),zH (enc:=zE) (λ_=>V)];rfl
 rw[e]at hw;exact hw
structure Ms(vs:List fI)(v:Nat)(v0:fI)(g:Nat)(g0:Gr)(e:Nat)(e0:En):Prop extends IM v0 g g0 e e0 where
 NM:vs.length<1000000000/\∀v∈vs,IN v
 fZ:vs[v]?=some v0
def zxQ{vs:List fI}{e0:En}(h:Ms vs v v0 g g0 e e0)(H:zn)(hf:qw H=true):tj 211 H [lV vs,.fn 212 [] [],.agg []] (.sl H.length [] 5 0 vs.length false) (H++[⟨1,0,5,(vs.map zM).set v (iY (H.length+1) v0),0⟩,⟨1,0,2,(v0.zq.map zK).set g (im (H.length+2) g0),0⟩,⟨1,0,3,(g0.ends.map zE).set e (ia (H.length+3) e0),0⟩,oN e0]):=by
 have:=BY (zu8 g0 g e0 e vs v v0 h.fZ h.NM.1 (λy hy=>jX y (h.NM.2 y hy)) (W7 h.toIM)) (zd (zi (zD (enc:=zM) (λ_=>V) V _ _)) (zd (zi (zD (enc:=zK) (λ_=>V) V _ _)) (zd (zi (zD (enc:=zE) (λ_=>V) V _ _)) V))) V H hf
 have e9:[(⟨1,0,5,(vs.map zM).set v (iY 1 v0),0⟩:Ob),⟨1,0,2,(v0.zq.map zK).set g (im 2 g0),0⟩,⟨1,0,3,(g0.ends.map zE).set e (ia 3 e0),0⟩,oN e0].map (zG (jm [] H.length))=[⟨1,0,5,(vs.map zM).set v (iY (H.length+1) v0),0⟩,⟨1,0,2,(v0.zq.map zK).set g (im (H.length+2) g0),0⟩,⟨1,0,3,(g0.ends.map zE).set e (ia (H.length+3) e0),0⟩,oN e0]:=by
  show zG _ ⟨1,0,5,_,0⟩::zG _ ⟨1,0,2,_,0⟩::zG _ ⟨1,0,3,_,0⟩::_=_;rw[zy (enc:=zM) (λ_=>V),zy (enc:=zK) (λ_=>V),zy (enc:=zE) (λ_=>V)]
  rfl
 rw[e9]at this;exact dG
def Cy(l:List (List Int))(hl:l.length<1000000000)(hp:∀x∈l,tj 215 [] [.agg [],lU x] (lU x) []):tj 214 [] [iG l,.fn 215 [] [],.agg []] (.sl 0 [] 1 0 l.length false) [⟨2,226,1,l.map zQ,0⟩]:=by
 have m1:(l.map zQ).length=l.length:=gC ..;refine zb.zN (fn:=f214) func214 V (uH ?_);rw[m1];refine⟨rfl,aw,by show(24:Int)*_<=_;omega,aw,dd ?_⟩;rw[m1,toNat_cast];refine qg.seq l.length (λk=>((iG l)::.fn 215 [] []::.za::.za::.za::.ref 0 [] 0 0 0::.fF 1 0 []::.sl 1 [] 1 0 l.length false::.za::.za::.za::.za::.za::(iG l)::I l.length::I k::tY ([.za,.za,.za,.za,.za]))) (λk=>[⟨1,296,0,[[]],0⟩,⟨2,226,1,(l.map zQ).take k++(List.replicate l.length ([.fF 1 0 []]:List C)).drop k,0⟩]) (λk=>True) ?_ trivial (λk hk hr=>?_) (λhr=>?_)
 .exact cC
 .obtain⟨x,hx⟩:∃x,x=l[k]:=⟨_,rfl⟩;have hx2:l[k]?=some x:=by rw[gk hk,hx]
  have hg:(l.map zQ)[k]?=some (zQ x):=by rw[gy,hx2];rfl
  conv=>whnf
  refine zan ?_
  refine ah (hp x tH) ?_;refine⟨aw,aA,dd ?_⟩;have e1:0+(k:Int).toNat=k:=aj
  rw[e1];refine⟨_,xp aj hk,rfl,dd ?_⟩;refine zaF ?_;have e2:=jh (z:=([.fF 1 0 []]:List C)) (n:=l.length) hg hk;rw[zw aw,<-e2];exact cE 2
 .exact dq
def Zj(r0:List Int)(x:Int)(l:List Int)(he:r0=x::l)(hl:l.length<1000000000):tj 215 [] [.agg [],lU r0] (.sl 0 [] 1 0 r0.length false) [⟨2,63,1,r0.map j4,0⟩]:=by
 have h1:tj 215 [] [.agg [],lU r0] (.sl 1 [] 1 0 r0.length false) [⟨1,296,0,[[]],0⟩,⟨2,63,1,r0.map j4,0⟩]:=by
  have hc:=zuZ x l hl;rw[<-he]at hc;refine zb.zN (fn:=f215) func215 V (uH ?_);refine af [] (hc) ?_;exact uJ
 exact h1.o7 (λB h _=>zp.fL [1] [0] _ _ tK V V V) (pa _)
def zwL(r0:List Int)(x:Int)(l:List Int)(he:r0=x::l)(hl:l.length<1000000000)(H:zn)(hf:qw H=true):tj 215 H [.agg [],lU r0] (.sl H.length [] 1 0 r0.length false) (H++[⟨2,63,1,r0.map j4,0⟩]):=
 BY (Zj r0 x l he hl) V V H hf
def Dm{fn:Func}{c:Code}{H2:zn}{r:C}(hf:P.funcs[f]?=some fn)(hb:fn.body=some c)
 (h:wpA P 0 c (entry fn args) [] λex t1 H1=>(ex=.ret\/ex=.normal)/\∃s2 r1,zp 0 ⟨t1,H1⟩ s2/\wa P fn s2=some r1/\zp 0 ⟨[r1],s2.H⟩ ⟨[r],H2⟩):zb P f [] args r H2:=λw E vs hh hl=>by
 have h1:qM P f [] args λr1 H1=>zp 0 ⟨[r1],H1⟩ ⟨[r],H2⟩:=qM.zN hf hb h
 refine(h1 w E vs hh hl).mono ?_;rintro e w' ⟨r1,H1,v,E',hw,h0,h2,h3,g⟩;obtain⟨E2,hs,g2⟩:=hw 0 w' E' ⟨#[v],[]⟩ ⟨h2,LL.one h3,pa _,pa _⟩;have hn2:=hs.heap.n;have hn0:E.n=0:=hh.n;refine⟨v,E2,h0,hs.heap,hs.tmps.cons_inv.1,⟨⟨by rw[hn0];exact pa _,λid hops hi=>by rw[hn0]at hi;omega,λid hops hi=>by rw[hn0]at hi;omega,λb o u hu=>g2.le.St _ _ _ (g.le.St _ _ _ hu),λid k u hi hu=>by rw[hn0]at hi;omega⟩,g2.os.trans g.os,g2.tape.trans g.tape,g2.output.trans g.output,pH g.size g2.size,?_,?_,?_⟩⟩
 .intro k hk ho;exact dj
 .intro b o u hu;rcases g2.jZ b o u hu with h1|h1|h1
  .exact g.jZ b o u h1
  .exact .inr (.inl (pH g.size h1))
  .rcases g.own b h1 with h4|h4
   .exact .inr (.inl h4)
   .exact .inr (.inr h4)
 .intro b hb;rcases g2.own b hb with h1|h1
  .exact .inl (pH g.size h1)
  .exact g.own b h1
def qE(w:Wor)(h:jg w):tj 162 [] [Cw w] (Cw w) []:=by
 refine ab func162 ?_;refine ah (ki w.pins h.pins) ?_;refine zao ?_;refine ah (D9 w.zm h.zm) ?_;exact⟨.inl V,_,(zp.zV 1 0 4 V V V V (.inr V) V aj (shut_map (enc:=zM) (λ_=>V) w.ze) (qa V)).trans (zp.zV 1 0 6 V V V V (.inr V) V aj (shut_map (enc:=zQ) (λ_=>V) w.counts) (qa V)),rfl⟩
def zu7(l:List (List Int))(t:Nat)(r0:(List Int))(hv:l[t]?=some r0)(hl:l.length<1000000000)(hp:∀x∈l,tj 215 [] [.agg [],lU x] (lU x) [])
 (hA:∀H,qw H=true->tj 215 H [.agg [],lU r0] (.sl H.length [] 1 0 r0.length false) (H++[⟨2,63,1,r0.map j4,0⟩])):
  tj 214 [] [iG l,.fn 215 [] [],.agg []] (.sl 0 [] 1 0 l.length false) [⟨1,0,1,(l.map zQ).set t ([C.sl 1 [] 1 0 r0.length false]),0⟩,⟨2,63,1,r0.map j4,0⟩]:=by
 have m1:(l.map zQ).length=l.length:=gC ..;have hvl:=(gh.1 hv).1
 have h1:tj 214 [] [iG l,.fn 215 [] [],.agg []] (.sl 1 [] 1 0 l.length false) [⟨1,296,0,[[]],0⟩,⟨1,0,1,(l.map zQ).set t ([C.sl 2 [] 1 0 r0.length false]),0⟩,⟨2,63,1,r0.map j4,0⟩]:=by
  refine zb.zN (fn:=f214) func214 V (uH ?_);rw[m1];refine⟨rfl,aw,by show(24:Int)*_<=_;omega,aw,dd ?_⟩;rw[m1,toNat_cast];have ZZ:List C:=([.fF 1 0 []]:List C);refine qg.seq l.length (λk=>((iG l)::.fn 215 [] []::.za::.za::.za::.ref 0 [] 0 0 0::.fF 1 0 []::.sl 1 [] 1 0 l.length false::.za::.za::.za::.za::.za::(iG l)::I l.length::I k::tY ([.za,.za,.za,.za,.za]))) (λk=>if k<=t then [⟨1,296,0,[[]],0⟩,⟨1,0,1,((l.map zQ).set t ([C.sl 2 [] 1 0 r0.length false])).take k++(List.replicate l.length ([.fF 1 0 []]:List C)).drop k,0⟩] else [⟨1,296,0,[[]],0⟩,⟨1,0,1,((l.map zQ).set t ([C.sl 2 [] 1 0 r0.length false])).take k++(List.replicate l.length ([.fF 1 0 []]:List C)).drop k,0⟩,⟨2,63,1,r0.map j4,0⟩]) (λk=>True) ?_ trivial (λk hk hr=>?_) (λhr=>?_)
  .rw[gz (pa _)];refine zp.trans (zp.EF 1 V λr hr c hc=>?_) (cC);rw[pS hr]at hc;exact gE.1 (rfl:([.fF 1 0 []]:List C).all zB=true) c hc
  .obtain⟨x,hx⟩:∃x,x=l[k]:=⟨_,rfl⟩;have hx2:l[k]?=some x:=by rw[gk hk,hx]
   have hxm:x∈l:=bV
   have hg:(l.map zQ)[k]?=some (zQ x):=by rw[gy,hx2];rfl
   have e1:0+(k:Int).toNat=k:=aj
   have low:∀n j,j<=t\/2<n->∀r∈((l.map zQ).set t ([C.sl 2 [] 1 0 r0.length false])).take j++(List.replicate l.length ([.fF 1 0 []]:List C)).drop j,∀c∈r,je n 9 c=true:=λn j h=>wH (enc:=zQ) (λ_=>V) V l l.length (h.imp_right λh=>by simp[je,encS];omega)
   have own:∀j,∀r∈((l.map zQ).set t ([C.sl 2 [] 1 0 r0.length false])).take j++(List.replicate l.length ([.fF 1 0 []]:List C)).drop j,∀c∈r,zB c=true:=λj=>wH (enc:=zQ) (λ_=>V) V l l.length (.inr V)
   by_cases hkv:k=t
   .subst hkv;obtain rfl:r0=x:=by rw[hv]at hx2;exact gA hx2
    have hF:((l.map zQ).set k ([C.sl 2 [] 1 0 r0.length false]))[k]?=some ([C.sl 2 [] 1 0 r0.length false]):=by rw[gJ,gz V,gz (aq hk)]
    rw[gz (gG _),gp aw];conv=>whnf
    refine zan ?_
    refine⟨_,_,hA _ (zd V (zi (own k))),dd ?_⟩;exact dh
   .have hF:((l.map zQ).set t ([C.sl 2 [] 1 0 r0.length false]))[k]?=some (zQ x):=by rw[pj (λh=>hkv h.symm)];exact hg
    by_cases fE:k<t
    .rw[gz aw,gz aw];conv=>whnf
     refine zan ?_
     refine zaj ?_;refine zp.xO 2 hC V V V (j5 V (yE ?_)) V;have lw:=low 2 (k+1) (.inl aw);rw[<-jh (z:=([.fF 1 0 []]:List C)) (n:=l.length) hF hk]at lw;exact lw
    .rw[gp aw,gp aw];conv=>whnf
     refine zan ?_
     refine zaj ?_;refine zp.xO 3 hC V V V (j5 V (j5 (yE ?_) V)) V;have lw:=low 3 (k+1) (.inr aw);rw[<-jh (z:=([.fF 1 0 []]:List C)) (n:=l.length) hF hk]at lw;exact lw
  .exact dZ
 refine h1.o7 (λB h _=>?_) (pa _);have hw:=zp.fL (B:=B) [1,2] [0] [.sl 1 [] 1 0 l.length false] [⟨1,296,0,[[]],0⟩,⟨1,0,1,(l.map zQ).set t ([C.sl 2 [] 1 0 r0.length false]),0⟩,⟨2,63,1,r0.map j4,0⟩] tK V V (zd V (zd (zi (zD (enc:=zQ) (λ_=>V) V l t)) V))
 have e:xJ [1,2] [⟨1,296,0,[[]],0⟩,⟨1,0,1,(l.map zQ).set t ([C.sl 2 [] 1 0 r0.length false]),0⟩,⟨2,63,1,r0.map j4,0⟩]=[⟨1,0,1,(l.map zQ).set t ([C.sl 1 [] 1 0 r0.length false]),0⟩,⟨2,63,1,r0.map j4,0⟩]:=by
  show zL [1,2] ⟨1,0,1,(l.map zQ).set t ([C.sl 2 [] 1 0 r0.length false]),0⟩::_=_;rw[zH (enc:=zQ) (λ_=>V)]
  rfl
 rw[e]at hw;exact hw
structure IK(cs:List (List Int))(t:Nat)(r0:List Int):Prop where
 sm:cs.length<1000000000/\∀r∈cs,r.length<1000000000
 at_:cs[t]?=some r0
 ne:r0≠[]
def zxP{cs:List (List Int)}(h:IK cs t r0)(H:zn)(hf:qw H=true):tj 214 H [iG cs,.fn 215 [] [],.agg []] (.sl H.length [] 1 0 cs.length false) (H++[⟨1,0,1,(cs.map zQ).set t ([C.sl (H.length+1) [] 1 0 r0.length false]),0⟩,⟨2,63,1,r0.map j4,0⟩]):=by
 obtain⟨x,l,hx⟩:∃x l,r0=x::l:=by
  cases hh:r0 with
  |nil=>exact absurd hh h.ne
  |cons x l=>exact⟨x,l,rfl⟩
 have hlen:l.length<1000000000:=by
  have:=h.sm.2 r0 (gu h.at_);rw[hx]at this;exact dc
 have:=BY (zu7 cs t r0 h.at_ h.sm.1 (λy hy=>yz y (h.sm.2 y hy)) (zwL r0 x l hx hlen)) (zd (zi (zD (enc:=zQ) (λ_=>V) V _ _)) V) V H hf
 have e9:[(⟨1,0,1,(cs.map zQ).set t ([C.sl 1 [] 1 0 r0.length false]),0⟩:Ob),⟨2,63,1,r0.map j4,0⟩].map (zG (jm [] H.length))=[⟨1,0,1,(cs.map zQ).set t ([C.sl (H.length+1) [] 1 0 r0.length false]),0⟩,⟨2,63,1,r0.map j4,0⟩]:=by
  show zG _ ⟨1,0,1,_,0⟩::_=_;rw[zy (enc:=zQ) (λ_=>V)]
  rfl
 rw[e9]at this;exact dG
def Ot(w:Wor)(h:jg w)(x:Int)(l:List Int)(hx:w.pins=x::l):tj 162 [] [Cw w] (.agg [I w.zl,I w.current,I w.lock,.sl 0 [] 1 0 w.pins.length false,lV w.ze,lL w.zc,iG w.counts,lR w.zm]) [⟨2,3,1,w.pins.map encI,0⟩]:=by
 have hl:l.length<1000000000:=by have:=h.pins;rw[hx]at this;exact dc
 have hc:=Q9 x l hl;rw[<-hx]at hc;refine Dm (fn:=f162) func162 V (uH ?_);refine af [] (hc) ?_;refine zao ?_;refine ah (D9 w.zm h.zm) ?_;refine zaH ?_;exact zp.fL [3] [0] _ _ V V V (zd V (zd V (zd V (zd V (zd (zi λr hr c hc=>((shut_map (enc:=zM) (λ_=>V) w.ze) r hr c hc).2) (zi λr hr c hc=>((shut_map (enc:=zQ) (λ_=>V) w.counts) r hr c hc).2))))))
def Rt{B:Nat}(sel m:List Nat){t t2:List C}{H2:zn}(hB:EE B 0 sel=true)(qb:sel.all (λid=>Nat.blt id H.length)=true)(iL:yw sel=true)(iu:qw H=true)(et:(BA m 0 t).map (xX sel 9)=t2)(e:xJ sel H=H2):zp B ⟨t,H⟩ ⟨t2,H2⟩:=by
 subst et e;exact zp.fL sel m t H hB qb iL iu
def kj(w:Wor)(h:jg w)(x:fT)(l:List fT)(hx:w.zc=x::l):tj 162 [] [Cw w] (.agg (nG 0 w)) [⟨2,144,4,w.zc.map qO,0⟩]:=by
 have hl:l.length<1000000000:=by have:=h.zc;rw[hx]at this;exact dc
 have hc:=zuY x l hl;rw[<-hx]at hc;refine zaQ ?_;refine af [] (Cz w.ze h.ze.1 λv hv=>jX v (h.ze.2 v hv)) ?_;refine af [] (hc) ?_;refine af [] (Cy w.counts h.counts.1 λr hr=>yz r (h.counts.2 r hr)) ?_;refine ah (D9 w.zm h.zm) ?_;refine zaH ?_;exact zp.fL [4] [0] _ _ V V V (zd V (zd V (zd V (zd (zi λr hr c hc=>((shut_map (enc:=zM) (λ_=>V) w.ze) r hr c hc).2) (zd V (zi λr hr c hc=>((shut_map (enc:=zQ) (λ_=>V) w.counts) r hr c hc).2))))))
def Oq(w:Wor)(h:jg w)(cs:List (List Int))(hcs:w.counts=cs)(hp:IK cs t r0):tj 162 [] [Cw w] (.agg [I w.zl,I w.current,I w.lock,lI w.pins,lV w.ze,lL w.zc,.sl 0 [] 1 0 cs.length false,lR w.zm]) [⟨1,0,1,(cs.map zQ).set t ([C.sl 1 [] 1 0 r0.length false]),0⟩,⟨2,63,1,r0.map j4,0⟩]:=by
 subst hcs;have own:∀i,∀r∈(w.counts.map zQ).set t ([C.sl i [] 1 0 r0.length false]),∀c∈r,zB c=true:=λi=>zD (enc:=zQ) (λ_=>V) V _ _
 refine zaQ ?_;refine af [] (Cz w.ze h.ze.1 λv hv=>jX v (h.ze.2 v hv)) ?_;refine ah (wA w.zc h.zc) ?_;refine⟨_,_,zxP hp _ (zd V (zd V (zd V V))),dd ?_⟩;refine ah (D9 w.zm h.zm) ?_;refine⟨.inl V,_,_,zp.zV 1 0 4 V V V V (.inr V) V aj (shut_map (enc:=zM) (λ_=>V) w.ze) (qa V),rfl,?_⟩;refine Rt [4,5] [0] V V V (zd V (zd V (zd V (zd (zi λr hr c hc=>((shut_map (enc:=zM) (λ_=>V) w.ze) r hr c hc).2) (zd (zi (own 5)) V))))) V ?_;show zL [4,5] ⟨1,0,1,(w.counts.map zQ).set t ([C.sl 5 [] 1 0 r0.length false]),0⟩::_=_;rw[zH (enc:=zQ) (λ_=>V)]
 rfl
def zxK(w:Wor)(h:jg w)(H:zn)(hf:qw H=true):tj 214 H [iG w.counts,.fn 215 [] [],.agg []] (.sl H.length [] 1 0 w.counts.length false) (H++[⟨2,226,1,w.counts.map zQ,0⟩]):=
 BY (Cy w.counts h.counts.1 λr hr=>yz r (h.counts.2 r hr)) V V H hf
def vb(w:Wor)(h:jg w)(vs:List fI)(hvs:w.ze=vs){e0:En}(hp:Ms vs v v0 g g0 e e0):tj 162 [] [Cw w] (.agg [I w.zl,I w.current,I w.lock,lI w.pins,.sl 0 [] 5 0 vs.length false,lL w.zc,iG w.counts,lR w.zm]) [⟨1,0,5,(vs.map zM).set v (iY 1 v0),0⟩,⟨1,0,2,(v0.zq.map zK).set g (im 2 g0),0⟩,⟨1,0,3,(g0.ends.map zE).set e (ia 3 e0),0⟩,oN e0]:=by
 subst hvs;have own:∀i,∀r∈(w.ze.map zM).set v (iY i v0),∀c∈r,zB c=true:=λi=>zD (enc:=zM) (λ_=>V) V _ _
 refine zaQ ?_;refine⟨_,_,zxQ hp _ V,dd ?_⟩;refine ah (wA w.zc h.zc) ?_;refine⟨_,_,zxK w h _ (zd V (zd V (zd V (zd (zi (own 4)) (zd (zi (zD (enc:=zK) (λ_=>V) V _ _)) (zd (zi (zD (enc:=zE) (λ_=>V) V _ _)) V)))))),dd ?_⟩;refine ah (D9 w.zm h.zm) ?_;refine za2 ?_;refine Rt [3,4,5,6] [0] V V V (zd V (zd V (zd V (zd (zi (own 4)) (zd (zi (zD (enc:=zK) (λ_=>V) V _ _)) (zd (zi (zD (enc:=zE) (λ_=>V) V _ _)) (zd V (zi λr hr c hc=>((shut_map (enc:=zQ) (λ_=>V) w.counts) r hr c hc).2)))))))) V ?_;show zL [3,4,5,6] ⟨1,0,5,(w.ze.map zM).set v (iY 4 v0),0⟩::zL [3,4,5,6] ⟨1,0,2,(v0.zq.map zK).set g (im 5 g0),0⟩::zL [3,4,5,6] ⟨1,0,3,(g0.ends.map zE).set e (ia 6 e0),0⟩::_=_;rw[zH (enc:=zM) (λ_=>V),zH (enc:=zK) (λ_=>V),zH (enc:=zE) (λ_=>V)]
 rfl
def mi(i n:Int):Bool:=decide (0<=i) && decide (i<n)
def Dc(i n:Int):tj 195 [] [I i,I n] (Bo (mi i n)) []:=by
 refine ab func195 ?_;refine⟨λh1=>?_,λh1=>?_⟩
 .refine dd ?_;refine⟨λh2=>?_,λh2=>?_⟩
  .refine dd ?_
   (exact⟨.inl V,_,.refl _,uN (by unfold mi;simp at h1 h2|-;omega)⟩)
  .refine dd ?_
   (exact⟨.inl V,_,.refl _,uN (by unfold mi;simp at h1 h2|-;omega)⟩)
 .refine dd ?_
  (exact⟨.inl V,_,.refl _,uN (by unfold mi;simp at h1|-;omega)⟩)
def YI(p:Int->Bool)(hcb:qh prog f=true)(hp:∀r∈l,tj f H ([I r]++caps) (Bo (p r)) H)(hl:l.length<4611686018427387904):
  tj 59 H [lI l,.fn f [] caps] (I (match l.findIdx? p with|some i=>(i:Int)|none=> -1)) H:=by
 refine zb.zN (fn:=f59) func59 V (uH ?_)
 refine qg.inv (λn t1 H1=>∃k,k+n=l.length/\H1=H/\(∀j,j<k->∀r,l[j]?=some r->p r=false)/\
   t1=((lI l)::.fn f [] caps::.za::.za::I 0::.za::.za::I (l.map encI).length::I k::tY ([.za,.za]))) l.length ?_ ?_
 .exact c9
 rintro n _ _ ⟨k,hk,rfl,hno,rfl⟩;conv=>whnf
 refine⟨λh=>?_,λh=>?_⟩
 .conv=>whnf
  have fE:k<l.length:=aq h
  refine⟨aw,encI l[k],bc,uH ?_⟩;refine za9 ?_;refine⟨λh2=>?_,λh2=>?_⟩
  .conv=>whnf
   refine zal ?_
   have:l.findIdx? p=some k:=by
    rw[gS];refine⟨fE,h2,λj hj=>?_⟩;simp[hno j hj _ (gk aw)]
   rw[this]
   rfl
  .conv=>whnf
   refine .inl ⟨rfl,n-1,_,_,aw,zp.mask [0,1,4,7,8] _ _,k+1,aw,rfl,?_,?_⟩
   .intro j hj r hr;by_cases hjk:j=k
    .subst hjk;rw[gk fE]at hr;cases hr
     exact h2
    .exact dV
   .rw[zw aw];rfl
 .conv=>whnf
  refine zal ?_
  have:l.findIdx? p=none:=by
   rw[gV];intro x hx;obtain⟨j,hj⟩:=gI.1 hx;have hjl:=(gh.1 hj).1;have:¬k<l.length:=aq h
   exact dU
  rw[this]
  rfl
def J9(p:Int->Bool)(hcb:qh prog f=true)(hp:∀r∈l,tj f H ([I r]++caps) (Bo (p r)) H)(hl:l.length<4611686018427387904):
  tj 69 H [lI l,.fn f [] caps] (Bo (l.any p)) H:=by
 refine zb.zN (fn:=f69) func69 V (uH ?_);refine⟨_,_,YI p hcb hp hl,dd ?_⟩;refine zax ?_;refine⟨λh=>?_,λh=>?_⟩ <;> rw[h]
 .exact di
 .exact di
def YH{l:List En}(p:En->Bool)(hcb:qh prog f=true)(hp:∀r∈l,tj f H ([Go.Slp.Ev r]++caps) (Bo (p r)) H)(hl:l.length<4611686018427387904):
  tj 117 H [lE l,.fn f [] caps] (I (match l.findIdx? p with|some i=>(i:Int)|none=> -1)) H:=by
 refine zb.zN (fn:=f117) func117 V (uH ?_)
 refine qg.inv (λn t1 H1=>∃k,k+n=l.length/\H1=H/\(∀j,j<k->∀r,l[j]?=some r->p r=false)/\
   t1=((lE l)::.fn f [] caps::.za::.za::I 0::.za::.za::I (l.map zE).length::I k::tY ([.za,.za]))) l.length ?_ ?_
 .exact c9
 rintro n _ _ ⟨k,hk,rfl,hno,rfl⟩;conv=>whnf
 refine⟨λh=>?_,λh=>?_⟩
 .conv=>whnf
  have fE:k<l.length:=aq h
  refine⟨aw,zE l[k],bc,uH ?_⟩;refine za9 ?_;refine⟨λh2=>?_,λh2=>?_⟩
  .conv=>whnf
   refine zal ?_
   have:l.findIdx? p=some k:=by
    rw[gS];refine⟨fE,h2,λj hj=>?_⟩;simp[hno j hj _ (gk aw)]
   rw[this]
   rfl
  .conv=>whnf
   refine .inl ⟨rfl,n-1,_,_,aw,zp.mask [0,1,4,7,8] _ _,k+1,aw,rfl,?_,?_⟩
   .intro j hj r hr;by_cases hjk:j=k
    .subst hjk;rw[gk fE]at hr;cases hr
     exact h2
    .exact dV
   .rw[zw aw];rfl
 .conv=>whnf
  refine zal ?_
  have:l.findIdx? p=none:=by
   rw[gV];intro x hx;obtain⟨j,hj⟩:=gI.1 hx;have hjl:=(gh.1 hj).1;have:¬k<l.length:=aq h
   exact dU
  rw[this]
  rfl
def Pz{l:List En}(p:En->Bool)(hcb:qh prog f=true)(hp:∀r∈l,tj f H ([Go.Slp.Ev r]++caps) (Bo (p r)) H)(hl:l.length<4611686018427387904):
  tj 71 H [lE l,.fn f [] caps] (Bo (l.any p)) H:=by
 refine zb.zN (fn:=f71) func71 V (uH ?_);refine⟨_,_,YH p hcb hp hl,dd ?_⟩;refine zax ?_;refine⟨λh=>?_,λh=>?_⟩ <;> rw[h]
 .exact di
 .exact di
def Bu(ep p:Int):Bool:=decide (p<0) || decide (p > ep+1)
def Wb(w:Wor)(p:Int)(h0:0<=w.zl)(h1:w.zl<=1000000000000):tj 110 [oW w] ([I p]++[.ref 0 [] 8 0 0]) (Bo (Bu w.zl p)) [oW w]:=by
 have e:IntKind.i64.wrap (w.zl+1)=w.zl+1:=z7 aw aw;refine zb.zN (fn:=f110) func110 V (uH ?_);refine⟨λh2=>?_,λh2=>?_⟩
 .refine dd ?_;exact⟨.inl V,_,.refl _,rfl,uN (by unfold Bu;rw[h2];rfl)⟩
 .refine dd ?_;rw[e];refine⟨λh3=>?_,λh3=>?_⟩
  .refine dd ?_;exact⟨.inl V,_,.refl _,rfl,uN (by unfold Bu;rw[h2,h3];rfl)⟩
  .refine dd ?_;exact⟨.inl V,_,.refl _,rfl,uN (by unfold Bu;rw[h2,h3];rfl)⟩
def xd(w:Wor):Bool:=decide (1<=w.pins.length) && decide (w.pins.length<=8) && decide (w.counts.length=w.pins.length) && Di w.counts && decide (0<=w.zl) && decide (w.zl<=1000000000000) && (decide (w.lock=0) || decide (w.lock=1)) && !w.pins.any (Bu w.zl)
def Wx(w:Wor)(hp:w.pins.length<4000000000000000000)(hc:w.counts.length<4000000000000000000):tj 62 [] [Cw w] (Bo (xd w)) []:=by
 have m1:(w.pins.map encI).length=w.pins.length:=gC ..;have m2:(w.counts.map zQ).length=w.counts.length:=gC ..;refine ab func62 ?_;rw[m1];refine⟨λh1=>?_,λh1=>?_⟩
 ·(have e:xd w=false:=by (unfold xd;(rw[show decide (1<=w.pins.length)=false from by rw[pY];have:=gL h1;omega]);simp));exact dW
 refine dd ?_;refine⟨λh2=>?_,λh2=>?_⟩
 ·(have e:xd w=false:=by (unfold xd;(rw[show decide (w.pins.length<=8)=false from cO]);simp));exact dW
 refine dd ?_;rw[m2];refine⟨λh3=>?_,λh3=>?_⟩
 ·(have e:xd w=false:=by (unfold xd;(rw[show decide (w.counts.length=w.pins.length)=false from by rw[pY];intro hh;simp[hh]at h3]);simp));exact dW
 refine dd ?_;refine ah (Ws w.counts hc) ?_;refine⟨λh4=>?_,λh4=>?_⟩
 rotate_left
 ·(have e:xd w=false:=by (unfold xd;(rw[h4]);simp));exact dW
 refine dd ?_;refine⟨λh5=>?_,λh5=>?_⟩
 ·(have e:xd w=false:=by (unfold xd;(rw[show decide (0<=w.zl)=false from by simp at h5|-;omega]);simp));exact dW
 refine dd ?_;refine⟨λh6=>?_,λh6=>?_⟩
 ·(have e:xd w=false:=by (unfold xd;(rw[show decide (w.zl<=1000000000000)=false from by simp at h6|-;omega]);simp));exact dW
 refine dd ?_;have b0:0<=w.zl:=by simp at h5;omega
 have b1:w.zl<=1000000000000:=by simp at h6;omega
 have hcon:=J9 (H:=[oW w]) (f:=110) (l:=w.pins) (caps:=[.ref 0 [] 8 0 0]) (Bu w.zl) au (λr _=>Wb w r b0 b1) aw
 have g0:xd w=((decide (w.lock=0) || decide (w.lock=1)) && !w.pins.any (Bu w.zl)):=by
  have h3':w.counts.length=w.pins.length:=by simp at h3;omega
  unfold xd;rw[show decide (1<=w.pins.length)=true from by rw[decide_eq_true_iff];have:=rE h1;omega,show decide (w.pins.length<=8)=true from cO,show decide (w.counts.length=w.pins.length)=true from aq h3',h4,show decide (0<=w.zl)=true from aq b0,show decide (w.zl<=1000000000000)=true from aq b1]
  rfl
 have fin:∀hl:(decide (w.lock=0) || decide (w.lock=1))=true,xd w=!w.pins.any (Bu w.zl):=λhl=>by rw[g0,hl];rfl
 refine⟨λh7=>?_,λh7=>?_⟩
 .refine dd ?_;refine⟨λh8=>?_,λh8=>?_⟩
  .have e:xd w=false:=by rw[g0,show(decide (w.lock=0) || decide (w.lock=1))=false from by simp at h7 h8|-;omega];rfl
   rw[e];refine zad ?_
   exact uI
  rw[fin (by simp at h8|-;omega)];refine zad ?_
  refine af [0] (hcon) ?_;refine⟨λh9=>?_,λh9=>?_⟩
  .refine dd ?_
   (exact⟨.inl V,_,.refl _,uN (by rw[h9];rfl)⟩)
  .refine dd ?_
   (exact⟨.inl V,_,.refl _,uN (by rw[h9];rfl)⟩)
 .rw[fin (by simp at h7|-;omega)];refine zad ?_
  refine af [0] (hcon) ?_;refine⟨λh9=>?_,λh9=>?_⟩
  .refine dd ?_
   (exact⟨.inl V,_,.refl _,uN (by rw[h9];rfl)⟩)
  .refine dd ?_
   (exact⟨.inl V,_,.refl _,uN (by rw[h9];rfl)⟩)
def BZ(x:ij)(e:En):Bool:=!Go.Slp.fV e || (e.next.length:Int) != x.ye
def Wh(x:ij)(e:En)(he:e.ok):tj 112 [oC x] ([Go.Slp.Ev e]++[.ref 0 [] 4 0 0]) (Bo (BZ x e)) [oC x]:=by
 have m1:(e.next.map encI).length=e.next.length:=gC ..;refine zb.zN (fn:=f112) func112 V (uH ?_);refine ah (Go.Slp.FH e he) ?_;refine⟨λh1=>?_,λh1=>?_⟩
 rotate_left
 .refine dd ?_;exact⟨.inl V,_,zp.keep [3] 1 _ _ V V V V,rfl,uN (by unfold BZ;rw[h1];rfl)⟩
 .refine dd ?_;rw[m1];refine⟨λh2=>?_,λh2=>?_⟩
  .refine dd ?_;exact⟨.inl V,_,zp.keep [3] 1 _ _ V V V V,rfl,uN (by unfold BZ;rw[h1,h2];rfl)⟩
  .refine dd ?_;exact⟨.inl V,_,zp.keep [3] 1 _ _ V V V V,rfl,uN (by unfold BZ;rw[h1,h2];rfl)⟩
structure M3(v:fI):Prop where
 snap:AT v.snap
 zq:v.zq.length<1000000000000
 ends : ∀g∈v.zq, g.ends.length<1000000000000 /\ ∀e∈g.ends, e.ok
def CS(v:fI)(i:Nat):Bool:=match v.zq[i]?,v.snap.zo[i]? with
 |some g,some x=>decide (g.ends.length=x.zS.length) && !g.ends.any (BZ x)
 |_,_=>true
def o6(v:fI):Bool:=kO v.snap && decide (v.zq.length=v.snap.zo.length) && (List.range v.zq.length).all (CS v)
def Ww(v:fI)(hv:M3 v):tj 64 [] [Cv v] (Bo (o6 v)) []:=by
 have m1:(v.zq.map zK).length=v.zq.length:=gC ..;have m2:(v.snap.zo.map vo).length=v.snap.zo.length:=gC ..;have hgl:=hv.zq;refine ab func64 ?_;refine ah (OD v.snap hv.snap) ?_;refine⟨λh1=>?_,λh1=>?_⟩
 rotate_left
 .have e:o6 v=false:=by unfold o6;rw[h1];rfl
  rw[e];refine zad ?_
  exact uI
 refine dd ?_;rw[m1,m2];refine⟨λh2=>?_,λh2=>?_⟩
 .have e:o6 v=false:=by unfold o6;rw[show decide (v.zq.length=v.snap.zo.length)=false from by rw[pY];intro hh;simp[hh]at h2,sJ];rfl
  rw[e];refine zad ?_
  exact uI
 have h2':v.zq.length=v.snap.zo.length:=bd
 refine zad ?_
 rw[m1];refine qg.seq v.zq.length (λk=>(.za::.ref 0 [] 5 0 0::Bo false::tY (tY (.za::.za::.za::(lG v.zq)::I v.zq.length::I k::tY (tY (tY ([.za]))))))) (λk=>[⟨1,138,5,[zM v],0⟩]) (λk=>∀j,j<k->CS v j=true) ?_ aj (λk hk hr=>?_) (λhr=>?_)
 .exact cC
 .obtain⟨g,hg⟩:∃g,g=v.zq[k]:=⟨_,rfl⟩;obtain⟨x,hx⟩:∃x,x=v.snap.zo[k]'aw:=⟨_,rfl⟩;have gg:(v.zq.map zK)[k]?=some (zK g):=by rw[gy,gk hk,hg];rfl
  have gx:(v.snap.zo.map vo)[k]?=some (vo x):=by rw[gy,gk aw,hx];rfl
  have hgm:g∈v.zq:=by rw[hg];exact pt hk
  have me:(g.ends.map zE).length=g.ends.length:=gC ..;have mh:(x.zS.map w6).length=x.zS.length:=gC ..
  have hd:CS v k=(decide (g.ends.length=x.zS.length) && !g.ends.any (BZ x)):=by
   unfold CS;rw[gk hk,gk aw,<-hg,<-hx]
  have bad:CS v k=false->o6 v=false:=λh=>by
   have:(List.range v.zq.length).all (CS v)=false:=by rw[sI];exact⟨k,aq hk,aH⟩
   unfold o6;rw[this,sJ]
  have hcon:=Pz (H:=[oC x]) (f:=112) (l:=g.ends) (caps:=[.ref 0 [] 4 0 0]) (BZ x) au (λr hr=>Wh x r ((hv.ends g hgm).2 r hr)) (by have:=(hv.ends g hgm).1;omega);conv=>whnf
  refine uF ?_;(refine tc gg ?_)
  (refine tc gx ?_)
  rw[me,mh];refine⟨λh3=>?_,λh3=>?_⟩
  .rw[bad (by rw[hd,show decide (g.ends.length=x.zS.length)=false from by rw[pY];intro hh;simp[hh]at h3];rfl)];refine zad ?_
   refine zaw ?_
   exact uI
  refine dd ?_;refine af [2] (hcon) ?_;refine⟨λh4=>?_,λh4=>?_⟩
  .rw[bad (by rw[hd,h4,u3,sJ])];refine zad ?_
   refine zaw ?_
   exact uI
  refine zad ?_
  refine .inl ⟨rfl,?_,λj hj=>?_⟩
  .exact du
  .by_cases e:j=k
   .subst e;rw[hd,h4];simp at h3|-;omega
   .exact hr j aw
 .have e:o6 v=true:=by
   unfold o6;rw[h1,show decide (v.zq.length=v.snap.zo.length)=true from aq h2',u5,u5,gE]
   exactλi hi=>hr i (aq hi)
  rw[e];exact gf
def vv(l:List fS):List (Int×Value):=l.foldl (λm r=>yR m r.version (Value.bool r.gone)) []
def yS(l:List fS)(i:Int):Bool:=match ((jB (vv l) i).bind λj=>((vv l)[j]?).map (·.2):Option Value) with
 |some (.bool b)=>b
 |_=>false
def zt5{m:List (Int×Value)}(h:∀kv∈m,∃b,kv.2=Value.bool b)(k:Int)(b:Bool):∀kv∈yR m k (Value.bool b),∃b,kv.2=Value.bool b:=λkv hm=>by
 unfold yR at hm;split at hm
 .rcases pE hm with hm|rfl
  .exact h kv hm
  .exact⟨b,rfl⟩
 .rcases pw.1 hm with hm|hm
  .exact h kv hm
  .rw[gZ.1 hm];exact⟨b,rfl⟩
def Yz(l:List fS):∀kv∈vv l,∃b,kv.2=Value.bool b:=by
 unfold vv
 suffices key:∀(l:List fS) (m:List (Int×Value)),(∀kv∈m,∃b,kv.2=Value.bool b)->∀kv∈l.foldl (λm r=>yR m r.version (Value.bool r.gone)) m,∃b,kv.2=Value.bool b from key l [] aj
 intro l
 induction l with
 |nil=>intro m h;exact h
 |cons r l ih=>intro m h;exact ih _ (zt5 h _ _)
def zvt(l:List fS)(i:Int):(((jB (vv l) i).bind λj=>((vv l)[j]?).map (·.2)).getD (Value.bool false))=Value.bool (yS l i):=by
 unfold yS;cases h:(jB (vv l) i).bind λj=>((vv l)[j]?).map (·.2) with
 |none=>rfl
 |some v=>
  obtain⟨j,_,hj⟩:=gQ.1 h;obtain⟨kv,h1,rfl⟩:=gT.1 hj;obtain⟨b,hb⟩:=Yz l kv (gu h1);simp only[Option.getD_some];rw[hb]
def Z2(l:List fS){k:Nat}{r:fS}(h:l[k]?=some r):vv (l.take (k+1))=yR (vv (l.take k)) r.version (Value.bool r.gone):=by
 obtain⟨hk,rfl⟩:=gh.1 h;unfold vv;rw[rj hk,eX]
 rfl
structure iw(w:Wor):Prop where
 pins:w.pins.length<1000000000000
 ze:w.ze.length<1000000000000/\∀v∈w.ze,M3 v
 zc:w.zc.length<1000000000000/\∀l∈w.zc,l.ok
 counts:w.counts.length<1000000000000/\∀r∈w.counts,r.length<1000000000000
 zm:w.zm.length<1000000000000
def yO(w:Wor)(r:fS):Bool:=decide (r.version≥(w.ze.length:Int)) || r.version == w.current || decide (r.at_ > w.zl)
def Ba(w:Wor)(i:Nat):Bool:=match w.ze[i]? with
 |some v=>o6 v && (v.qX == yS w.zm i)
 |none=>true
def og(w:Wor)(i:Nat):Bool:=match w.zc[i]? with
 |some l=>Go.Gat.fV l && decide (zT w.zc l.name=i)
 |none=>true
def xa(w:Wor):Bool:=xd w && (decide (0<=w.current) && decide (w.current<w.ze.length)) && Go.Lim.fV w.zm && !w.zm.any (yO w) && (List.range w.ze.length).all (Ba w) && (List.range w.zc.length).all (og w)
def Oh(w:Wor)(hw:iw w):tj 34 [] [Cw w] (Bo (xa w)) []:=by
 have m1:(w.ze.map zM).length=w.ze.length:=gC ..;have m2:(w.zm.map xz).length=w.zm.length:=gC ..;have m3:(w.zc.map qO).length=w.zc.length:=gC ..;have b1:=hw.pins;have b2:=hw.ze.1;have b3:=hw.zc.1;have b4:=hw.counts.1;have b5:=hw.zm;refine ab func34 ?_;refine ah (Wx w aw aw) ?_;refine⟨λh1=>?_,λh1=>?_⟩
 rotate_left
 ·(have e:xa w=false:=by (unfold xa;(rw[h1]);simp));exact dW
 refine dd ?_;refine⟨λh2=>?_,λh2=>?_⟩
 ·(have e:xa w=false:=by (unfold xa;(rw[show decide (0<=w.current)=false from cO]);simp));exact dW
 refine dd ?_;rw[m1];refine⟨λh3=>?_,λh3=>?_⟩
 ·(have e:xa w=false:=by (unfold xa;(rw[show decide (w.current<w.ze.length)=false from by simp at h3|-;omega]);simp));exact dW
 refine dd ?_;refine ah (Go.Lim.FH (l:=w.zm) aw) ?_;refine⟨λh4=>?_,λh4=>?_⟩
 rotate_left
 ·(have e:xa w=false:=by (unfold xa;(rw[h4]);simp));exact dW
 refine zad ?_
 intro b;refine dd ?_;rw[m2]
 have g0:xa w=(!w.zm.any (yO w) && (List.range w.ze.length).all (Ba w) && (List.range w.zc.length).all (og w)):=by
  unfold xa;rw[h1,show decide (0<=w.current)=true from cO,show decide (w.current<w.ze.length)=true from by simp at h3|-;omega,h4]
  rfl
 refine qg.seq w.zm.length (λk=>(.za::.ref 0 [] 8 0 0::Bo false:: .v (.map (some b)):: .za::.za::.za::.za::.za::.za::tY (tY (tY (lR w.zm::I w.zm.length::I k:: .za::.za::.za::.za::.za::.za::tY (jp (tY (tY (tY ([])))))))))) (λk=>[oW w,iM b (j1 qo (vv (w.zm.take k))) (vv (w.zm.take k)).length]) (λk=>∀j,(h:j<w.zm.length)->j<k->yO w w.zm[j]=false) ?_ aj (λk hk hr=>?_) (λhr=>?_)
 .exact cC
 .obtain⟨r,hx⟩:∃r,r=w.zm[k]:=⟨_,rfl⟩;have hx2:w.zm[k]?=some r:=by rw[gk hk,hx]
  have hg:(w.zm.map xz)[k]?=some (xz r):=by rw[gy,hx2];rfl
  have bad:yO w r=true->xa w=false:=λh=>by
   have:w.zm.any (yO w)=true:=rh.2 ⟨r,gu hx2,h⟩;rw[g0,this];rfl
  conv=>whnf
  refine zan ?_
  rw[m1];refine⟨λh5=>?_,λh5=>?_⟩
  ·(rw[bad (by unfold yO;rw[h5];rfl)]);exact zaW
  refine dd ?_;refine⟨λh6=>?_,λh6=>?_⟩
  ·(rw[bad (by unfold yO;rw[h6,ur];rfl)]);exact zaW
  refine dd ?_;refine⟨λh7=>?_,λh7=>?_⟩
  ·(rw[bad (by unfold yO;rw[h7,ur])]);exact zaW
  refine zad ?_
  refine⟨λq=>?_,λq=>?_⟩
  all_goals
   refine dd ?_;refine⟨_,_,fO.mapUpdate (id:=1) _ _ _ _ (.inl V) underlying155 (mS.int underlying3) V V r.version (λE u h=>jU h) (.bool r.gone) (λE u h=>by rw[q];exact jU h),dd ?_⟩;refine .inl ⟨rfl,?_,λj hj hjk=>?_⟩
   .rw[zw aw,<-Z2 w.zm hx2];exact cE 2
   .by_cases e:j=k
    .subst e;rw[<-hx];unfold yO;rw[h5,h6,h7];rfl
    .exact hr j hj aw
 have hl0:w.zm.any (yO w)=false:=by
  rw[pq];intro x hx;obtain⟨j,hj,rfl⟩:=pJ.1 hx;simp[hr j hj hj]
 rw[pI];refine uD ?_;rw[m1];have g1:xa w=((List.range w.ze.length).all (Ba w) && (List.range w.zc.length).all (og w)):=by rw[g0,hl0];rfl
 refine qg.seq w.ze.length (λk=>(.za::.ref 0 [] 8 0 0::Bo false:: .v (.map (some b)):: .za::.za::.za::.za::.za::.za::.za::tY (jp (tY (tY (lV w.ze::I w.ze.length::I k:: .za::.za::.za::.za::.za::tY (tY (tY (tY ([])))))))))) (λk=>[oW w,iM b (j1 qo (vv (w.zm))) (vv (w.zm)).length]) (λk=>∀j,j<k->Ba w j=true) ?_ aj (λk hk hr=>?_) (λhr=>?_)
 .exact cC
 .obtain⟨v,hx⟩:∃v,v=w.ze[k]:=⟨_,rfl⟩;have hx2:w.ze[k]?=some v:=by rw[gk hk,hx]
  have hg:(w.ze.map zM)[k]?=some (zM v):=by rw[gy,hx2];rfl
  have hd:Ba w k=(o6 v && (v.qX == yS w.zm k)):=by unfold Ba;rw[hx2]
  have bad:Ba w k=false->xa w=false:=λh=>by
   have:(List.range w.ze.length).all (Ba w)=false:=by rw[sI];exact⟨k,aq hk,aH⟩
   rw[g1,this];rfl
  conv=>whnf
  refine zan ?_
  refine ah (Ww v (hw.ze.2 v (gu hx2))) ?_;refine⟨λh5=>?_,λh5=>?_⟩
  rotate_left
  ·(rw[bad (by rw[hd,h5];rfl)]);exact zaW
  refine dd ?_;refine⟨λq=>?_,λq=>?_⟩
  all_goals
   refine dd ?_;refine⟨_,_,fO.lookup (id:=1) _ _ _ V underlying155 (mS.int underlying3) V V (k:Int) (λE u h=>jU h) (c:=Bo (yS w.zm k)) V V (λE=>by rw[zvt];exact .v _ V),dd ?_⟩;refine⟨λq2=>?_,λq2=>?_⟩
   ·(rw[bad (by rw[hd,q];simp at q2;simp[q2])]);exact zaW
   refine zad ?_
   refine .inl ⟨rfl,?_,λj hj=>?_⟩
   .rw[zw aw];exact cE 2
   .by_cases e:j=k
    .subst e;rw[hd,h5,q];simp at q2;simp[q2]
    .exact hr j aw
 have hv0:(List.range w.ze.length).all (Ba w)=true:=by
  rw[gE]
  exactλi hi=>hr i (aq hi)
 have g2:xa w=(List.range w.zc.length).all (og w):=by rw[g1,hv0];rfl
 refine uD ?_;rw[m3];refine qg.seq w.zc.length (λk=>(.za::.ref 0 [] 8 0 0::Bo false:: .v (.map (some b)):: .za::.za::.za::tY (jp (jp (tY (lL w.zc::I w.zc.length::I k:: .za::tY (tY ([])))))))) (λk=>[oW w,iM b (j1 qo (vv (w.zm))) (vv (w.zm)).length]) (λk=>∀j,j<k->og w j=true) ?_ aj (λk hk hr=>?_) (λhr=>?_)
 .exact cC
 .obtain⟨l,hx⟩:∃l,l=w.zc[k]:=⟨_,rfl⟩;have hx2:w.zc[k]?=some l:=by rw[gk hk,hx]
  have hg:(w.zc.map qO)[k]?=some (qO l):=by rw[gy,hx2];rfl
  have hd:og w k=(Go.Gat.fV l && decide (zT w.zc l.name=k)):=by unfold og;rw[hx2]
  have bad:og w k=false->xa w=false:=λh=>by
   have:(List.range w.zc.length).all (og w)=false:=by rw[sI];exact⟨k,aq hk,aH⟩
   rw[g2,this]
  conv=>whnf
  refine zan ?_
  refine ah (Go.Gat.FH l (hw.zc.2 l (gu hx2))) ?_;refine⟨λh5=>?_,λh5=>?_⟩
  rotate_left
  ·(rw[bad (by rw[hd,h5];rfl)]);exact zaW
  refine dd ?_;refine ah (wR w.zc l.name aw) ?_;refine⟨λh6=>?_,λh6=>?_⟩
  ·(rw[bad (by rw[hd,show decide (zT w.zc l.name=(k:Int))=false from by rw[pY];intro hh;simp[hh]at h6,sJ])]);exact zaW
  refine zad ?_
  refine .inl ⟨rfl,?_,λj hj=>?_⟩
  .rw[zw aw];exact cE 2
  .by_cases e:j=k
   .subst e;rw[hd,h5];simp at h6;simp[h6]
   .exact hr j aw
 .have hl1:(List.range w.zc.length).all (og w)=true:=by
   rw[gE]
   exactλi hi=>hr i (aq hi)
  rw[g2,hl1];exact gf
end Go.Wor
