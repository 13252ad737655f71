import Derived.Test.YtdgkfpgepoelcaaGreatSF
import Derived.Test.YtdgkfpgepoelcaaGreatSS
import Derived.Test.YtdgkfpgepoelcaaGreatST
set_option linter.all false
set_option maxRecDepth 100000
set_option maxHeartbeats 4000000
namespace Go.Wor
open Go.Ab Go.Proofs Tryz Go.Hy Go.Gat Go.Nam Go.Hos Go.Con Go.Sna
def jD(l:List rK)(n:Int):rK:=if 0<=n/\n<l.length then (l[n.toNat]?).getD [] else []
def jC(l:List r7)(n:Int):rK:=if 0<=n/\n<l.length then ((l[n.toNat]?).map (·.name)).getD [] else []
def kW(s:Sna)(r:sN):uj:=⟨jD s.zc r.listen,r.host,r.path,jC s.ze r.zn⟩
def wu(s:Sna):sj:=⟨s.zc,s.rules.map (kW s),s.ze⟩
def vX(s:Sna):Bool:=(qp (wu s)).1 == 0
structure x4(s:Sna):Prop where
 zc:s.zc.length<1000000000000/\∀x∈s.zc,x.length<4000000000000000000
 rules:s.rules.length<1000000000000/\∀r∈s.rules,r.host.length<4000000000000/\r.path.length<4000000000000
 ze:s.ze.length<1000000000000/\∀x∈s.ze,x.name.length<4000000000000000000/\x.zG.length<4000000000000000000
def x4.cfg{s:Sna}(h:x4 s):vy (wu s):=by
 refine⟨h.zc,⟨by simpa [wu] using h.rules.1,λr hr=>?_⟩,h.ze⟩;simp only[wu,dT]at hr;obtain⟨q,hq,rfl⟩:=hr;refine⟨?_,(h.rules.2 q hq).1,(h.rules.2 q hq).2,?_⟩
 .show(jD s.zc q.listen).length<_;unfold jD;split
  .cases hx:s.zc[q.listen.toNat]? with
   |none=>simp
   |some x=>exact h.zc.2 x (cZ hx)
  .simp
 .show(jC s.ze q.zn).length<_;unfold jC;split
  .cases hx:s.ze[q.zn.toNat]? with
   |none=>simp
   |some x=>exact(h.ze.2 x (cZ hx)).1
  .simp
def DG(s:Sna)(hs:x4 s):tc 184 [] [Cs s] (Cf (wu s)) []:=by
 have m1:(s.rules.map yu).length=s.rules.length:=cY ..;have m2:(s.zc.map jJ).length=s.zc.length:=cY ..;have m3:(s.ze.map qF).length=s.ze.length:=cY ..;have hl:=hs.rules.1;refine ab func184 ?_;rw[m1];refine zp.seq s.rules.length (λk=>(.za::.ref 0 [] 3 0 0:: .ref 1 [] 3 0 0:: .ref 2 [] 3 0 0:: .za::tJ (u1 s.rules::I s.rules.length::I k:: .za::.za::.za::.za::.za::tJ (jp (tJ ([])))))) (λk=>[⟨1,64,3,[xf s],0⟩,⟨1,40,3,[[.rG 1 0 [],.rG 1 0 [],.rG 1 0 []]],0⟩,⟨1,40,3,[[lT s.zc,.gl 3 4 (((s.rules.take k).map (kW s)).map jQ),lC s.ze]],0⟩,⟨4,120,4,((s.rules.take k).map (kW s)).map jQ,0⟩]) (λk=>True) ?_ trivial (λk hk hr=>?_) (λhr=>?_)
 .refine zm.trans (zm.xc 2 1 120 4 V V (.inl V) V V) ?_;exact cC
 .obtain⟨r,hx⟩:∃r,r=s.rules[k]:=⟨_,rfl⟩;have hg:(s.rules.map yu)[k]?=some (yu r):=by rw[cX,cV hk,hx];rfl
  have hlg:(((s.rules.take k).map (kW s)).map jQ).length=k:=aw
  have eg:((s.rules.take (k+1)).map (kW s)).map jQ=((s.rules.take k).map (kW s)).map jQ++[jQ (kW s r)]:=ax
  have hv:∀a b,a=jD s.zc r.listen->b=jC s.ze r.zn->jQ ⟨a,r.host,r.path,b⟩=jQ (kW s r):=λa b h1 h2=>by rw[h1,h2];rfl
  conv=>whnf
  refine zar ?_
  refine⟨λh1=>?_,λh1=>?_⟩
  rotate_left
  .refine zab ?_
   refine⟨λq1=>?_,λq1=>?_⟩;rotate_left;(focus (refine dd ?_;refine hU ?_;(refine⟨rfl,.inr V,ay,aA,dd ?_⟩);(refine .inl ⟨rfl,?_,trivial⟩);(rw[zk ah,eg,<-hv _ _ uZ tA]);exact cE 4));refine dd ?_;(rw[m3]);refine⟨λq2=>?_,λq2=>?_⟩;rotate_left;(focus (refine dd ?_;refine hU ?_;(refine⟨rfl,.inr V,ay,aA,dd ?_⟩);(refine .inl ⟨rfl,?_,trivial⟩);(rw[zk ah,eg,<-hv _ _ uZ tB]);exact cE 4));(have q3:r.zn.toNat<s.ze.length:=by simp at q1 q2;omega);(have gq:(s.ze.map qF)[r.zn.toNat]?=some (qF s.ze[r.zn.toNat]):=by rw[cX,cV q3];rfl);refine zaj ?_;(rw[zk ah,eg,<-hv _ _ uZ (by unfold jC;rw[c7 aC,cV q3])]);exact cE 4
  refine dd ?_;rw[m2];refine⟨λh2=>?_,λh2=>?_⟩
  rotate_left
  .refine zab ?_
   refine⟨λq1=>?_,λq1=>?_⟩;rotate_left;(focus (refine dd ?_;refine hU ?_;(refine⟨rfl,.inr V,ay,aA,dd ?_⟩);(refine .inl ⟨rfl,?_,trivial⟩);(rw[zk ah,eg,<-hv _ _ tC tA]);exact cE 4));refine dd ?_;(rw[m3]);refine⟨λq2=>?_,λq2=>?_⟩;rotate_left;(focus (refine dd ?_;refine hU ?_;(refine⟨rfl,.inr V,ay,aA,dd ?_⟩);(refine .inl ⟨rfl,?_,trivial⟩);(rw[zk ah,eg,<-hv _ _ tC tB]);exact cE 4));(have q3:r.zn.toNat<s.ze.length:=by simp at q1 q2;omega);(have gq:(s.ze.map qF)[r.zn.toNat]?=some (qF s.ze[r.zn.toNat]):=by rw[cX,cV q3];rfl);refine zaj ?_;(rw[zk ah,eg,<-hv _ _ tC (by unfold jC;rw[c7 aC,cV q3])]);exact cE 4
  have h3:r.listen.toNat<s.zc.length:=aD
  have gl:(s.zc.map jJ)[r.listen.toNat]?=some (jJ s.zc[r.listen.toNat]):=by rw[cX,cV h3];rfl
  refine zab ?_
  refine⟨by simp at h1;omega,_,gl,dd ?_⟩;refine⟨λq1=>?_,λq1=>?_⟩;rotate_left;(focus (refine dd ?_;refine hU ?_;(refine⟨rfl,.inr V,ay,aA,dd ?_⟩);(refine .inl ⟨rfl,?_,trivial⟩);(rw[zk ah,eg,<-hv _ _ (by unfold jD;rw[c7 aD,cV h3]) tA]);exact cE 4));refine dd ?_;(rw[m3]);refine⟨λq2=>?_,λq2=>?_⟩;rotate_left;(focus (refine dd ?_;refine hU ?_;(refine⟨rfl,.inr V,ay,aA,dd ?_⟩);(refine .inl ⟨rfl,?_,trivial⟩);(rw[zk ah,eg,<-hv _ _ (by unfold jD;rw[c7 aD,cV h3]) tB]);exact cE 4));(have q3:r.zn.toNat<s.ze.length:=by simp at q1 q2;omega);(have gq:(s.ze.map qF)[r.zn.toNat]?=some (qF s.ze[r.zn.toNat]):=by rw[cX,cV q3];rfl);exact zaX
 .refine uD ?_;rw[dy];exact uI
def oI(s:Sna)(hs:x4 s):tc 110 [] [Cs s] (Bo (vX s)) []:=by
 refine ab func110 ?_;refine af (DG s hs) ?_;refine af (check_sound (wu s) hs.cfg) ?_;refine⟨λh=>?_,λh=>?_⟩
 .refine dd ?_
  (exact⟨.inl V,_,.refl _,uN aE⟩)
 .refine dd ?_
  (exact⟨.inl V,_,.refl _,uN aE⟩)
end Go.Wor
namespace Go.Wor
open Go.Ab Go.Proofs Tryz Go.Hy Go.Gat Go.Nam Go.Hos Go.Con Go.Sna
open Go.Slp (yF vE)
variable{α:Type}{rows:List (List C)}
def ID{f:Nat->Int}{n:Nat}(h:(qm f n).1=0):∀j,j<n->f j=0:=λj hj=>by
 unfold qm at h;split at h
 .rename_i i hi;rw[List.find?_range_eq_some]at hi;exact absurd h (ak hi.1)
 .rename_i hn;rw[List.find?_range_eq_none]at hn;simpa using hn j hj
structure BV(x:r7):Prop where
 name:qI x.name=true
 q9:x.q9=1\/x.q9=2
 xd:1<=x.xd/\x.xd<=4
 zG:1<=x.zG.length/\x.zG.length<=4
structure Jq(s:Sna):Prop where
 zc:1<=s.zc.length/\s.zc.length<=4
 rules:1<=s.rules.length/\s.rules.length<=8
 ze:1<=s.ze.length/\s.ze.length<=4
 all:∀x∈s.ze,BV x
def y4{s:Sna}(h:vX s=true):Jq s:=by
 unfold vX at h;have h:(qp (wu s)).1=0:=ak h
 unfold qp at h;split at h
 .contradiction
 rename_i h1;split at h
 .contradiction
 rename_i h2;split at h
 .contradiction
 rename_i h3;have h1:(j3 (wu s)).1=0:=ak h1
 unfold j3 at h1;split at h1
 .cases h1
 rename_i h4;have e:(wu s).zu.length=s.rules.length:=by simp[wu]
 rw[e]at h4;simp only[show(wu s).zc=s.zc from V,show(wu s).ze=s.ze from V]at h4;have b:∀n:Nat,∀m:Int,¬(decide (1<=(n:Int)) && decide ((n:Int)<=m))=false->1<=n/\(n:Int)<=m:=λn m hh=>by simp at hh;omega
 have q1:=b s.zc.length 4 λhh=>h4 (.inl (.inl hh))
 have q2:=b s.rules.length 8 λhh=>h4 (.inl (.inr hh))
 have q3:=b s.ze.length 4 λhh=>h4 (.inr hh)
 refine⟨ah,ah,ah,λx hx=>?_⟩;obtain⟨i,hi,rfl⟩:=dk.1 hx;have h5:=ID (f:=kr s.ze) (n:=s.ze.length) (Decidable.of_not_not h3) i hi;unfold kr at h5;rw[cV hi]at h5;dsimp only at h5;split at h5
 .cases h5
 rename_i p1;split at h5
 .cases h5
 split at h5
 .cases h5
 rename_i p2;split at h5
 .cases h5
 rename_i p3;split at h5
 .cases h5
 rename_i p4;refine⟨ak p1,?_,?_,?_⟩
 .by_cases a:s.ze[i].q9=1
  .exact .inl a
  .by_cases a2:s.ze[i].q9=2
   .exact .inr a2
   .exact absurd ⟨a,a2⟩ p2
 .simp at p3;omega
 .simp at p4;omega
abbrev yE(x:r7):En:=(yF x.xd).1
def G6{x:r7}(h:BV x):yF x.xd=(yE x,0):=by
 have:=h.xd;unfold yE yF;rw[c6 ah]
def tH(x:r7):Gr:=⟨0,List.replicate x.zG.length (yE x)⟩
abbrev JC:Sna:=⟨[],[],[]⟩
abbrev B5:rL:=⟨JC,[],false⟩
def eD(s:Sna):rL×Int:=if vX s then (⟨s,s.ze.map tH,false⟩,0) else (B5,1)
abbrev Cv(v:rL):C:=.agg (zw v)
abbrev tV(r:rL×Int):C:=.rO [Cv r.1,I r.2]
def oy(s:Sna)(hs:x4 s):tc 61 [] [Cs s] (tV (eD s)) []:=by
 have m1:(s.ze.map qF).length=s.ze.length:=cY ..;refine ab func61 ?_;refine af (oI s hs) ?_;refine⟨λh1=>?_,λh1=>?_⟩
 rotate_left
 .have e:eD s=(B5,1):=by unfold eD;rw[c6 (by rw[h1];decide)]
  rw[e];refine zab ?_
  exact⟨.inl V,_,zm.var 1 V V V (.cons (WC.nil 0 1) (.cons (WC.nil 0 4) (.cons (WC.nil 0 4) (.cons (WC.nil 0 2) (.cons (.refl _) .nil))))),rfl⟩
 have e:eD s=(⟨s,s.ze.map tH,false⟩,0):=by unfold eD;rw[c7 h1]
 have hg:=y4 h1;rw[e];refine zab ?_
 rw[m1];refine zp.seq s.ze.length (λk=>(.za::.ref 0 [] 3 0 0::.ref 1 [] 5 0 0::I 0::.ref 2 [] 5 0 0::tJ (.za::.za::.za::.za::(lC s.ze)::I s.ze.length::I k::tJ (tJ (tJ (tJ ([.za]))))))) (λk=>[⟨1,64,3,[xf s],0⟩,⟨1,67,5,[[.rG 1 0 [],.rG 1 0 [],.rG 1 0 [],.rG 1 0 [],Bo false]],0⟩,⟨1,67,5,[xf s++[.gl 3 2 (((s.ze.take k).map tH).map zM),Bo false]],0⟩,⟨4,71,2,((s.ze.take k).map tH).map zM,0⟩]) (λk=>True) ?_ trivial (λk hk hr=>?_) (λhr=>?_)
 .refine zm.trans (zm.xc 2 3 71 2 V V (.inl V) V V) ?_;exact cC
 .obtain⟨x,hx⟩:∃x,x=s.ze[k]:=⟨_,rfl⟩;have hgx:(s.ze.map qF)[k]?=some (qF x):=by rw[cX,cV hk,hx];rfl
  have hgood:=hg.all x uV;have hc4:=hg.ze.2;have h4:=hgood.zG.2;have hlg:(((s.ze.take k).map tH).map zM).length=k:=aw
  have eg:((s.ze.take (k+1)).map tH).map zM=((s.ze.take k).map tH).map zM++[zM (tH x)]:=ax
  have mh:(x.zG.map xe).length=x.zG.length:=cY ..
  have fs:tc 119 [] [I x.xd] (.rO [.agg (zP (yE x)),I 0]) []:=by
   have:=vE x.xd;rw[G6 hgood]at this;exact cQ
  conv=>whnf
  refine uF ?_;(refine hY hgx ?_)
  rw[mh];refine zp.seq x.zG.length (λj=>(.za::.ref 0 [] 3 0 0::.ref 1 [] 5 0 0::I 0::.ref 2 [] 5 0 0::.za::.ref 4 [] 4 0 0::.ref 5 [] 2 0 0::tJ (.za::(lC s.ze)::I s.ze.length::I k::.za::.za::.za::.za::.za::I x.zG.length::I j::tJ (tJ (tJ ([.za,.za])))))) (λj=>[⟨1,64,3,[xf s],0⟩,⟨1,67,5,[[.rG 1 0 [],.rG 1 0 [],.rG 1 0 [],.rG 1 0 [],Bo false]],0⟩,⟨1,67,5,[xf s++[.gl 3 2 (((s.ze.take k).map tH).map zM),Bo false]],0⟩,⟨4,71,2,((s.ze.take k).map tH).map zM,0⟩,oC x,⟨1,71,2,[[U 0,.gl 6 3 ((List.replicate j (yE x)).map zP)]],0⟩,⟨4,141,3,((List.replicate j (yE x)).map zP),0⟩]) (λk=>True) ?_ trivial (λj hj hr=>?_) (λhr=>?_)
  .refine zm.trans (zm.xc 5 1 141 3 V V (.inl V) V V) ?_;exact cC
  .have hle:(((List.replicate j (yE x)).map zP)).length=j:=by simp
   have ee:((List.replicate (j+1) (yE x)).map zP)=((List.replicate j (yE x)).map zP)++[zP (yE x)]:=by rw[List.replicate_succ',g4];rfl
   conv=>whnf
   refine uF ?_;refine af fs ?_;refine hU ?_
   refine⟨rfl,.inr V,by rw[hle];simp[maxLen];omega,by rw[hle];show(j+1)*40<=_;omega,dd ?_⟩;refine zat ?_;rw[zk ah,ee];exact cE 7
  .refine uD ?_;refine⟨rfl,.inr V,ay,by rw[hlg];show(k+1)*32<=_;omega,dd ?_⟩;refine zat ?_;rw[zk ah,eg];exact cE 4
 .refine uD ?_;rw[dy];exact uI
def kZ(n:Int):List (List Int)×Int:=if n<1\/8<n then ([],1) else (List.replicate n.toNat [0,0,0,0,0,0],0)
abbrev CO(r:List (List Int)×Int):C:=.rO [rZ r.1,I r.2]
def jl(c:List (List Int)):Bool:=c.all (λr=>r.length == 6) && decide (1<=c.length) && decide (c.length<=8)
def A0(h:(rows.all λr=>r.all λc=>jF c && zy c)=true):∀r∈rows,∀c∈r,jF c=true/\zy c=true:=λr hr c hc=>by
 have:=c8.1 (c8.1 h r hr) c hc;simpa using this
def shut_map{enc:α->List C}(h:∀x,(enc x).all (λc=>jF c && zy c)=true)(l:List α):∀r∈l.map enc,∀c∈r,jF c=true/\zy c=true:=
 A0 (by rw[List.all_map];exact c8.2 λx _=>h x)
def Hc{n ty sz fz:Nat}(h:∀r∈rows,∀c∈r,j9 n 9 c=true):jk n [⟨1,ty,sz,rows,fz⟩]=true:=by
 unfold jk;simp only[pn,List.all_nil,Bool.and_true];simp;exact h
def HD(a b:α){k n:Nat}(h:k<n):(List.replicate k a++List.replicate (n-k) b).set k a=List.replicate (k+1) a++List.replicate (n-(k+1)) b:=by
 rw[List.set_append_right _ _ aj];have e:n-k=(n-(k+1))+1:=ah
 simp only[List.length_replicate,gU];rw[e,pw,List.set_cons_zero,List.replicate_succ',gL]
 rfl
def HC(a b:α){k n:Nat}(h:k<n):(List.replicate k a++List.replicate (n-k) b)[k]?=some b:=by
 rw[dg aj];simp only[List.length_replicate,gU];have e:n-k=(n-(k+1))+1:=ah
 rw[e,pw]
 rfl
def De(n:Int):tc 89 [] [I n] (CO (kZ n)) []:=by
 refine ab func89 ?_;refine⟨λh1=>?_,λh1=>?_⟩
 .have e:kZ n=([],1):=by unfold kZ;rw[c7 (by simp at h1;omega)]
  rw[e];refine zab ?_
  exact cf
 refine dd ?_;refine⟨λh2=>?_,λh2=>?_⟩
 .have e:kZ n=([],1):=by unfold kZ;rw[c7 aF]
  rw[e];refine zab ?_
  exact cf
 have b1:1<=n/\n<=8:=aD
 have e:kZ n=(List.replicate n.toNat [0,0,0,0,0,0],0):=by unfold kZ;rw[c6 ah]
 rw[e];refine dd ?_;refine⟨rfl,ah,by show(24:Int)*n<=_;omega,ah,dd ?_⟩;refine zp.seq n.toNat (λk=>(I n::.za::.rG 1 0 []::I 0::.sl 0 [] 1 0 n.toNat false::tJ (.za::.za::I n.toNat::I k::tJ ([])))) (λk=>[⟨1,0,1,(List.replicate k [lU [0,0,0,0,0,0]]++List.replicate (n.toNat-k) [C.rG 1 0 []]),0⟩]) (λk=>True) ?_ trivial (λk hk hr=>?_) (λhr=>?_)
 .refine zm.trans (zm.Jz 0 V (by intro r hr c hc;rw[gW hr]at hc;rw[dC.1 hc];rfl)) ?_;exact cC
 .conv=>whnf
  refine uF ?_;refine⟨rfl,aq,by show(8:Int)*6<=_;decide,aq,dd ?_⟩;refine⟨ah,aw,dd ?_⟩;have e1:0+(k:Int).toNat=k:=aj
  rw[e1];refine⟨_,HC _ _ hk,rfl,dd ?_⟩;refine zat ?_;refine zm.trans (zm.jv 0 k 0 (r:=[.sl 1 [] 1 0 6 false]) V (by rw[df,c7 V,c7 aw];rfl) V V (.inr V) V V ?_ ?_) ?_
  .exact A0 (rows:=List.replicate 6 [U 0]) V
  .intro r hr c hc;rcases gJ hr with hr|rfl
   .rcases dU.1 hr with hr|hr <;> (rw[gW hr]at hc;rw[dC.1 hc];rfl)
   .rw[dC.1 hc];rfl
  .have e3:(List.replicate k [lU [0,0,0,0,0,0]]++List.replicate (n.toNat-k) [C.rG 1 0 []]).set k [lU [0,0,0,0,0,0]]=(List.replicate (k+1) [lU [0,0,0,0,0,0]]++List.replicate (n.toNat-(k+1)) [C.rG 1 0 []]):=HD _ _ hk;rw[List.set_set,<-e3,zk ah];refine zm.fM 1 hC V V V (Hc (rows:=(List.replicate k [lU [0,0,0,0,0,0]]++List.replicate (n.toNat-k) [C.rG 1 0 []]).set k [lU [0,0,0,0,0,0]]) λr hr c hc=>?_) V;rw[e3]at hr;rcases dU.1 hr with hr|hr <;> (rw[gW hr]at hc;rw[dC.1 hc];rfl)
 .refine uD ?_;have e4:(List.replicate n.toNat [(0:Int),0,0,0,0,0]).map zX=(List.replicate n.toNat [lU [0,0,0,0,0,0]]++List.replicate (n.toNat-n.toNat) [C.rG 1 0 []]):=by rw[List.map_replicate,gU,List.replicate_zero,gR];rfl
  have sh:∀r∈(List.replicate n.toNat [lU [0,0,0,0,0,0]]++List.replicate (n.toNat-n.toNat) [C.rG 1 0 []]),∀c∈r,jF c=true/\zy c=true:=by
   rw[gU,List.replicate_zero,gR];intro r hr c hc;rw[gW hr]at hc;rw[dC.1 hc];exact⟨rfl,rfl⟩
  refine⟨.inl V,_,zm.wI 2 V V (.inl V) aj sh,?_⟩;rw[<-e4]
  rfl
def DM(c:List (List Int))(hc:c.length<4000000000000000000):tc 107 [] [rZ c] (Bo (jl c)) []:=by
 have m1:(c.map zX).length=c.length:=cY ..;refine ab func107 ?_;rw[m1];refine zp.seq c.length (λk=>((rZ c)::.za::Bo false::.za::.za::(rZ c)::I c.length::I k::tJ ([.za,.za,.za,.za,.za,.za,.za]))) (λk=>[]) (λk=>∀j,(h:j<c.length)->j<k->(c[j].length == 6)=true) ?_ aj (λk hk hr=>?_) (λhr=>?_)
 .exact cC
 .obtain⟨x,hx⟩:∃x,x=c[k]:=⟨_,rfl⟩;have hg:(c.map zX)[k]?=some (zX x):=by rw[cX,cV hk,hx];rfl
  have mx:(x.map u7).length=x.length:=cY ..;conv=>whnf
  refine zar ?_
  rw[mx];refine⟨λh1=>?_,λh1=>?_⟩
  .have hf:c.all (λr=>r.length == 6)=false:=by
    rw[gi];exact⟨x,au,by simp at h1|-;omega⟩
   have e:jl c=false:=by unfold jl;rw[hf];rfl
   rw[e];refine zaO ?_
   exact uI
  .refine dd ?_;refine .inl ⟨rfl,?_,λj hj hjk=>?_⟩
   .exact cg
   .by_cases e:j=k
    .subst e;rw[<-hx];simp at h1|-;omega
    .exact cF
 .have ht:c.all (λr=>r.length == 6)=true:=by
   rw[c8];intro r hr';obtain⟨j,hj,rfl⟩:=dk.1 hr';exact hr j hj hj
  have e:jl c=(decide (1<=c.length) && decide (c.length<=8)):=by unfold jl;rw[ht];rfl
  rw[e];refine uD ?_;rw[m1];refine⟨λh1=>?_,λh1=>?_⟩
  .refine dd ?_;rw[m1];refine⟨λh2=>?_,λh2=>?_⟩
   .refine zab ?_
    (exact⟨.inl V,_,.refl _,uN (by symm;simp at h1 h2|-;omega)⟩)
   .refine zab ?_
    (exact⟨.inl V,_,.refl _,uN (by symm;simp at h1 h2|-;omega)⟩)
  .refine zab ?_
   (exact⟨.inl V,_,.refl _,uN (by symm;simp at h1|-;omega)⟩)
abbrev Cw(w:Wor):C:=.agg (u9 w)
abbrev ua:Wor:=⟨0,0,0,[],[],[],[],[]⟩
def I1(s:rK):rS:=⟨s,false,0,false⟩
end Go.Wor
namespace Go.Wor
open Go.Ab Go.Proofs Tryz Go.Hy Go.Gat Go.Nam Go.Hos Go.Con Go.Sna
variable{F:List (List C)}{z caps:List C}{H:zf}{f:FuncId}{l:List Int}
def wE{k n:Nat}(hF:F.length=n)(h:k<n):(F.take k++(List.replicate n z).drop k)[k]?=some z:=by
 rw[dg aw,rp,dM,pJ,c7 ah]
def wF{x:List C}{k n:Nat}(hx:F[k]?=some x)(hn:k<n):(F.take k++(List.replicate n z).drop k).set k x=F.take (k+1)++(List.replicate n z).drop (k+1):=by
 obtain⟨hk,rfl⟩:=cW.1 hx;have e1:(F.take k).length=k:=aw
 rw[List.set_append_right _ _ ah,e1,gU,List.drop_replicate,List.drop_replicate,dO hk,gL];have e2:n-k=(n-(k+1))+1:=ah
 rw[e2,pw]
 rfl
def kj{n:Nat}(hF:F.length=n):F.take n++(List.replicate n z).drop n=F:=by
 rw[gP ah,List.drop_of_length_le aj,gR]
def wy(l:List Int)(hl:l.length<1000000000):tc 266 [] [lI l] (lI l) []:=by
 cases l with
 |nil=>
  refine ab func266 ?_;refine⟨?_,?_⟩
  .refine dd ?_;exact cf
  .exact zaQ
 |cons x l=>
  have hl3:l.length+1<1000000000:=ak hl
  refine ab func266 ?_;refine zaI ?_;refine .inr ⟨.inl V,aH,aI,uH ?_⟩;exact cx
def Hv(l:List Int)(hl:l.length<1000000000):tc 303 [] [lU l] (lU l) []:=by
 cases l with
 |nil=>
  refine ab func303 ?_;refine⟨?_,?_⟩
  .refine dd ?_;exact cf
  .exact zaQ
 |cons x l=>
  have hl3:l.length+1<1000000000:=ak hl
  refine ab func303 ?_;refine zaI ?_;refine .inr ⟨.inl V,aH,aI,uH ?_⟩;exact cx
def Ht(x:rS)(l:List rS)(hl:l.length<1000000000):tc 269 [] [lL (x::l)] (.sl 0 [] 4 0 (x::l).length false) [⟨2,81,4,(x::l).map z1,0⟩]:=by
 have e:0+((l.map z1).length+1)=(x::l).length:=aj
 rw[<-e];refine zb.zJ (fn:=f269) func269 V (uH ?_);refine zaI ?_;refine .inr ⟨.inl V,aH,aT,uH ?_⟩;exact uJ
def A8(l:List rS)(hl:l.length<1000000000):tc 269 [] [lL l] (lL l) []:=by
 cases l with
 |nil=>
  refine ab func269 ?_;refine⟨?_,?_⟩
  .refine dd ?_;exact⟨.inl V,_,zm.cell 2 V (WC.nil 0 4),rfl⟩
  .refine dd ?_;refine .inr ⟨rfl,dd ?_⟩;exact⟨.inl V,_,zm.cell 2 V ((WC.none 1 4 4).trans (WC.share 1 4 [])),rfl⟩
 |cons x l=>
  have hl3:l.length+1<1000000000:=ak hl
  refine ab func269 ?_;refine zaI ?_;refine .inr ⟨.inl V,aH,aT,uH ?_⟩;exact cx
def Hu(x:rP)(l:List rP)(hl:l.length<1000000000):tc 272 [] [lR (x::l)] (.sl 0 [] 3 0 (x::l).length false) [⟨2,126,3,(x::l).map zW,0⟩]:=by
 have e:0+((l.map zW).length+1)=(x::l).length:=aj
 rw[<-e];refine zb.zJ (fn:=f272) func272 V (uH ?_);refine zaI ?_;refine .inr ⟨.inl V,aH,aY,uH ?_⟩;exact uJ
def A9(l:List rP)(hl:l.length<1000000000):tc 272 [] [lR l] (lR l) []:=by
 cases l with
 |nil=>
  refine ab func272 ?_;refine⟨?_,?_⟩
  .refine dd ?_;exact⟨.inl V,_,zm.cell 2 V (WC.nil 0 3),rfl⟩
  .refine dd ?_;refine .inr ⟨rfl,dd ?_⟩;exact⟨.inl V,_,zm.cell 2 V ((WC.none 1 3 3).trans (WC.share 1 3 [])),rfl⟩
 |cons x l=>
  have hl3:l.length+1<1000000000:=ak hl
  refine ab func272 ?_;refine zaI ?_;refine .inr ⟨.inl V,aH,aY,uH ?_⟩;exact cx
def EZ(e:En)(he:e.next.length<1000000000):tc 313 [] [.agg [],.agg (zP e)] (.agg (zP e)) []:=by
 refine ab func313 ?_;refine af (wy e.next he) ?_;exact uI
def HK(l:List En)(hl:l.length<1000000000)(hp:∀x∈l,tc 313 [] [.agg [],.agg (zP x)] (.agg (zP x)) []):tc 312 [] [lE l,.fn 313 [] [],.agg []] (.sl 0 [] 3 0 l.length false) [⟨2,141,3,l.map zP,0⟩]:=by
 have m1:(l.map zP).length=l.length:=cY ..;refine zb.zJ (fn:=f312) func312 V (uH ?_);rw[m1];refine⟨rfl,ah,by show(40:Int)*_<=_;omega,ah,dd ?_⟩;rw[m1,toNat_cast];refine zp.seq l.length (λk=>((lE l)::.fn 313 [] []::.za::.za::.za::.ref 0 [] 0 0 0::.rG 1 0 []::.sl 1 [] 3 0 l.length false::.za::.za::.za::.za::.za::(lE l)::I l.length::I k::tJ ([.za,.za,.za,.za,.za]))) (λk=>[⟨1,282,0,[[]],0⟩,⟨2,141,3,(l.map zP).take k++(List.replicate l.length [U 0,.rG 1 0 [],I 0]).drop k,0⟩]) (λk=>True) ?_ trivial (λk hk hr=>?_) (λhr=>?_)
 .exact cC
 .obtain⟨x,hx⟩:∃x,x=l[k]:=⟨_,rfl⟩;have hx2:l[k]?=some x:=by rw[cV hk,hx]
  have hg:(l.map zP)[k]?=some (zP x):=by rw[cX,hx2];rfl
  conv=>whnf
  refine zar ?_
  refine af (hp x uV) ?_;refine⟨ah,aw,dd ?_⟩;have e1:0+(k:Int).toNat=k:=aj
  rw[e1];refine⟨_,wE aj hk,rfl,dd ?_⟩;refine zat ?_;have e2:=wF (z:=[U 0,.rG 1 0 [],I 0]) (n:=l.length) hg hk;rw[zk ah,<-e2];exact cE 2
 .exact cw
def qG{r:List C}(h:r.all zy=true):∀q∈[r],∀c∈q,zy c=true:=λq hq c hc=>by
 rw[dC.1 hq]at hc;exact c8.1 h c hc
def nS(g:Gr):Prop:=g.ends.length<1000000000/\∀e∈g.ends,e.next.length<1000000000
def iM(v:rL):Prop:=v.zg.length<1000000000/\∀g∈v.zg,nS g
structure x3(w:Wor):Prop where
 pins:w.pins.length<1000000000
 zd:w.zd.length<1000000000/\∀v∈w.zd,iM v
 zc:w.zc.length<1000000000
 counts:w.counts.length<1000000000/\∀r∈w.counts,r.length<1000000000
 zi:w.zi.length<1000000000
def Ea(g:Gr)(hg:nS g):tc 302 [] [.agg [],.agg (zM g)] (.agg (zM g)) []:=by
 refine ab func302 ?_;refine ae [] (HK g.ends hg.1 λe he=>EZ e (hg.2 e he)) ?_;exact⟨.inl V,_,zm.jv 2 0 1 V V V V (.inr V) V aj (shut_map (enc:=zP) (λ_=>V) g.ends) (qG V),rfl⟩
def HL(l:List Gr)(hl:l.length<1000000000)(hp:∀x∈l,tc 302 [] [.agg [],.agg (zM x)] (.agg (zM x)) []):tc 301 [] [lG l,.fn 302 [] [],.agg []] (.sl 0 [] 2 0 l.length false) [⟨2,71,2,l.map zM,0⟩]:=by
 have m1:(l.map zM).length=l.length:=cY ..;refine zb.zJ (fn:=f301) func301 V (uH ?_);rw[m1];refine⟨rfl,ah,by show(32:Int)*_<=_;omega,ah,dd ?_⟩;rw[m1,toNat_cast];refine zp.seq l.length (λk=>((lG l)::.fn 302 [] []::.za::.za::.za::.ref 0 [] 0 0 0::.rG 1 0 []::.sl 1 [] 2 0 l.length false::.za::.za::.za::.za::.za::(lG l)::I l.length::I k::tJ ([.za,.za,.za,.za,.za]))) (λk=>[⟨1,282,0,[[]],0⟩,⟨2,71,2,(l.map zM).take k++(List.replicate l.length ([U 0,.rG 1 0 []]:List C)).drop k,0⟩]) (λk=>True) ?_ trivial (λk hk hr=>?_) (λhr=>?_)
 .exact cC
 .obtain⟨x,hx⟩:∃x,x=l[k]:=⟨_,rfl⟩;have hx2:l[k]?=some x:=by rw[cV hk,hx]
  have hg:(l.map zM)[k]?=some (zM x):=by rw[cX,hx2];rfl
  conv=>whnf
  refine zar ?_
  refine af (hp x uV) ?_;refine⟨ah,aw,dd ?_⟩;have e1:0+(k:Int).toNat=k:=aj
  rw[e1];refine⟨_,wE aj hk,rfl,dd ?_⟩;refine zat ?_;have e2:=wF (z:=([U 0,.rG 1 0 []]:List C)) (n:=l.length) hg hk;rw[zk ah,<-e2];exact cE 2
 .exact cw
def yl(v:rL)(hv:iM v):tc 268 [] [.agg [],.agg (zw v)] (.agg (zw v)) []:=by
 refine ab func268 ?_;refine ae [] (HL v.zg hv.1 λg hg=>Ea g (hv.2 g hg)) ?_;exact⟨.inl V,_,zm.jv 2 0 3 V V V V (.inr V) V aj (shut_map (enc:=zM) (λ_=>V) v.zg) (qG V),rfl⟩
def mH(l:List rL)(hl:l.length<1000000000)(hp:∀x∈l,tc 268 [] [.agg [],.agg (zw x)] (.agg (zw x)) []):tc 267 [] [lV l,.fn 268 [] [],.agg []] (.sl 0 [] 5 0 l.length false) [⟨2,67,5,l.map zw,0⟩]:=by
 have m1:(l.map zw).length=l.length:=cY ..;refine zb.zJ (fn:=f267) func267 V (uH ?_);rw[m1];refine⟨rfl,ah,by show(104:Int)*_<=_;omega,ah,dd ?_⟩;rw[m1,toNat_cast];refine zp.seq l.length (λk=>((lV l)::.fn 268 [] []::.za::.za::.za::.ref 0 [] 0 0 0::.rG 1 0 []::.sl 1 [] 5 0 l.length false::.za::.za::.za::.za::.za::(lV l)::I l.length::I k::tJ ([.za,.za,.za,.za,.za]))) (λk=>[⟨1,282,0,[[]],0⟩,⟨2,67,5,(l.map zw).take k++(List.replicate l.length ([.rG 1 0 [],.rG 1 0 [],.rG 1 0 [],.rG 1 0 [],Bo false]:List C)).drop k,0⟩]) (λk=>True) ?_ trivial (λk hk hr=>?_) (λhr=>?_)
 .exact cC
 .obtain⟨x,hx⟩:∃x,x=l[k]:=⟨_,rfl⟩;have hx2:l[k]?=some x:=by rw[cV hk,hx]
  have hg:(l.map zw)[k]?=some (zw x):=by rw[cX,hx2];rfl
  conv=>whnf
  refine zar ?_
  refine af (hp x uV) ?_;refine⟨ah,aw,dd ?_⟩;have e1:0+(k:Int).toNat=k:=aj
  rw[e1];refine⟨_,wE aj hk,rfl,dd ?_⟩;refine zat ?_;have e2:=wF (z:=([.rG 1 0 [],.rG 1 0 [],.rG 1 0 [],.rG 1 0 [],Bo false]:List C)) (n:=l.length) hg hk;rw[zk ah,<-e2];exact cE 2
 .exact cw
def kX(r:List Int)(hr:r.length<1000000000):tc 271 [] [.agg [],lU r] (lU r) []:=by
 refine ab func271 ?_;refine af (Hv r hr) ?_;exact uI
def jq{x:Ob}(h1:jf [x]=true)(h2:jf H=true):jf (x::H)=true:=by
 unfold jf at *;simp only[pn,List.all_nil,Bool.and_true] at *;rw[h1,h2];rfl
def lW{ty sz fz:Nat}{rows:List (List C)}(h:∀r∈rows,∀c∈r,zy c=true):jf [⟨1,ty,sz,rows,fz⟩]=true:=by
 unfold jf;simp only[pn,List.all_nil,Bool.and_true];rw[c8]
 exactλr hr=>c8.2 λc hc=>h r hr c hc
structure Jr(g0:Gr)(e:Nat)(e0:En):Prop where
 sm:nS g0
 at_:g0.ends[e]?=some e0
 ne:e0.next≠[]
structure Js(v0:rL)(g:Nat)(g0:Gr)(e:Nat)(e0:En):Prop extends Jr g0 e e0 where
 JS:iM v0
 sG:v0.zg[g]?=some g0
structure JX(vs:List rL)(v:Nat)(v0:rL)(g:Nat)(g0:Gr)(e:Nat)(e0:En):Prop extends Js v0 g g0 e e0 where
 J6:vs.length<1000000000/\∀v∈vs,iM v
 sC:vs[v]?=some v0
def mG(l:List (List Int))(hl:l.length<1000000000)(hp:∀x∈l,tc 271 [] [.agg [],lU x] (lU x) []):tc 270 [] [rZ l,.fn 271 [] [],.agg []] (.sl 0 [] 1 0 l.length false) [⟨2,121,1,l.map zX,0⟩]:=by
 have m1:(l.map zX).length=l.length:=cY ..;refine zb.zJ (fn:=f270) func270 V (uH ?_);rw[m1];refine⟨rfl,ah,by show(24:Int)*_<=_;omega,ah,dd ?_⟩;rw[m1,toNat_cast];refine zp.seq l.length (λk=>((rZ l)::.fn 271 [] []::.za::.za::.za::.ref 0 [] 0 0 0::.rG 1 0 []::.sl 1 [] 1 0 l.length false::.za::.za::.za::.za::.za::(rZ l)::I l.length::I k::tJ ([.za,.za,.za,.za,.za]))) (λk=>[⟨1,282,0,[[]],0⟩,⟨2,121,1,(l.map zX).take k++(List.replicate l.length ([.rG 1 0 []]:List C)).drop k,0⟩]) (λk=>True) ?_ trivial (λk hk hr=>?_) (λhr=>?_)
 .exact cC
 .obtain⟨x,hx⟩:∃x,x=l[k]:=⟨_,rfl⟩;have hx2:l[k]?=some x:=by rw[cV hk,hx]
  have hg:(l.map zX)[k]?=some (zX x):=by rw[cX,hx2];rfl
  conv=>whnf
  refine zar ?_
  refine af (hp x uV) ?_;refine⟨ah,aw,dd ?_⟩;have e1:0+(k:Int).toNat=k:=aj
  rw[e1];refine⟨_,wE aj hk,rfl,dd ?_⟩;refine zat ?_;have e2:=wF (z:=([.rG 1 0 []]:List C)) (n:=l.length) hg hk;rw[zk ah,<-e2];exact cE 2
 .exact cw
def iH{P:Program}{fn:Func}{c:Code}{H2:zf}{args:List C}{r:C}(hf:P.funcs[f]?=some fn)(hb:fn.body=some c)
 (h:wpA P 0 c (entry fn args) [] λex t1 H1=>(ex=.ret\/ex=.normal)/\∃s2 r1,zm 0 ⟨t1,H1⟩ s2/\yJ P fn s2=some r1/\zm 0 ⟨[r1],s2.H⟩ ⟨[r],H2⟩):zb P f [] args r H2:=λw E vs hh hl=>by
 have h1:ql P f [] args λr1 H1=>zm 0 ⟨[r1],H1⟩ ⟨[r],H2⟩:=ql.zJ hf hb h
 refine(h1 w E vs hh hl).mono ?_;rintro e w' ⟨r1,H1,v,E',hw,h0,h2,h3,g⟩;obtain⟨E2,hs,g2⟩:=hw 0 w' E' ⟨#[v],[]⟩ ⟨h2,LL.one h3,dA _,dA _⟩;have hn2:=hs.heap.n;have hn0:E.n=0:=hh.n;refine⟨v,E2,h0,hs.heap,hs.tmps.cons_inv.1,⟨⟨by rw[hn0];exact dA _,λid hops hi=>by rw[hn0]at hi;omega,λid hops hi=>by rw[hn0]at hi;omega,λb o u hu=>g2.le.St _ _ _ (g.le.St _ _ _ hu),λid k u hi hu=>by rw[hn0]at hi;omega⟩,g2.os.trans g.os,g2.tape.trans g.tape,g2.output.trans g.output,dK g.size g2.size,?_,?_,?_⟩⟩
 .intro k hk ho;exact cH
 .intro b o u hu;rcases g2.qB b o u hu with h1|h1|h1
  .exact g.qB b o u h1
  .exact .inr (.inl (dK g.size h1))
  .rcases g.own b h1 with h4|h4
   .exact .inr (.inl h4)
   .exact .inr (.inr h4)
 .intro b hb;rcases g2.own b hb with h1|h1
  .exact .inl (dK g.size h1)
  .exact g.own b h1
def oz(w:Wor)(h:x3 w):tc 218 [] [Cw w] (Cw w) []:=by
 refine ab func218 ?_;refine zaK ?_;refine af (A9 w.zi h.zi) ?_;exact⟨.inl V,_,(zm.jv 1 0 4 V V V V (.inr V) V aj (shut_map (enc:=zw) (λ_=>V) w.zd) (qG V)).trans (zm.jv 1 0 6 V V V V (.inr V) V aj (shut_map (enc:=zX) (λ_=>V) w.counts) (qG V)),rfl⟩
structure JW(cs:List (List Int))(t:Nat)(r0:List Int):Prop where
 sm:cs.length<1000000000/\∀r∈cs,r.length<1000000000
 at_:cs[t]?=some r0
 ne:r0≠[]
def Bh{B:Nat}(sel m:List Nat){t t2:List C}{H2:zf}(hB:eO B 0 sel=true)(zF:sel.all (λid=>Nat.blt id H.length)=true)(r9:xl sel=true)(r6:jf H=true)(et:(tZ m 0 t).map (xa sel 9)=t2)(e:jT sel H=H2):zm B ⟨t,H⟩ ⟨t2,H2⟩:=by
 subst et e;exact zm.rJ sel m t H hB zF r9 r6
def DE(w:Wor)(h:x3 w)(x:rS)(l:List rS)(hx:w.zc=x::l):tc 218 [] [Cw w] (.agg (tG 0 w)) [⟨2,81,4,w.zc.map z1,0⟩]:=by
 have hl:l.length<1000000000:=by have:=h.zc;rw[hx]at this;exact cN
 have hc:=Ht x l hl;rw[<-hx]at hc;refine iH (fn:=f218) func218 V (uH ?_);refine af (wy w.pins h.pins) ?_;refine ae [] (mH w.zd h.zd.1 λv hv=>yl v (h.zd.2 v hv)) ?_;refine ae [] (hc) ?_;refine ae [] (mG w.counts h.counts.1 λr hr=>kX r (h.counts.2 r hr)) ?_;refine af (A9 w.zi h.zi) ?_;refine⟨.inl V,_,_,(zm.jv 1 0 4 V V V V (.inr V) V aj (shut_map (enc:=zw) (λ_=>V) w.zd) (qG V)).trans (zm.jv 1 0 6 V V V V (.inr V) V aj (shut_map (enc:=zX) (λ_=>V) w.counts) (qG V)),rfl,?_⟩;exact zm.rJ [4] [0] _ _ V V V (jq V (jq V (jq V (jq (lW λr hr c hc=>((shut_map (enc:=zw) (λ_=>V) w.zd) r hr c hc).2) (jq V (lW λr hr c hc=>((shut_map (enc:=zX) (λ_=>V) w.counts) r hr c hc).2))))))
def r5(i n:Int):Bool:=decide (0<=i) && decide (i<n)
def x9(i n:Int):tc 251 [] [I i,I n] (Bo (r5 i n)) []:=by
 refine ab func251 ?_;refine⟨λh1=>?_,λh1=>?_⟩
 .refine dd ?_;refine⟨λh2=>?_,λh2=>?_⟩
  .refine dd ?_
   (exact⟨.inl V,_,.refl _,uN (by unfold r5;simp at h1 h2|-;omega)⟩)
  .refine dd ?_
   (exact⟨.inl V,_,.refl _,uN (by unfold r5;simp at h1 h2|-;omega)⟩)
 .refine dd ?_
  (exact⟨.inl V,_,.refl _,uN (by unfold r5;simp at h1|-;omega)⟩)
def Fe(p:Int->Bool)(hcb:zC prog f=true)(hp:∀r∈l,tc f H ([I r]++caps) (Bo (p r)) H)(hl:l.length<4611686018427387904):
  tc 153 H [lI l,.fn f [] caps] (I (match l.findIdx? p with|some i=>(i:Int)|none=> -1)) H:=by
 refine zb.zJ (fn:=f153) func153 V (uH ?_)
 refine zp.inv (λn t1 H1=>∃k,k+n=l.length/\H1=H/\(∀j,j<k->∀r,l[j]?=some r->p r=false)/\
   t1=((lI l)::.fn f [] caps::.za::.za::I 0::.za::.za::I (l.map encI).length::I k::tJ ([.za,.za]))) l.length ?_ ?_
 .exact bZ
 rintro n _ _ ⟨k,hk,rfl,hno,rfl⟩;conv=>whnf
 refine⟨λh=>?_,λh=>?_⟩
 .conv=>whnf
  have rF:k<l.length:=ak h
  refine⟨ah,encI l[k],al,uH ?_⟩;rw[hcb];refine⟨_,_,hp _ (dn rF),uH ?_⟩;refine⟨λh2=>?_,λh2=>?_⟩
  .conv=>whnf
   refine zae ?_
   have:l.findIdx? p=some k:=by
    rw[dh];refine⟨rF,h2,λj hj=>?_⟩;simp[hno j hj _ (cV ah)]
   rw[this]
   rfl
  .conv=>whnf
   refine .inl ⟨rfl,n-1,_,_,ah,zm.mask [0,1,4,7,8] _ _,k+1,ah,rfl,?_,?_⟩
   .intro j hj r hr;by_cases hjk:j=k
    .subst hjk;rw[cV rF]at hr;cases hr
     exact h2
    .exact cS
   .rw[zk ah];rfl
 .conv=>whnf
  refine zae ?_
  have:l.findIdx? p=none:=by
   rw[dt];intro x hx;obtain⟨j,hj⟩:=di.1 hx;have hjl:=(cW.1 hj).1;have:¬k<l.length:=ak h
   exact cR
  rw[this]
  rfl
def oU(p:Int->Bool)(hcb:zC prog f=true)(hp:∀r∈l,tc f H ([I r]++caps) (Bo (p r)) H)(hl:l.length<4611686018427387904):
  tc 84 H [lI l,.fn f [] caps] (Bo (l.any p)) H:=by
 refine zb.zJ (fn:=f84) func84 V (uH ?_);refine⟨_,_,Fe p hcb hp hl,dd ?_⟩;refine zak ?_;refine⟨λh=>?_,λh=>?_⟩ <;> rw[h]
 .exact cA
 .exact cA
def Fc{l:List En}(p:En->Bool)(hcb:zC prog f=true)(hp:∀r∈l,tc f H ([Go.Slp.Ev r]++caps) (Bo (p r)) H)(hl:l.length<4611686018427387904):
  tc 185 H [lE l,.fn f [] caps] (I (match l.findIdx? p with|some i=>(i:Int)|none=> -1)) H:=by
 refine zb.zJ (fn:=f185) func185 V (uH ?_)
 refine zp.inv (λn t1 H1=>∃k,k+n=l.length/\H1=H/\(∀j,j<k->∀r,l[j]?=some r->p r=false)/\
   t1=((lE l)::.fn f [] caps::.za::.za::I 0::.za::.za::I (l.map zP).length::I k::tJ ([.za,.za]))) l.length ?_ ?_
 .exact bZ
 rintro n _ _ ⟨k,hk,rfl,hno,rfl⟩;conv=>whnf
 refine⟨λh=>?_,λh=>?_⟩
 .conv=>whnf
  have rF:k<l.length:=ak h
  refine⟨ah,zP l[k],al,uH ?_⟩;rw[hcb];refine⟨_,_,hp _ (dn rF),uH ?_⟩;refine⟨λh2=>?_,λh2=>?_⟩
  .conv=>whnf
   refine zae ?_
   have:l.findIdx? p=some k:=by
    rw[dh];refine⟨rF,h2,λj hj=>?_⟩;simp[hno j hj _ (cV ah)]
   rw[this]
   rfl
  .conv=>whnf
   refine .inl ⟨rfl,n-1,_,_,ah,zm.mask [0,1,4,7,8] _ _,k+1,ah,rfl,?_,?_⟩
   .intro j hj r hr;by_cases hjk:j=k
    .subst hjk;rw[cV rF]at hr;cases hr
     exact h2
    .exact cS
   .rw[zk ah];rfl
 .conv=>whnf
  refine zae ?_
  have:l.findIdx? p=none:=by
   rw[dt];intro x hx;obtain⟨j,hj⟩:=di.1 hx;have hjl:=(cW.1 hj).1;have:¬k<l.length:=ak h
   exact cR
  rw[this]
  rfl
def oT{l:List En}(p:En->Bool)(hcb:zC prog f=true)(hp:∀r∈l,tc f H ([Go.Slp.Ev r]++caps) (Bo (p r)) H)(hl:l.length<4611686018427387904):
  tc 112 H [lE l,.fn f [] caps] (Bo (l.any p)) H:=by
 refine zb.zJ (fn:=f112) func112 V (uH ?_);refine⟨_,_,Fc p hcb hp hl,dd ?_⟩;refine zak ?_;refine⟨λh=>?_,λh=>?_⟩ <;> rw[h]
 .exact cA
 .exact cA
def yH(ep p:Int):Bool:=decide (p<0) || decide (p > ep+1)
def Dj(w:Wor)(p:Int)(h0:0<=w.zl)(h1:w.zl<=1000000000000):tc 108 [oW w] ([I p]++[.ref 0 [] 8 0 0]) (Bo (yH w.zl p)) [oW w]:=by
 have e:IntKind.i64.wrap (w.zl+1)=w.zl+1:=z7 ah ah;refine zb.zJ (fn:=f108) func108 V (uH ?_);refine⟨λh2=>?_,λh2=>?_⟩
 .refine dd ?_;exact⟨.inl V,_,.refl _,rfl,uN (by unfold yH;rw[h2];rfl)⟩
 .refine dd ?_;rw[e];refine⟨λh3=>?_,λh3=>?_⟩
  .refine dd ?_;exact⟨.inl V,_,.refl _,rfl,uN (by unfold yH;rw[h2,h3];rfl)⟩
  .refine dd ?_;exact⟨.inl V,_,.refl _,rfl,uN (by unfold yH;rw[h2,h3];rfl)⟩
def qn(w:Wor):Bool:=decide (1<=w.pins.length) && decide (w.pins.length<=8) && decide (w.counts.length=w.pins.length) && jl w.counts && decide (0<=w.zl) && decide (w.zl<=1000000000000) && (decide (w.lock=0) || decide (w.lock=1)) && !w.pins.any (yH w.zl)
def D9(w:Wor)(hp:w.pins.length<4000000000000000000)(hc:w.counts.length<4000000000000000000):tc 54 [] [Cw w] (Bo (qn w)) []:=by
 have m1:(w.pins.map encI).length=w.pins.length:=cY ..;have m2:(w.counts.map zX).length=w.counts.length:=cY ..;refine ab func54 ?_;rw[m1];refine⟨λh1=>?_,λh1=>?_⟩
 ·(have e:qn w=false:=by (unfold qn;(rw[show decide (1<=w.pins.length)=false from by rw[dz];have:=dq h1;omega]);simp));exact bW
 refine dd ?_;refine⟨λh2=>?_,λh2=>?_⟩
 ·(have e:qn w=false:=by (unfold qn;(rw[show decide (w.pins.length<=8)=false from bT]);simp));exact bW
 refine dd ?_;rw[m2];refine⟨λh3=>?_,λh3=>?_⟩
 ·(have e:qn w=false:=by (unfold qn;(rw[show decide (w.counts.length=w.pins.length)=false from by rw[dz];intro hh;simp[hh]at h3]);simp));exact bW
 refine dd ?_;refine af (DM w.counts hc) ?_;refine⟨λh4=>?_,λh4=>?_⟩
 rotate_left
 ·(have e:qn w=false:=by (unfold qn;(rw[h4]);simp));exact bW
 refine dd ?_;refine⟨λh5=>?_,λh5=>?_⟩
 ·(have e:qn w=false:=by (unfold qn;(rw[show decide (0<=w.zl)=false from by simp at h5|-;omega]);simp));exact bW
 refine dd ?_;refine⟨λh6=>?_,λh6=>?_⟩
 ·(have e:qn w=false:=by (unfold qn;(rw[show decide (w.zl<=1000000000000)=false from by simp at h6|-;omega]);simp));exact bW
 refine dd ?_;have b0:0<=w.zl:=by simp at h5;omega
 have b1:w.zl<=1000000000000:=by simp at h6;omega
 have hcon:=oU (H:=[oW w]) (f:=108) (l:=w.pins) (caps:=[.ref 0 [] 8 0 0]) (yH w.zl) an (λr _=>Dj w r b0 b1) ah
 have g0:qn w=((decide (w.lock=0) || decide (w.lock=1)) && !w.pins.any (yH w.zl)):=by
  have h3':w.counts.length=w.pins.length:=by simp at h3;omega
  unfold qn;rw[show decide (1<=w.pins.length)=true from by rw[decide_eq_true_iff];have:=dp h1;omega,show decide (w.pins.length<=8)=true from bT,show decide (w.counts.length=w.pins.length)=true from ak h3',h4,show decide (0<=w.zl)=true from ak b0,show decide (w.zl<=1000000000000)=true from ak b1]
  rfl
 have fin:∀hl:(decide (w.lock=0) || decide (w.lock=1))=true,qn w=!w.pins.any (yH w.zl):=λhl=>by rw[g0,hl];rfl
 refine⟨λh7=>?_,λh7=>?_⟩
 .refine dd ?_;refine⟨λh8=>?_,λh8=>?_⟩
  .have e:qn w=false:=by rw[g0,show(decide (w.lock=0) || decide (w.lock=1))=false from by simp at h7 h8|-;omega];rfl
   rw[e];refine zab ?_
   exact uI
  rw[fin (by simp at h8|-;omega)];refine zab ?_
  refine ae [0] (hcon) ?_;refine⟨λh9=>?_,λh9=>?_⟩
  .refine dd ?_
   (exact⟨.inl V,_,.refl _,uN (by rw[h9];rfl)⟩)
  .refine dd ?_
   (exact⟨.inl V,_,.refl _,uN (by rw[h9];rfl)⟩)
 .rw[fin (by simp at h7|-;omega)];refine zab ?_
  refine ae [0] (hcon) ?_;refine⟨λh9=>?_,λh9=>?_⟩
  .refine dd ?_
   (exact⟨.inl V,_,.refl _,uN (by rw[h9];rfl)⟩)
  .refine dd ?_
   (exact⟨.inl V,_,.refl _,uN (by rw[h9];rfl)⟩)
def jz(x:r7)(e:En):Bool:=!Go.Slp.rR e || (e.next.length:Int) != x.xd
def Df(x:r7)(e:En)(he:e.ok):tc 111 [oC x] ([Go.Slp.Ev e]++[.ref 0 [] 4 0 0]) (Bo (jz x e)) [oC x]:=by
 have m1:(e.next.map encI).length=e.next.length:=cY ..;refine zb.zJ (fn:=f111) func111 V (uH ?_);refine af (Go.Slp.vJ e he) ?_;refine⟨λh1=>?_,λh1=>?_⟩
 rotate_left
 .refine dd ?_;exact⟨.inl V,_,zm.keep [3] 1 _ _ V V V V,rfl,uN (by unfold jz;rw[h1];rfl)⟩
 .refine dd ?_;rw[m1];refine⟨λh2=>?_,λh2=>?_⟩
  .refine dd ?_;exact⟨.inl V,_,zm.keep [3] 1 _ _ V V V V,rfl,uN (by unfold jz;rw[h1,h2];rfl)⟩
  .refine dd ?_;exact⟨.inl V,_,zm.keep [3] 1 _ _ V V V V,rfl,uN (by unfold jz;rw[h1,h2];rfl)⟩
structure lb(v:rL):Prop where
 snap:x4 v.snap
 zg:v.zg.length<1000000000000
 ends : ∀g∈v.zg, g.ends.length<1000000000000 /\ ∀e∈g.ends, e.ok
def xL(v:rL)(i:Nat):Bool:=match v.zg[i]?,v.snap.ze[i]? with
 |some g,some x=>decide (g.ends.length=x.zG.length) && !g.ends.any (jz x)
 |_,_=>true
def xN(v:rL):Bool:=vX v.snap && decide (v.zg.length=v.snap.ze.length) && (List.range v.zg.length).all (xL v)
def DN(v:rL)(hv:lb v):tc 56 [] [Cv v] (Bo (xN v)) []:=by
 have m1:(v.zg.map zM).length=v.zg.length:=cY ..;have m2:(v.snap.ze.map qF).length=v.snap.ze.length:=cY ..;have hgl:=hv.zg;refine ab func56 ?_;refine af (oI v.snap hv.snap) ?_;refine⟨λh1=>?_,λh1=>?_⟩
 rotate_left
 .have e:xN v=false:=by unfold xN;rw[h1];rfl
  rw[e];refine zab ?_
  exact uI
 refine dd ?_;rw[m1,m2];refine⟨λh2=>?_,λh2=>?_⟩
 .have e:xN v=false:=by unfold xN;rw[show decide (v.zg.length=v.snap.ze.length)=false from by rw[dz];intro hh;simp[hh]at h2,gT];rfl
  rw[e];refine zab ?_
  exact uI
 have h2':v.zg.length=v.snap.ze.length:=aF
 refine zab ?_
 rw[m1];refine zp.seq v.zg.length (λk=>(.za::.ref 0 [] 5 0 0::Bo false::tJ (tJ (.za::.za::.za::(lG v.zg)::I v.zg.length::I k::tJ (tJ (tJ ([.za]))))))) (λk=>[⟨1,67,5,[zw v],0⟩]) (λk=>∀j,j<k->xL v j=true) ?_ aj (λk hk hr=>?_) (λhr=>?_)
 .exact cC
 .obtain⟨g,hg⟩:∃g,g=v.zg[k]:=⟨_,rfl⟩;obtain⟨x,hx⟩:∃x,x=v.snap.ze[k]'ah:=⟨_,rfl⟩;have gg:(v.zg.map zM)[k]?=some (zM g):=by rw[cX,cV hk,hg];rfl
  have gx:(v.snap.ze.map qF)[k]?=some (qF x):=by rw[cX,cV ah,hx];rfl
  have hgm:g∈v.zg:=by rw[hg];exact dn hk
  have me:(g.ends.map zP).length=g.ends.length:=cY ..;have mh:(x.zG.map xe).length=x.zG.length:=cY ..
  have hd:xL v k=(decide (g.ends.length=x.zG.length) && !g.ends.any (jz x)):=by
   unfold xL;rw[cV hk,cV ah,<-hg,<-hx]
  have bad:xL v k=false->xN v=false:=λh=>by
   have:(List.range v.zg.length).all (xL v)=false:=by rw[gi];exact⟨k,ak hk,aG⟩
   unfold xN;rw[this,gT]
  have hcon:=oT (H:=[oC x]) (f:=111) (l:=g.ends) (caps:=[.ref 0 [] 4 0 0]) (jz x) an (λr hr=>Df x r ((hv.ends g hgm).2 r hr)) (by have:=(hv.ends g hgm).1;omega);conv=>whnf
  refine uF ?_;(refine hY gg ?_)
  (refine hY gx ?_)
  rw[me,mh];refine⟨λh3=>?_,λh3=>?_⟩
  .rw[bad (by rw[hd,show decide (g.ends.length=x.zG.length)=false from by rw[dz];intro hh;simp[hh]at h3];rfl)];refine zab ?_
   refine zad ?_
   exact uI
  refine dd ?_;refine ae [2] (hcon) ?_;refine⟨λh4=>?_,λh4=>?_⟩
  .rw[bad (by rw[hd,h4,pM,gT])];refine zab ?_
   refine zad ?_
   exact uI
  refine zab ?_
  refine .inl ⟨rfl,?_,λj hj=>?_⟩
  .exact cq
  .by_cases e:j=k
   .subst e;rw[hd,h4];simp at h3|-;omega
   .exact hr j ah
 .have e:xN v=true:=by
   unfold xN;rw[h1,show decide (v.zg.length=v.snap.ze.length)=true from ak h2',Bool.true_and,Bool.true_and,c8]
   exactλi hi=>hr i (ak hi)
  rw[e];exact cU
def jK(l:List rP):List (Int×Value):=l.foldl (λm r=>vv m r.version (Value.bool r.gone)) []
def jW(l:List rP)(i:Int):Bool:=match ((qL (jK l) i).bind λj=>((jK l)[j]?).map (·.2):Option Value) with
 |some (.bool b)=>b
 |_=>false
def Gs{m:List (Int×Value)}(h:∀kv∈m,∃b,kv.2=Value.bool b)(k:Int)(b:Bool):∀kv∈vv m k (Value.bool b),∃b,kv.2=Value.bool b:=λkv hm=>by
 unfold vv at hm;split at hm
 .rcases gJ hm with hm|rfl
  .exact h kv hm
  .exact⟨b,rfl⟩
 .rcases dU.1 hm with hm|hm
  .exact h kv hm
  .rw[dC.1 hm];exact⟨b,rfl⟩
def E8(l:List rP):∀kv∈jK l,∃b,kv.2=Value.bool b:=by
 unfold jK
 suffices key:∀(l:List rP) (m:List (Int×Value)),(∀kv∈m,∃b,kv.2=Value.bool b)->∀kv∈l.foldl (λm r=>vv m r.version (Value.bool r.gone)) m,∃b,kv.2=Value.bool b from key l [] aj
 intro l
 induction l with
 |nil=>intro m h;exact h
 |cons r l ih=>intro m h;exact ih _ (Gs h _ _)
def G8(l:List rP)(i:Int):(((qL (jK l) i).bind λj=>((jK l)[j]?).map (·.2)).getD (Value.bool false))=Value.bool (jW l i):=by
 unfold jW;cases h:(qL (jK l) i).bind λj=>((jK l)[j]?).map (·.2) with
 |none=>rfl
 |some v=>
  obtain⟨j,_,hj⟩:=dP.1 h;obtain⟨kv,h1,rfl⟩:=gh.1 hj;obtain⟨b,hb⟩:=E8 l kv (cZ h1);simp only[dL];rw[hb]
def GU(l:List rP){k:Nat}{r:rP}(h:l[k]?=some r):jK (l.take (k+1))=vv (jK (l.take k)) r.version (Value.bool r.gone):=by
 obtain⟨hk,rfl⟩:=cW.1 h;unfold jK;rw[dO hk,List.foldl_append]
 rfl
structure so(w:Wor):Prop where
 pins:w.pins.length<1000000000000
 zd:w.zd.length<1000000000000/\∀v∈w.zd,lb v
 zc:w.zc.length<1000000000000/\∀l∈w.zc,l.ok
 counts:w.counts.length<1000000000000/\∀r∈w.counts,r.length<1000000000000
 zi:w.zi.length<1000000000000
def jA(w:Wor)(r:rP):Bool:=decide (r.version≥(w.zd.length:Int)) || r.version == w.current || decide (r.at_ > w.zl)
def v7(w:Wor)(i:Nat):Bool:=match w.zd[i]? with
 |some v=>xN v && (v.qQ == jW w.zi i)
 |none=>true
def vi(w:Wor)(i:Nat):Bool:=match w.zc[i]? with
 |some l=>Go.Gat.rR l && decide (qy w.zc l.name=i)
 |none=>true
def qf(w:Wor):Bool:=qn w && (decide (0<=w.current) && decide (w.current<w.zd.length)) && Go.Lim.rR w.zi && !w.zi.any (jA w) && (List.range w.zd.length).all (v7 w) && (List.range w.zc.length).all (vi w)
def kK(w:Wor)(hw:so w):tc 23 [] [Cw w] (Bo (qf w)) []:=by
 have m1:(w.zd.map zw).length=w.zd.length:=cY ..;have m2:(w.zi.map zW).length=w.zi.length:=cY ..;have m3:(w.zc.map z1).length=w.zc.length:=cY ..;have b1:=hw.pins;have b2:=hw.zd.1;have b3:=hw.zc.1;have b4:=hw.counts.1;have b5:=hw.zi;refine ab func23 ?_;refine af (D9 w ah ah) ?_;refine⟨λh1=>?_,λh1=>?_⟩
 rotate_left
 ·(have e:qf w=false:=by (unfold qf;(rw[h1]);simp));exact bW
 refine dd ?_;refine⟨λh2=>?_,λh2=>?_⟩
 ·(have e:qf w=false:=by (unfold qf;(rw[show decide (0<=w.current)=false from bT]);simp));exact bW
 refine dd ?_;rw[m1];refine⟨λh3=>?_,λh3=>?_⟩
 ·(have e:qf w=false:=by (unfold qf;(rw[show decide (w.current<w.zd.length)=false from by simp at h3|-;omega]);simp));exact bW
 refine dd ?_;refine af (Go.Lim.vJ (l:=w.zi) ah) ?_;refine⟨λh4=>?_,λh4=>?_⟩
 rotate_left
 ·(have e:qf w=false:=by (unfold qf;(rw[h4]);simp));exact bW
 refine zab ?_
 intro b;refine dd ?_;rw[m2]
 have g0:qf w=(!w.zi.any (jA w) && (List.range w.zd.length).all (v7 w) && (List.range w.zc.length).all (vi w)):=by
  unfold qf;rw[h1,show decide (0<=w.current)=true from bT,show decide (w.current<w.zd.length)=true from by simp at h3|-;omega,h4]
  rfl
 refine zp.seq w.zi.length (λk=>(.za::.ref 0 [] 8 0 0::Bo false:: .v (.map (some b)):: .za::.za::.za::.za::.za::.za::tJ (tJ (tJ (lR w.zi::I w.zi.length::I k:: .za::.za::.za::.za::.za::.za::tJ (jp (tJ (tJ (tJ ([])))))))))) (λk=>[oW w,sK b (jH jG (jK (w.zi.take k))) (jK (w.zi.take k)).length]) (λk=>∀j,(h:j<w.zi.length)->j<k->jA w w.zi[j]=false) ?_ aj (λk hk hr=>?_) (λhr=>?_)
 .exact cC
 .obtain⟨r,hx⟩:∃r,r=w.zi[k]:=⟨_,rfl⟩;have hx2:w.zi[k]?=some r:=by rw[cV hk,hx]
  have hg:(w.zi.map zW)[k]?=some (zW r):=by rw[cX,hx2];rfl
  have bad:jA w r=true->qf w=false:=λh=>by
   have:w.zi.any (jA w)=true:=dQ.2 ⟨r,cZ hx2,h⟩;rw[g0,this];rfl
  conv=>whnf
  refine zar ?_
  rw[m1];refine⟨λh5=>?_,λh5=>?_⟩
  ·(rw[bad (by unfold jA;rw[h5];rfl)]);exact zam
  refine dd ?_;refine⟨λh6=>?_,λh6=>?_⟩
  ·(rw[bad (by unfold jA;rw[h6,Bool.or_true];rfl)]);exact zam
  refine dd ?_;refine⟨λh7=>?_,λh7=>?_⟩
  ·(rw[bad (by unfold jA;rw[h7,Bool.or_true])]);exact zam
  refine zab ?_
  refine⟨λq=>?_,λq=>?_⟩
  all_goals
   refine dd ?_;refine⟨_,_,rQ.mapUpdate (id:=1) _ _ _ _ (.inl V) underlying124 (tS.int underlying3) V V r.version (λE u h=>yj h) (.bool r.gone) (λE u h=>by rw[q];exact yj h),dd ?_⟩;refine .inl ⟨rfl,?_,λj hj hjk=>?_⟩
   .rw[zk ah,<-GU w.zi hx2];exact cE 2
   .by_cases e:j=k
    .subst e;rw[<-hx];unfold jA;rw[h5,h6,h7];rfl
    .exact cF
 have hl0:w.zi.any (jA w)=false:=by
  rw[dv];intro x hx;obtain⟨j,hj,rfl⟩:=dk.1 hx;simp[hr j hj hj]
 rw[dy];refine uD ?_;rw[m1];have g1:qf w=((List.range w.zd.length).all (v7 w) && (List.range w.zc.length).all (vi w)):=by rw[g0,hl0];rfl
 refine zp.seq w.zd.length (λk=>(.za::.ref 0 [] 8 0 0::Bo false:: .v (.map (some b)):: .za::.za::.za::.za::.za::.za::.za::tJ (jp (tJ (tJ (lV w.zd::I w.zd.length::I k:: .za::.za::.za::.za::.za::tJ (tJ (tJ (tJ ([])))))))))) (λk=>[oW w,sK b (jH jG (jK (w.zi))) (jK (w.zi)).length]) (λk=>∀j,j<k->v7 w j=true) ?_ aj (λk hk hr=>?_) (λhr=>?_)
 .exact cC
 .obtain⟨v,hx⟩:∃v,v=w.zd[k]:=⟨_,rfl⟩;have hx2:w.zd[k]?=some v:=by rw[cV hk,hx]
  have hg:(w.zd.map zw)[k]?=some (zw v):=by rw[cX,hx2];rfl
  have hd:v7 w k=(xN v && (v.qQ == jW w.zi k)):=by unfold v7;rw[hx2]
  have bad:v7 w k=false->qf w=false:=λh=>by
   have:(List.range w.zd.length).all (v7 w)=false:=by rw[gi];exact⟨k,ak hk,aG⟩
   rw[g1,this];rfl
  conv=>whnf
  refine zar ?_
  refine af (DN v (hw.zd.2 v (cZ hx2))) ?_;refine⟨λh5=>?_,λh5=>?_⟩
  rotate_left
  ·(rw[bad (by rw[hd,h5];rfl)]);exact zam
  refine dd ?_;refine⟨λq=>?_,λq=>?_⟩
  all_goals
   refine dd ?_;refine⟨_,_,rQ.lookup (id:=1) _ _ _ V underlying124 (tS.int underlying3) V V (k:Int) (λE u h=>yj h) (c:=Bo (jW w.zi k)) V V (λE=>by rw[G8];exact .v _ V),dd ?_⟩;refine⟨λq2=>?_,λq2=>?_⟩
   ·(rw[bad (by rw[hd,q];simp at q2;simp[q2])]);exact zam
   refine zab ?_
   refine .inl ⟨rfl,?_,λj hj=>?_⟩
   .exact cL
   .by_cases e:j=k
    .subst e;rw[hd,h5,q];simp at q2;simp[q2]
    .exact hr j ah
 have hv0:(List.range w.zd.length).all (v7 w)=true:=by
  rw[c8]
  exactλi hi=>hr i (ak hi)
 have g2:qf w=(List.range w.zc.length).all (vi w):=by rw[g1,hv0];rfl
 refine uD ?_;rw[m3];refine zp.seq w.zc.length (λk=>(.za::.ref 0 [] 8 0 0::Bo false:: .v (.map (some b)):: .za::.za::.za::tJ (jp (jp (tJ (lL w.zc::I w.zc.length::I k:: .za::tJ (tJ ([])))))))) (λk=>[oW w,sK b (jH jG (jK (w.zi))) (jK (w.zi)).length]) (λk=>∀j,j<k->vi w j=true) ?_ aj (λk hk hr=>?_) (λhr=>?_)
 .exact cC
 .obtain⟨l,hx⟩:∃l,l=w.zc[k]:=⟨_,rfl⟩;have hx2:w.zc[k]?=some l:=by rw[cV hk,hx]
  have hg:(w.zc.map z1)[k]?=some (z1 l):=by rw[cX,hx2];rfl
  have hd:vi w k=(Go.Gat.rR l && decide (qy w.zc l.name=k)):=by unfold vi;rw[hx2]
  have bad:vi w k=false->qf w=false:=λh=>by
   have:(List.range w.zc.length).all (vi w)=false:=by rw[gi];exact⟨k,ak hk,aG⟩
   rw[g2,this]
  conv=>whnf
  refine zar ?_
  refine af (Go.Gat.vJ l (hw.zc.2 l (cZ hx2))) ?_;refine⟨λh5=>?_,λh5=>?_⟩
  rotate_left
  ·(rw[bad (by rw[hd,h5];rfl)]);exact zam
  refine dd ?_;refine af (yC w.zc l.name ah) ?_;refine⟨λh6=>?_,λh6=>?_⟩
  ·(rw[bad (by rw[hd,show decide (qy w.zc l.name=(k:Int))=false from by rw[dz];intro hh;simp[hh]at h6,gT])]);exact zam
  refine zab ?_
  refine .inl ⟨rfl,?_,λj hj=>?_⟩
  .exact cL
  .by_cases e:j=k
   .subst e;rw[hd,h5];simp at h6;simp[h6]
   .exact hr j ah
 .have hl1:(List.range w.zc.length).all (vi w)=true:=by
   rw[c8]
   exactλi hi=>hr i (ak hi)
  rw[g2,hl1];exact cU
end Go.Wor
