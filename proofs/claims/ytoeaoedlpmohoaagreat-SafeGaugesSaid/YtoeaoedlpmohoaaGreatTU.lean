import Derived.Test.YtoeaoedlpmohoaaGreatTF
import Derived.Test.YtoeaoedlpmohoaaGreatTS
import Derived.Test.YtoeaoedlpmohoaaGreatTT
set_option linter.all false
set_option maxRecDepth 100000
set_option maxHeartbeats 4000000
namespace Go.Wor
open Go.Ab Go.Proofs Tryz Go.Hy Go.Gat Go.Nam Go.Hos Go.Con Go.Sna
def wx(l:List ft)(n:Int):ft:=if 0<=n/\n<l.length then (l[n.toNat]?).getD [] else []
def kf(l:List fV)(n:Int):ft:=if 0<=n/\n<l.length then ((l[n.toNat]?).map (·.name)).getD [] else []
def AS(s:Sna)(r:mu):nJ:=⟨wx s.ze r.listen,r.host,r.path,kf s.zn r.zg⟩
def mn(s:Sna):ia:=⟨s.ze,s.rules.map (AS s),s.zn⟩
def vU(s:Sna):Bool:=(jn (mn s)).1 == 0
structure AA(s:Sna):Prop where
 ze:s.ze.length<1000000000000/\∀x∈s.ze,x.length<4000000000000000000
 rules:s.rules.length<1000000000000/\∀r∈s.rules,r.host.length<1000000000000000/\r.path.length<1000000000000000
 zn:s.zn.length<1000000000000/\∀x∈s.zn,x.name.length<4000000000000000000/\x.zR.length<4000000000000000000
def AA.cfg{s:Sna}(h:AA s):wV (mn s):=by
 refine⟨h.ze,⟨by simpa [mn] using h.rules.1,λr hr=>?_⟩,h.zn⟩;simp only[mn,gR]at hr;obtain⟨q,hq,rfl⟩:=hr;refine⟨?_,(h.rules.2 q hq).1,(h.rules.2 q hq).2,?_⟩
 ·show(wx s.ze q.listen).length<_;unfold wx;split
  ·cases hx:s.ze[q.listen.toNat]? with
   |none=>simp
   |some x=>exact h.ze.2 x (dY hx)
  ·simp
 ·show(kf s.zn q.zg).length<_;unfold kf;split
  ·cases hx:s.zn[q.zg.toNat]? with
   |none=>simp
   |some x=>exact(h.zn.2 x (dY hx)).1
  ·simp
def RW(s:Sna)(hs:AA s):tj 146 [] [Cs s] (Cf (mn s)) []:=by
 have m1:(s.rules.map vu).length=s.rules.length:=gu ..;have m2:(s.ze.map qw).length=s.ze.length:=gu ..;have m3:(s.zn.map yY).length=s.zn.length:=gu ..;have hl:=hs.rules.1;refine ab func146 ?_;rw[m1];refine qe.seq s.rules.length (λk=>(.za::.ref 0 [] 3 0 0:: .ref 1 [] 3 0 0:: .ref 2 [] 3 0 0:: .za::tZ (lM s.rules::I s.rules.length::I k:: .za::.za::.za::.za::.za::tZ (jp (tZ ([])))))) (λk=>[⟨1,66,3,[encS s],0⟩,⟨1,26,3,[[.fh 1 0 [],.fh 1 0 [],.fh 1 0 []]],0⟩,⟨1,26,3,[[lT s.ze,.gl 3 4 (((s.rules.take k).map (AS s)).map wY),lC s.zn]],0⟩,⟨4,135,4,((s.rules.take k).map (AS s)).map wY,0⟩]) (λk=>True) ?_ trivial (λk hk hr=>?_) (λhr=>?_)
 ·refine zq.trans (zq.Bf 2 1 135 4 J J (.inl J) J J) ?_;exact cC
 ·obtain⟨r,hx⟩:∃r,r=s.rules[k]:=⟨_,rfl⟩;have hg:(s.rules.map vu)[k]?=some (vu r):=by rw[gf,dX hk,hx];rfl
  have hlg:(((s.rules.take k).map (AS s)).map wY).length=k:=aA
  have eg:((s.rules.take (k+1)).map (AS s)).map wY=((s.rules.take k).map (AS s)).map wY++[wY (AS s r)]:=bP
  have hv:∀a b,a=wx s.ze r.listen->b=kf s.zn r.zg->wY ⟨a,r.host,r.path,b⟩=wY (AS s r):=λa b h1 h2=>by rw[h1,h2];rfl
  conv=>whnf
  refine uF ?_;(refine tc hg ?_)
  refine⟨λh1=>?_,λh1=>?_⟩
  rotate_left
  ·refine dd ?_;refine hZ ?_
   refine⟨λq1=>?_,λq1=>?_⟩;rotate_left;(focus (refine dd ?_;refine hZ ?_;(refine⟨rfl,.inr J,bQ,cf,dd ?_⟩);(refine .inl ⟨rfl,?_,trivial⟩);(rw[zw aw,eg,<-hv _ _ cg cm]);exact cE 4));refine dd ?_;(rw[m3]);refine⟨λq2=>?_,λq2=>?_⟩;rotate_left;(focus (refine dd ?_;refine hZ ?_;(refine⟨rfl,.inr J,bQ,cf,dd ?_⟩);(refine .inl ⟨rfl,?_,trivial⟩);(rw[zw aw,eg,<-hv _ _ cg cp]);exact cE 4));(have q3:r.zg.toNat<s.zn.length:=by simp at q1 q2;omega);(have gq:(s.zn.map yY)[r.zg.toNat]?=some (yY s.zn[r.zg.toNat]):=by rw[gf,dX q3];rfl);refine dd ?_;refine hZ ?_;(refine⟨bU,_,gq,dd ?_⟩);(refine⟨rfl,.inr J,bQ,cf,dd ?_⟩);(refine .inl ⟨rfl,?_,trivial⟩);(rw[zw aw,eg,<-hv _ _ cg (by unfold kf;rw[gh (by simp at q1 q2;omega),dX q3])]);exact cE 4
  refine dd ?_;rw[m2];refine⟨λh2=>?_,λh2=>?_⟩
  rotate_left
  ·refine dd ?_;refine hZ ?_
   refine⟨λq1=>?_,λq1=>?_⟩;rotate_left;(focus (refine dd ?_;refine hZ ?_;(refine⟨rfl,.inr J,bQ,cf,dd ?_⟩);(refine .inl ⟨rfl,?_,trivial⟩);(rw[zw aw,eg,<-hv _ _ cq cm]);exact cE 4));refine dd ?_;(rw[m3]);refine⟨λq2=>?_,λq2=>?_⟩;rotate_left;(focus (refine dd ?_;refine hZ ?_;(refine⟨rfl,.inr J,bQ,cf,dd ?_⟩);(refine .inl ⟨rfl,?_,trivial⟩);(rw[zw aw,eg,<-hv _ _ cq cp]);exact cE 4));(have q3:r.zg.toNat<s.zn.length:=by simp at q1 q2;omega);(have gq:(s.zn.map yY)[r.zg.toNat]?=some (yY s.zn[r.zg.toNat]):=by rw[gf,dX q3];rfl);refine dd ?_;refine hZ ?_;(refine⟨bU,_,gq,dd ?_⟩);(refine⟨rfl,.inr J,bQ,cf,dd ?_⟩);(refine .inl ⟨rfl,?_,trivial⟩);(rw[zw aw,eg,<-hv _ _ cq (by unfold kf;rw[gh (by simp at q1 q2;omega),dX q3])]);exact cE 4
  have h3:r.listen.toNat<s.ze.length:=cw
  have gl:(s.ze.map qw)[r.listen.toNat]?=some (qw s.ze[r.listen.toNat]):=by rw[gf,dX h3];rfl
  refine dd ?_;refine hZ ?_
  refine⟨b8,_,gl,dd ?_⟩;refine⟨λq1=>?_,λq1=>?_⟩;rotate_left;(focus (refine dd ?_;refine hZ ?_;(refine⟨rfl,.inr J,bQ,cf,dd ?_⟩);(refine .inl ⟨rfl,?_,trivial⟩);(rw[zw aw,eg,<-hv _ _ (by unfold wx;rw[gh cw,dX h3]) cm]);exact cE 4));refine dd ?_;(rw[m3]);refine⟨λq2=>?_,λq2=>?_⟩;rotate_left;(focus (refine dd ?_;refine hZ ?_;(refine⟨rfl,.inr J,bQ,cf,dd ?_⟩);(refine .inl ⟨rfl,?_,trivial⟩);(rw[zw aw,eg,<-hv _ _ (by unfold wx;rw[gh cw,dX h3]) cp]);exact cE 4));(have q3:r.zg.toNat<s.zn.length:=by simp at q1 q2;omega);(have gq:(s.zn.map yY)[r.zg.toNat]?=some (yY s.zn[r.zg.toNat]):=by rw[gf,dX q3];rfl);refine dd ?_;refine hZ ?_;(refine⟨bU,_,gq,dd ?_⟩);(refine⟨rfl,.inr J,bQ,cf,dd ?_⟩);(refine .inl ⟨rfl,?_,trivial⟩);(rw[zw aw,eg,<-hv _ _ (by unfold wx;rw[gh cw,dX h3]) (by unfold kf;rw[gh (by simp at q1 q2;omega),dX q3])]);exact cE 4
 ·refine uD ?_;rw[gZ];exact uI
def Ld(s:Sna)(hs:AA s):tj 117 [] [Cs s] (Bo (vU s)) []:=by
 refine ab func117 ?_;refine ah (RW s hs) ?_;refine ah (check_sound (mn s) hs.cfg) ?_;refine⟨λh=>?_,λh=>?_⟩
 ·refine dd ?_
  (exact⟨.inl J,_,.refl _,uN (by unfold vU;exact h.symm)⟩)
 ·refine dd ?_
  (exact⟨.inl J,_,.refl _,uN (by unfold vU;exact h.symm)⟩)
end Go.Wor
namespace Go.Wor
open Go.Ab Go.Proofs Tryz Go.Hy Go.Gat Go.Nam Go.Hos Go.Con Go.Sna
open Go.Slp (wm KX)
def Ge{f:Nat->Int}{n:Nat}(h:(xp f n).1=0):∀j,j<n->f j=0:=λj hj=>by
 unfold xp at h;split at h
 ·rename_i i hi;rw[List.find?_range_eq_some]at hi;exact absurd h (aq hi.1)
 ·rename_i hn;rw[List.find?_range_eq_none]at hn;simpa using hn j hj
structure Gw(x:fV):Prop where
 name:xW x.name=true
 xY:x.xY=1\/x.xY=2
 x4:1<=x.x4/\x.x4<=4
 zR:1<=x.zR.length/\x.zR.length<=4
structure zyv(s:Sna):Prop where
 ze:1<=s.ze.length/\s.ze.length<=4
 rules:1<=s.rules.length/\s.rules.length<=8
 zn:1<=s.zn.length/\s.zn.length<=4
 all:∀x∈s.zn,Gw x
def j7{s:Sna}(h:vU s=true):zyv s:=by
 unfold vU at h;have h:(jn (mn s)).1=0:=aq h
 unfold jn at h;split at h
 ·contradiction
 rename_i h1;split at h
 ·contradiction
 rename_i h2;split at h
 ·contradiction
 rename_i h3;have h1:(vx (mn s)).1=0:=aq h1
 unfold vx at h1;split at h1
 ·cases h1
 rename_i h4;have e:(mn s).zM.length=s.rules.length:=by simp[mn]
 rw[e]at h4;simp only[show(mn s).ze=s.ze from J,show(mn s).zn=s.zn from J]at h4;have b:∀n:Nat,∀m:Int,¬(decide (1<=(n:Int)) && decide ((n:Int)<=m))=false->1<=n/\(n:Int)<=m:=λn m hh=>by simp at hh;omega
 have q1:=b s.ze.length 4 λhh=>h4 (.inl (.inl hh))
 have q2:=b s.rules.length 8 λhh=>h4 (.inl (.inr hh))
 have q3:=b s.zn.length 4 λhh=>h4 (.inr hh)
 refine⟨aw,aw,aw,λx hx=>?_⟩;obtain⟨i,hi,rfl⟩:=pM.1 hx;have h5:=Ge (f:=n4 s.zn) (n:=s.zn.length) (Decidable.of_not_not h3) i hi;unfold n4 at h5;rw[dX hi]at h5;dsimp only at h5;split at h5
 ·cases h5
 rename_i p1;split at h5
 ·cases h5
 split at h5
 ·cases h5
 rename_i p2;split at h5
 ·cases h5
 rename_i p3;split at h5
 ·cases h5
 rename_i p4;refine⟨aq p1,?_,?_,?_⟩
 ·by_cases a:s.zn[i].xY=1
  ·exact .inl a
  ·by_cases a2:s.zn[i].xY=2
   ·exact .inr a2
   ·exact absurd ⟨a,a2⟩ p2
 ·simp at p3;omega
 ·simp at p4;omega
abbrev xU(x:fV):En:=(wm x.x4).1
def Xn{x:fV}(h:Gw x):wm x.x4=(xU x,0):=by
 have:=h.x4;unfold xU wm;rw[dZ aw]
def lY(x:fV):Gr:=⟨0,List.replicate x.zR.length (xU x)⟩
abbrev zyP:Sna:=⟨[],[],[]⟩
abbrev Gx:fp:=⟨zyP,[],false⟩
def qV(s:Sna):fp×Int:=if vU s then (⟨s,s.zn.map lY,false⟩,0) else (Gx,1)
abbrev Cv(v:fp):C:=.agg (zH v)
abbrev tV(r:fp×Int):C:=.fq [Cv r.1,I r.2]
def LF(s:Sna)(hs:AA s):tj 85 [] [Cs s] (tV (qV s)) []:=by
 have m1:(s.zn.map yY).length=s.zn.length:=gu ..;refine ab func85 ?_;refine ah (Ld s hs) ?_;refine⟨λh1=>?_,λh1=>?_⟩
 rotate_left
 ·have e:qV s=(Gx,1):=by unfold qV;rw[dZ aZ]
  rw[e];refine dd ?_;refine hZ ?_
  exact⟨.inl J,_,zq.var 1 J J J (.cons (WC.nil 0 1) (.cons (WC.nil 0 4) (.cons (WC.nil 0 4) (.cons (WC.nil 0 2) (.cons (.refl _) .nil))))),rfl⟩
 have e:qV s=(⟨s,s.zn.map lY,false⟩,0):=by unfold qV;rw[gh h1]
 have hg:=j7 h1;rw[e];refine dd ?_;refine hZ ?_
 rw[m1];refine qe.seq s.zn.length (λk=>(.za::.ref 0 [] 3 0 0::.ref 1 [] 5 0 0::I 0::.ref 2 [] 5 0 0::tZ (.za::.za::.za::.za::(lC s.zn)::I s.zn.length::I k::tZ (tZ (tZ (tZ ([.za]))))))) (λk=>[⟨1,66,3,[encS s],0⟩,⟨1,69,5,[[.fh 1 0 [],.fh 1 0 [],.fh 1 0 [],.fh 1 0 [],Bo false]],0⟩,⟨1,69,5,[encS s++[.gl 3 2 (((s.zn.take k).map lY).map zE),Bo false]],0⟩,⟨4,72,2,((s.zn.take k).map lY).map zE,0⟩]) (λk=>True) ?_ trivial (λk hk hr=>?_) (λhr=>?_)
 ·refine zq.trans (zq.Bf 2 3 72 2 J J (.inl J) J J) ?_;exact cC
 ·obtain⟨x,hx⟩:∃x,x=s.zn[k]:=⟨_,rfl⟩;have hgx:(s.zn.map yY)[k]?=some (yY x):=by rw[gf,dX hk,hx];rfl
  have hgood:=hg.all x tG;have hc4:=hg.zn.2;have h4:=hgood.zR.2;have hlg:(((s.zn.take k).map lY).map zE).length=k:=aA
  have eg:((s.zn.take (k+1)).map lY).map zE=((s.zn.take k).map lY).map zE++[zE (lY x)]:=bP
  have mh:(x.zR.map wh).length=x.zR.length:=gu ..
  have fs:tj 118 [] [I x.x4] (.fq [.agg (zA (xU x)),I 0]) []:=by
   have:=KX x.x4;rw[Xn hgood]at this;exact dG
  conv=>whnf
  refine uF ?_;(refine tc hgx ?_)
  rw[mh];refine qe.seq x.zR.length (λj=>(.za::.ref 0 [] 3 0 0::.ref 1 [] 5 0 0::I 0::.ref 2 [] 5 0 0::.za::.ref 4 [] 4 0 0::.ref 5 [] 2 0 0::tZ (.za::(lC s.zn)::I s.zn.length::I k::.za::.za::.za::.za::.za::I x.zR.length::I j::tZ (tZ (tZ ([.za,.za])))))) (λj=>[⟨1,66,3,[encS s],0⟩,⟨1,69,5,[[.fh 1 0 [],.fh 1 0 [],.fh 1 0 [],.fh 1 0 [],Bo false]],0⟩,⟨1,69,5,[encS s++[.gl 3 2 (((s.zn.take k).map lY).map zE),Bo false]],0⟩,⟨4,72,2,((s.zn.take k).map lY).map zE,0⟩,oC x,⟨1,72,2,[[U 0,.gl 6 3 ((List.replicate j (xU x)).map zA)]],0⟩,⟨4,74,3,((List.replicate j (xU x)).map zA),0⟩]) (λk=>True) ?_ trivial (λj hj hr=>?_) (λhr=>?_)
  ·refine zq.trans (zq.Bf 5 1 74 3 J J (.inl J) J J) ?_;exact cC
  ·have hle:(((List.replicate j (xU x)).map zA)).length=j:=by simp
   have ee:((List.replicate (j+1) (xU x)).map zA)=((List.replicate j (xU x)).map zA)++[zA (xU x)]:=by rw[u9,pE];rfl
   conv=>whnf
   refine uF ?_;refine ah fs ?_;refine hZ ?_
   refine⟨rfl,.inr J,by rw[hle];simp[maxLen];omega,by rw[hle];show(j+1)*40<=_;omega,dd ?_⟩;refine .inl ⟨rfl,?_,trivial⟩;rw[zw aw,ee];exact cE 7
  ·refine uD ?_;refine⟨rfl,.inr J,bQ,by rw[hlg];show(k+1)*32<=_;omega,dd ?_⟩;refine .inl ⟨rfl,?_,trivial⟩;rw[zw aw,eg];exact cE 4
 ·refine uD ?_;rw[gZ];exact uI
def o8(n:Int):List (List Int)×Int:=if n<1\/8<n then ([],1) else (List.replicate n.toNat [0,0,0,0,0,0],0)
abbrev QD(r:List (List Int)×Int):C:=.fq [fU r.1,I r.2]
def B5(c:List (List Int)):Bool:=c.all (λr=>r.length == 6) && decide (1<=c.length) && decide (c.length<=8)
def Oo{rows:List (List C)}(h:(rows.all λr=>r.all λc=>jc c && zx c)=true):∀r∈rows,∀c∈r,jc c=true/\zx c=true:=λr hr c hc=>by
 have:=gz.1 (gz.1 h r hr) c hc;simpa using this
def shut_map{α:Type}{enc:α->List C}(h:∀x,(enc x).all (λc=>jc c && zx c)=true)(l:List α):∀r∈l.map enc,∀c∈r,jc c=true/\zx c=true:=
 Oo (by rw[List.all_map];exact gz.2 λx _=>h x)
def yu{n ty sz fz:Nat}{rows:List (List C)}(h:∀r∈rows,∀c∈r,qX n 9 c=true):zX n [⟨1,ty,sz,rows,fz⟩]=true:=by
 unfold zX;simp only[rW,sZ,sq];simp;exact h
def ZF{α:Type}(a b:α){k n:Nat}(h:k<n):(List.replicate k a++List.replicate (n-k) b).set k a=List.replicate (k+1) a++List.replicate (n-(k+1)) b:=by
 rw[sQ _ _ aj];have e:n-k=(n-(k+1))+1:=aw
 simp only[sP,rK];rw[e,sC,sb,u9,rG]
 rfl
def ZE{α:Type}(a b:α){k n:Nat}(h:k<n):(List.replicate k a++List.replicate (n-k) b)[k]?=some b:=by
 rw[gG aj];simp only[sP,rK];have e:n-k=(n-(k+1))+1:=aw
 rw[e,sC]
 rfl
def Ro(n:Int):tj 86 [] [I n] (QD (o8 n)) []:=by
 refine ab func86 ?_;refine⟨λh1=>?_,λh1=>?_⟩
 ·have e:o8 n=([],1):=by unfold o8;rw[gh b8]
  rw[e];refine dd ?_;refine hZ ?_
  exact dt
 refine dd ?_;refine⟨λh2=>?_,λh2=>?_⟩
 ·have e:o8 n=([],1):=by unfold o8;rw[gh aY]
  rw[e];refine dd ?_;refine hZ ?_
  exact dt
 have b1:1<=n/\n<=8:=cw
 have e:o8 n=(List.replicate n.toNat [0,0,0,0,0,0],0):=by unfold o8;rw[dZ aw]
 rw[e];refine dd ?_;refine⟨rfl,aw,by show(24:Int)*n<=_;omega,aw,dd ?_⟩;refine qe.seq n.toNat (λk=>(I n::.za::.fh 1 0 []::I 0::.sl 0 [] 1 0 n.toNat false::tZ (.za::.za::I n.toNat::I k::tZ ([])))) (λk=>[⟨1,0,1,(List.replicate k [lU [0,0,0,0,0,0]]++List.replicate (n.toNat-k) [C.fh 1 0 []]),0⟩]) (λk=>True) ?_ trivial (λk hk hr=>?_) (λhr=>?_)
 ·refine zq.trans (zq.Da 0 J (by intro r hr c hc;rw[pB hr]at hc;rw[gX.1 hc];rfl)) ?_;exact cC
 ·conv=>whnf
  refine uF ?_;refine⟨rfl,ar,by show(8:Int)*6<=_;decide,ar,dd ?_⟩;refine⟨aw,aA,dd ?_⟩;have e1:0+(k:Int).toNat=k:=aj
  rw[e1];refine⟨_,ZE _ _ hk,rfl,dd ?_⟩;refine .inl ⟨rfl,?_,trivial⟩;refine zq.trans (zq.zV 0 k 0 (r:=[.sl 1 [] 1 0 6 false]) J (by rw[gD,gh J,gh aA];rfl) J J (.inr J) J J ?_ ?_) ?_
  ·exact Oo (rows:=List.replicate 6 [U 0]) J
  ·intro r hr c hc;rcases pw hr with hr|rfl
   ·rcases gY.1 hr with hr|hr <;> (rw[pB hr]at hc;rw[gX.1 hc];rfl)
   ·rw[gX.1 hc];rfl
  ·have e3:(List.replicate k [lU [0,0,0,0,0,0]]++List.replicate (n.toNat-k) [C.fh 1 0 []]).set k [lU [0,0,0,0,0,0]]=(List.replicate (k+1) [lU [0,0,0,0,0,0]]++List.replicate (n.toNat-(k+1)) [C.fh 1 0 []]):=ZF _ _ hk;rw[pb,<-e3,zw aw];refine zq.xG 1 hC J J J (yu (rows:=(List.replicate k [lU [0,0,0,0,0,0]]++List.replicate (n.toNat-k) [C.fh 1 0 []]).set k [lU [0,0,0,0,0,0]]) λr hr c hc=>?_) J;rw[e3]at hr;rcases gY.1 hr with hr|hr <;> (rw[pB hr]at hc;rw[gX.1 hc];rfl)
 ·refine uD ?_;have e4:(List.replicate n.toNat [(0:Int),0,0,0,0,0]).map zN=(List.replicate n.toNat [lU [0,0,0,0,0,0]]++List.replicate (n.toNat-n.toNat) [C.fh 1 0 []]):=by rw[List.map_replicate,rK,List.replicate_zero,pY];rfl
  have sh:∀r∈(List.replicate n.toNat [lU [0,0,0,0,0,0]]++List.replicate (n.toNat-n.toNat) [C.fh 1 0 []]),∀c∈r,jc c=true/\zx c=true:=by
   rw[rK,List.replicate_zero,pY];intro r hr c hc;rw[pB hr]at hc;rw[gX.1 hc];exact dK
  refine⟨.inl J,_,zq.HA 2 J J (.inl J) aj sh,?_⟩;rw[<-e4]
  rfl
def RB(c:List (List Int))(hc:c.length<4000000000000000000):tj 248 [] [fU c] (Bo (B5 c)) []:=by
 have m1:(c.map zN).length=c.length:=gu ..;refine ab func248 ?_;rw[m1];refine qe.seq c.length (λk=>((fU c)::.za::Bo false::.za::.za::(fU c)::I c.length::I k::tZ ([.za,.za,.za,.za,.za,.za,.za]))) (λk=>[]) (λk=>∀j,(h:j<c.length)->j<k->(c[j].length == 6)=true) ?_ aj (λk hk hr=>?_) (λhr=>?_)
 ·exact cC
 ·obtain⟨x,hx⟩:∃x,x=c[k]:=⟨_,rfl⟩;have hg:(c.map zN)[k]?=some (zN x):=by rw[gf,dX hk,hx];rfl
  have mx:(x.map jZ).length=x.length:=gu ..;conv=>whnf
  refine uF ?_;(refine tc hg ?_)
  rw[mx];refine⟨λh1=>?_,λh1=>?_⟩
  ·have hf:c.all (λr=>r.length == 6)=false:=by
    rw[sr];exact⟨x,bN,by simp at h1 ⊢;omega⟩
   have e:B5 c=false:=by unfold B5;rw[hf];rfl
   rw[e];refine dd ?_;(refine .inr ⟨aj,uH ?_⟩)
   exact uI
  ·refine dd ?_;refine .inl ⟨rfl,?_,λj hj hjk=>?_⟩
   ·rw[zw aw];exact cE 0
   ·by_cases e:j=k
    ·subst e;rw[<-hx];simp at h1 ⊢;omega
    ·exact hr j hj aw
 ·have ht:c.all (λr=>r.length == 6)=true:=by
   rw[gz];intro r hr';obtain⟨j,hj,rfl⟩:=pM.1 hr';exact hr j hj hj
  have e:B5 c=(decide (1<=c.length) && decide (c.length<=8)):=by unfold B5;rw[ht];rfl
  rw[e];refine uD ?_;rw[m1];refine⟨λh1=>?_,λh1=>?_⟩
  ·refine dd ?_;rw[m1];refine⟨λh2=>?_,λh2=>?_⟩
   ·refine dd ?_;refine hZ ?_
    (exact⟨.inl J,_,.refl _,uN (by symm;simp at h1 h2 ⊢;omega)⟩)
   ·refine dd ?_;refine hZ ?_
    (exact⟨.inl J,_,.refl _,uN (by symm;simp at h1 h2 ⊢;omega)⟩)
  ·refine dd ?_;refine hZ ?_
   (exact⟨.inl J,_,.refl _,uN (by symm;simp at h1 ⊢;omega)⟩)
abbrev Cw(w:Wor):C:=.agg (vC w)
abbrev tW(r:Wor×Int):C:=.fq [Cw r.1,I r.2]
abbrev Cn:Wor:=⟨0,0,0,[],[],[],[],[]⟩
def kX(s:ft):fI:=⟨s,false,0,false⟩
def C6(l:List ft)(i:Nat):Bool:=match l[i]? with
 |some s=>xW s && decide (zU ((l.take i).map kX) s<0)
 |none=>true
def B3(l:List ft):Bool:=(List.range l.length).all (C6 l)
def lx(s:Sna)(l:List ft)(n:Int):Wor×Int:=
 if vU s=false\/n<1\/8<n\/B3 l=false then (Cn,1)
 else (⟨0,0,0,List.replicate n.toNat 0,[(qV s).1],l.map kX,List.replicate n.toNat [0,0,0,0,0,0],[]⟩,0)
def Vn(s:Sna)(l:List ft)(n:Int)(hs:AA s)(hl:l.length<1000000000/\∀x∈l,x.length<4000000000000000000):tj 57 [] [Cs s,lT l,I n] (tW (lx s l n)) []:=by
 have m1:(l.map qw).length=l.length:=gu ..;have cs:=LF s hs;refine ab func57 ?_;by_cases h0:vU s=true
 rotate_left
 ·have e:lx s l n=(Cn,1):=by unfold lx;rw[gh (.inl (aq h0))]
  have e2:qV s=(Gx,1):=by unfold qV;rw[dZ h0]
  rw[e2]at cs;have cs:tj 85 [] [Cs s] (.fq [Cv Gx,I 1]) []:=cs;rw[e];refine ah cs ?_;refine hZ ?_
  exact cR
 have e2:qV s=((qV s).1,0):=by unfold qV;rw[gh h0]
 rw[e2]at cs;have cs:tj 85 [] [Cs s] (.fq [Cv (qV s).1,I 0]) []:=cs;have hn:=Ro n;refine ah cs ?_;refine hZ ?_
 by_cases h1:n<1\/8<n
 ·have e:lx s l n=(Cn,1):=by unfold lx;rw[gh aw]
  have e3:o8 n=([],1):=by unfold o8;rw[gh h1]
  rw[e3]at hn;have hn:tj 86 [] [I n] (.fq [fU [],I 1]) []:=hn;rw[e];refine ah hn ?_;refine hZ ?_
  exact cR
 have e3:o8 n=(List.replicate n.toNat [0,0,0,0,0,0],0):=by unfold o8;rw[dZ h1]
 rw[e3]at hn;have hn:tj 86 [] [I n] (.fq [fU (List.replicate n.toNat [0,0,0,0,0,0]),I 0]) []:=hn;refine ah hn ?_;refine hZ ?_
 refine .inl ⟨⟨false,[0,3],[2],[]⟩,au,uH ?_⟩;refine⟨rfl,aw,by show(8:Int)*n<=_;omega,aw,dd ?_⟩;refine hU ?_
 rw[m1];have hb:B3 l=false->lx s l n=(Cn,1):=λh=>by unfold lx;rw[gh (.inr (.inr (.inr h)))]
 refine qe.seq l.length (λk=>(.za::.za::.za::.ref 0 [] 3 0 0:: .za::.za::.ref 1 [] 8 0 0::I 0:: .za::.za::.za::.ref 3 [] 8 0 0:: .za::.za::tZ (tZ (tZ (lT l::I l.length::I k:: .za::.za::.za::.za::.za::.za::.za::tZ (tZ ([]))))))) (λk=>[⟨1,66,3,[encS s],0⟩,⟨1,38,8,[[I 0,I 0,I 0,.fh 1 0 [],.fh 1 0 [],.fh 1 0 [],.fh 1 0 [],.fh 1 0 []]],0⟩,⟨1,69,5,[zH (qV s).1],0⟩,⟨1,38,8,[[I 0,I 0,I 0,.fh 0 1 (List.replicate n.toNat [I 0]),.fh 1 5 [zH (qV s).1],.gl 4 4 (((l.take k).map kX).map qP),fU (List.replicate n.toNat [0,0,0,0,0,0]),.fh 1 0 []]],0⟩,⟨4,76,4,((l.take k).map kX).map qP,0⟩]) (λk=>∀j,j<k->C6 l j=true) ?_ aj (λk hk hr=>?_) (λhr=>?_)
 ·refine zq.trans (zq.Bf 3 5 76 4 J J (.inl J) J J) ?_;exact cC
 ·obtain⟨x,hx⟩:∃x,x=l[k]:=⟨_,rfl⟩;have hx2:l[k]?=some x:=by rw[dX hk,hx]
  have hg:(l.map qw)[k]?=some (qw x):=by rw[gf,hx2];rfl
  have hxm:x∈l:=bN
  have hno:C6 l k=(xW x && decide (zU ((l.take k).map kX) x<0)):=by unfold C6;rw[hx2]
  have bad:C6 l k=false->lx s l n=(Cn,1):=λh=>hb (by unfold B3;rw[sr];exact⟨k,aq hk,aH⟩)
  have hlg:(((l.take k).map kX).map qP).length=k:=aA
  have eg:((l.take (k+1)).map kX).map qP=((l.take k).map kX).map qP++[qP (kX x)]:=bP
  conv=>whnf
  refine uF ?_;(refine tc hg ?_)
  refine ah (yO x (by have:=hl.2 x hxm;omega)) ?_;refine⟨λh2=>?_,λh2=>?_⟩
  rotate_left
  ·rw[bad (by rw[hno,h2];rfl)];refine dd ?_;refine hZ ?_
   (refine .inr ⟨aj,uH ?_⟩)
   exact cR
  refine dd ?_;refine ah (E6 ((l.take k).map kX) x aA) ?_;refine⟨λh3=>?_,λh3=>?_⟩
  ·rw[bad (by rw[hno,show decide (zU ((l.take k).map kX) x<0)=false from by simp at h3 ⊢;omega,sy])];refine dd ?_;refine hZ ?_
   (refine .inr ⟨aj,uH ?_⟩)
   exact cR
  refine dd ?_;refine hZ ?_
  refine⟨rfl,.inr J,bQ,by rw[hlg];show(k+1)*40<=_;omega,dd ?_⟩;refine .inl ⟨rfl,?_,λj hj=>?_⟩
  ·rw[zw aw,eg];exact cE 5
  ·by_cases e:j=k
   ·subst e;rw[hno,h2];simp at h3 ⊢;omega
   ·exact hr j aw
 ·have z8:B3 l=true:=by
   unfold B3;rw[gz];intro i hi;exact hr i (aq hi)
  have e:lx s l n=(⟨0,0,0,List.replicate n.toNat 0,[(qV s).1],l.map kX,List.replicate n.toNat [0,0,0,0,0,0],[]⟩,0):=by unfold lx;rw[dZ (by simp only[h0,z8];simp;omega)]
  rw[e];refine uD ?_;rw[gZ];refine⟨.inl J,_,zq.var 1 J J J (.cons (.refl _) (.cons (.refl _) (.cons (.refl _) (.cons (.refl _) (.cons (WC.share 1 5 _) (.cons (.refl _) (.cons (.refl _) (.cons (WC.nil 0 3) .nil)))))))),?_⟩
  have e9:vC ⟨0,0,0,List.replicate n.toNat 0,[(qV s).1],l.map kX,List.replicate n.toNat [0,0,0,0,0,0],[]⟩=[I 0,I 0,I 0,.fh 0 1 (List.replicate n.toNat [I 0]),.fh 0 5 [zH (qV s).1],lL (l.map kX),fU (List.replicate n.toNat [0,0,0,0,0,0]),.fh 0 3 []]:=by
   have e8:(List.replicate n.toNat (0:Int)).map encI=List.replicate n.toNat [I 0]:=List.map_replicate;show [I 0,I 0,I 0,C.fh 0 1 ((List.replicate n.toNat (0:Int)).map encI),_,_,_,_]=_;rw[e8]
   rfl
  show _=some (C.fq [C.agg (vC ⟨0,0,0,List.replicate n.toNat 0,[(qV s).1],l.map kX,List.replicate n.toNat [0,0,0,0,0,0],[]⟩),I 0]);rw[e9]
  rfl
end Go.Wor
namespace Go.Wor
open Go.Ab Go.Proofs Tryz Go.Hy Go.Gat Go.Nam Go.Hos Go.Con Go.Sna
def xm{F:List (List C)}{z:List C}{k n:Nat}(hF:F.length=n)(h:k<n):(F.take k++(List.replicate n z).drop k)[k]?=some z:=by
 rw[gG aA,u4,pO,sE,gh aw]
def q9{F:List (List C)}{x z:List C}{k n:Nat}(hx:F[k]?=some x)(hn:k<n):(F.take k++(List.replicate n z).drop k).set k x=F.take (k+1)++(List.replicate n z).drop (k+1):=by
 obtain⟨hk,rfl⟩:=dW.1 hx;have e1:(F.take k).length=k:=aA
 rw[sQ _ _ aw,e1,rK,List.drop_replicate,List.drop_replicate,pS hk,rG];have e2:n-k=(n-(k+1))+1:=aw
 rw[e2,sC]
 rfl
def vv{F:List (List C)}{z:List C}{n:Nat}(hF:F.length=n):F.take n++(List.replicate n z).drop n=F:=by
 rw[r9 aw,List.drop_of_length_le aj,pY]
def NW(x:Int)(l:List Int)(hl:l.length<1000000000):tj 198 [] [lI (x::l)] (.sl 0 [] 1 0 (x::l).length false) [⟨2,3,1,(x::l).map encI,0⟩]:=by
 have e:0+((l.map encI).length+1)=(x::l).length:=aj
 rw[<-e];refine zb.zL (fn:=f198) func198 J (uH ?_);refine⟨aj,uH ?_⟩;refine .inr ⟨.inl J,ay,bc,uH ?_⟩;exact uJ
def vF(l:List Int)(hl:l.length<1000000000):tj 198 [] [lI l] (lI l) []:=by
 cases l with
 |nil=>
  refine ab func198 ?_;refine⟨?_,?_⟩
  ·refine dd ?_;exact dt
  ·refine dd ?_;refine .inr ⟨rfl,dd ?_⟩;exact⟨.inl J,_,zq.cell 2 J ((WC.none 1 1 1).trans (WC.share 1 1 [])),rfl⟩
 |cons x l=>
  have hl3:l.length+1<1000000000:=aq hl
  refine ab func198 ?_;refine⟨aj,uH ?_⟩;refine .inr ⟨.inl J,ay,bc,uH ?_⟩;exact di
def XJ(x:Int)(l:List Int)(hl:l.length<1000000000):tj 241 [] [lU (x::l)] (.sl 0 [] 1 0 (x::l).length false) [⟨2,48,1,(x::l).map jZ,0⟩]:=by
 have e:0+((l.map jZ).length+1)=(x::l).length:=aj
 rw[<-e];refine zb.zL (fn:=f241) func241 J (uH ?_);refine⟨aj,uH ?_⟩;refine .inr ⟨.inl J,ay,bc,uH ?_⟩;exact uJ
def XK(l:List Int)(hl:l.length<1000000000):tj 241 [] [lU l] (lU l) []:=by
 cases l with
 |nil=>
  refine ab func241 ?_;refine⟨?_,?_⟩
  ·refine dd ?_;exact dt
  ·refine dd ?_;refine .inr ⟨rfl,dd ?_⟩;exact⟨.inl J,_,zq.cell 2 J ((WC.none 1 1 1).trans (WC.share 1 1 [])),rfl⟩
 |cons x l=>
  have hl3:l.length+1<1000000000:=aq hl
  refine ab func241 ?_;refine⟨aj,uH ?_⟩;refine .inr ⟨.inl J,ay,bc,uH ?_⟩;exact di
def XI(x:fI)(l:List fI)(hl:l.length<1000000000):tj 201 [] [lL (x::l)] (.sl 0 [] 4 0 (x::l).length false) [⟨2,76,4,(x::l).map qP,0⟩]:=by
 have e:0+((l.map qP).length+1)=(x::l).length:=aj
 rw[<-e];refine zb.zL (fn:=f201) func201 J (uH ?_);refine⟨aj,uH ?_⟩;refine .inr ⟨.inl J,ay,by show _*40<=_;simp;omega,uH ?_⟩;exact uJ
def kO(l:List fI)(hl:l.length<1000000000):tj 201 [] [lL l] (lL l) []:=by
 cases l with
 |nil=>
  refine ab func201 ?_;refine⟨?_,?_⟩
  ·refine dd ?_;exact⟨.inl J,_,zq.cell 2 J (WC.nil 0 4),rfl⟩
  ·refine dd ?_;refine .inr ⟨rfl,dd ?_⟩;exact⟨.inl J,_,zq.cell 2 J ((WC.none 1 4 4).trans (WC.share 1 4 [])),rfl⟩
 |cons x l=>
  have hl3:l.length+1<1000000000:=aq hl
  refine ab func201 ?_;refine⟨aj,uH ?_⟩;refine .inr ⟨.inl J,ay,by show _*40<=_;simp;omega,uH ?_⟩;exact di
def NX(x:fH)(l:List fH)(hl:l.length<1000000000):tj 204 [] [lR (x::l)] (.sl 0 [] 3 0 (x::l).length false) [⟨2,254,3,(x::l).map xR,0⟩]:=by
 have e:0+((l.map xR).length+1)=(x::l).length:=aj
 rw[<-e];refine zb.zL (fn:=f204) func204 J (uH ?_);refine⟨aj,uH ?_⟩;refine .inr ⟨.inl J,ay,by show _*24<=_;simp;omega,uH ?_⟩;exact uJ
def CN(l:List fH)(hl:l.length<1000000000):tj 204 [] [lR l] (lR l) []:=by
 cases l with
 |nil=>
  refine ab func204 ?_;refine⟨?_,?_⟩
  ·refine dd ?_;exact⟨.inl J,_,zq.cell 2 J (WC.nil 0 3),rfl⟩
  ·refine dd ?_;refine .inr ⟨rfl,dd ?_⟩;exact⟨.inl J,_,zq.cell 2 J ((WC.none 1 3 3).trans (WC.share 1 3 [])),rfl⟩
 |cons x l=>
  have hl3:l.length+1<1000000000:=aq hl
  refine ab func204 ?_;refine⟨aj,uH ?_⟩;refine .inr ⟨.inl J,ay,by show _*24<=_;simp;omega,uH ?_⟩;exact di
def Me(e:En)(he:e.next.length<1000000000):tj 254 [] [.agg [],.agg (zA e)] (.agg (zA e)) []:=by
 refine ab func254 ?_;refine ah (vF e.next he) ?_;exact uI
def YM(l:List En)(hl:l.length<1000000000)(hp:∀x∈l,tj 254 [] [.agg [],.agg (zA x)] (.agg (zA x)) []):tj 253 [] [lE l,.fn 254 [] [],.agg []] (.sl 0 [] 3 0 l.length false) [⟨2,74,3,l.map zA,0⟩]:=by
 have m1:(l.map zA).length=l.length:=gu ..;refine zb.zL (fn:=f253) func253 J (uH ?_);rw[m1];refine⟨rfl,aw,by show(40:Int)*_<=_;omega,aw,dd ?_⟩;rw[m1,toNat_cast];refine qe.seq l.length (λk=>((lE l)::.fn 254 [] []::.za::.za::.za::.ref 0 [] 0 0 0::.fh 1 0 []::.sl 1 [] 3 0 l.length false::.za::.za::.za::.za::.za::(lE l)::I l.length::I k::tZ ([.za,.za,.za,.za,.za]))) (λk=>[⟨1,283,0,[[]],0⟩,⟨2,74,3,(l.map zA).take k++(List.replicate l.length [U 0,.fh 1 0 [],I 0]).drop k,0⟩]) (λk=>True) ?_ trivial (λk hk hr=>?_) (λhr=>?_)
 ·exact cC
 ·obtain⟨x,hx⟩:∃x,x=l[k]:=⟨_,rfl⟩;have hx2:l[k]?=some x:=by rw[dX hk,hx]
  have hg:(l.map zA)[k]?=some (zA x):=by rw[gf,hx2];rfl
  conv=>whnf
  refine uF ?_;(refine tc hg ?_)
  refine ah (hp x tG) ?_;refine⟨aw,aA,dd ?_⟩;have e1:0+(k:Int).toNat=k:=aj
  rw[e1];refine⟨_,xm aj hk,rfl,dd ?_⟩;refine .inl ⟨rfl,?_,trivial⟩;have e2:=q9 (z:=[U 0,.fh 1 0 [],I 0]) (n:=l.length) hg hk;rw[zw aw,<-e2];exact cE 2
 ·exact dh
def qa{r:List C}(h:r.all zx=true):∀q∈[r],∀c∈q,zx c=true:=λq hq c hc=>by
 rw[gX.1 hq]at hc;exact gz.1 h c hc
def Kq(g:Gr):Prop:=g.ends.length<1000000000/\∀e∈g.ends,e.next.length<1000000000
def GD(v:fp):Prop:=v.zo.length<1000000000/\∀g∈v.zo,Kq g
structure jd(w:Wor):Prop where
 pins:w.pins.length<1000000000
 zd:w.zd.length<1000000000/\∀v∈w.zd,GD v
 ze:w.ze.length<1000000000
 counts:w.counts.length<1000000000/\∀r∈w.counts,r.length<1000000000
 zp:w.zp.length<1000000000
def K3(g:Gr)(hg:Kq g):tj 240 [] [.agg [],.agg (zE g)] (.agg (zE g)) []:=by
 refine ab func240 ?_;refine af [] (YM g.ends hg.1 λe he=>Me e (hg.2 e he)) ?_;exact⟨.inl J,_,zq.zV 2 0 1 J J J J (.inr J) J aj (shut_map (enc:=zA) (λ_=>J) g.ends) (qa J),rfl⟩
def YO(l:List Gr)(hl:l.length<1000000000)(hp:∀x∈l,tj 240 [] [.agg [],.agg (zE x)] (.agg (zE x)) []):tj 239 [] [lG l,.fn 240 [] [],.agg []] (.sl 0 [] 2 0 l.length false) [⟨2,72,2,l.map zE,0⟩]:=by
 have m1:(l.map zE).length=l.length:=gu ..;refine zb.zL (fn:=f239) func239 J (uH ?_);rw[m1];refine⟨rfl,aw,by show(32:Int)*_<=_;omega,aw,dd ?_⟩;rw[m1,toNat_cast];refine qe.seq l.length (λk=>((lG l)::.fn 240 [] []::.za::.za::.za::.ref 0 [] 0 0 0::.fh 1 0 []::.sl 1 [] 2 0 l.length false::.za::.za::.za::.za::.za::(lG l)::I l.length::I k::tZ ([.za,.za,.za,.za,.za]))) (λk=>[⟨1,283,0,[[]],0⟩,⟨2,72,2,(l.map zE).take k++(List.replicate l.length ([U 0,.fh 1 0 []]:List C)).drop k,0⟩]) (λk=>True) ?_ trivial (λk hk hr=>?_) (λhr=>?_)
 ·exact cC
 ·obtain⟨x,hx⟩:∃x,x=l[k]:=⟨_,rfl⟩;have hx2:l[k]?=some x:=by rw[dX hk,hx]
  have hg:(l.map zE)[k]?=some (zE x):=by rw[gf,hx2];rfl
  conv=>whnf
  refine uF ?_;(refine tc hg ?_)
  refine ah (hp x tG) ?_;refine⟨aw,aA,dd ?_⟩;have e1:0+(k:Int).toNat=k:=aj
  rw[e1];refine⟨_,xm aj hk,rfl,dd ?_⟩;refine .inl ⟨rfl,?_,trivial⟩;have e2:=q9 (z:=([U 0,.fh 1 0 []]:List C)) (n:=l.length) hg hk;rw[zw aw,<-e2];exact cE 2
 ·exact dh
def jT(v:fp)(hv:GD v):tj 200 [] [.agg [],.agg (zH v)] (.agg (zH v)) []:=by
 refine ab func200 ?_;refine af [] (YO v.zo hv.1 λg hg=>K3 g (hv.2 g hg)) ?_;exact⟨.inl J,_,zq.zV 2 0 3 J J J J (.inr J) J aj (shut_map (enc:=zE) (λ_=>J) v.zo) (qa J),rfl⟩
def BE(l:List fp)(hl:l.length<1000000000)(hp:∀x∈l,tj 200 [] [.agg [],.agg (zH x)] (.agg (zH x)) []):tj 199 [] [lV l,.fn 200 [] [],.agg []] (.sl 0 [] 5 0 l.length false) [⟨2,69,5,l.map zH,0⟩]:=by
 have m1:(l.map zH).length=l.length:=gu ..;refine zb.zL (fn:=f199) func199 J (uH ?_);rw[m1];refine⟨rfl,aw,by show(104:Int)*_<=_;omega,aw,dd ?_⟩;rw[m1,toNat_cast];refine qe.seq l.length (λk=>((lV l)::.fn 200 [] []::.za::.za::.za::.ref 0 [] 0 0 0::.fh 1 0 []::.sl 1 [] 5 0 l.length false::.za::.za::.za::.za::.za::(lV l)::I l.length::I k::tZ ([.za,.za,.za,.za,.za]))) (λk=>[⟨1,283,0,[[]],0⟩,⟨2,69,5,(l.map zH).take k++(List.replicate l.length ([.fh 1 0 [],.fh 1 0 [],.fh 1 0 [],.fh 1 0 [],Bo false]:List C)).drop k,0⟩]) (λk=>True) ?_ trivial (λk hk hr=>?_) (λhr=>?_)
 ·exact cC
 ·obtain⟨x,hx⟩:∃x,x=l[k]:=⟨_,rfl⟩;have hx2:l[k]?=some x:=by rw[dX hk,hx]
  have hg:(l.map zH)[k]?=some (zH x):=by rw[gf,hx2];rfl
  conv=>whnf
  refine uF ?_;(refine tc hg ?_)
  refine ah (hp x tG) ?_;refine⟨aw,aA,dd ?_⟩;have e1:0+(k:Int).toNat=k:=aj
  rw[e1];refine⟨_,xm aj hk,rfl,dd ?_⟩;refine .inl ⟨rfl,?_,trivial⟩;have e2:=q9 (z:=([.fh 1 0 [],.fh 1 0 [],.fh 1 0 [],.fh 1 0 [],Bo false]:List C)) (n:=l.length) hg hk;rw[zw aw,<-e2];exact cE 2
 ·exact dh
def yp(r:List Int)(hr:r.length<1000000000):tj 203 [] [.agg [],lU r] (lU r) []:=by
 refine ab func203 ?_;refine ah (XK r hr) ?_;exact uI
def MA(H':zm)(ρ:Nat->Nat):∀(i:Nat) (K:zm),oF [] H' ρ i K=K
 |_,[]=>rfl
 |i,ob::K=>by unfold oF;rw[MA H' ρ (i+1) K];rfl
def Bb{P:Program}{f:FuncId}{args:List C}{r:C}{H':zm}(h:zb P f [] args r H')(hR:qt H'=true)(ha:args.map (xO [] 9)=args)(H:zm)(hf:qt H=true):
  zb P f H args (vn (jf [] H.length) 9 r) (H++H'.map (zG (jf [] H.length))):=by
 have:=h.part [] hR (K:=H) J ha J J hf;have e:wC [] H H'=H++H'.map (zG (jf [] H.length)):=by unfold wC;rw[MA];rfl
 rwa [e]at this
def NS{α:Type}{enc:α->List C}{f:C->C}(hf:∀x,(enc x).map f=enc x)(l:List α)(v:Nat)(row:List C):(((l.map enc).set v row).map λr=>r.map f)=(l.map enc).set v (row.map f):=by
 rw[rj,rA]
 congr 1
 exact p8 λx _=>hf x
def j1{n:Nat}{x:Ob}{H:zm}(h1:zX n [x]=true)(h2:zX n H=true):zX n (x::H)=true:=by
 unfold zX at *;exact dw
def zc{x:Ob}{H:zm}(h1:qt [x]=true)(h2:qt H=true):qt (x::H)=true:=by
 unfold qt at *;exact dw
def zj{ty sz fz:Nat}{rows:List (List C)}(h:∀r∈rows,∀c∈r,zx c=true):qt [⟨1,ty,sz,rows,fz⟩]=true:=by
 unfold qt;simp only[rW,sZ,sq];rw[gz]
 exactλr hr=>gz.2 λc hc=>h r hr c hc
def zy{α:Type}{enc:α->List C}{p:C->Bool}(h:∀x,(enc x).all p=true){row:List C}(hr:row.all p=true)(l:List α)(v:Nat):∀r∈(l.map enc).set v row,∀c∈r,p c=true:=λr hm c hc=>by
 rcases pw hm with hm|rfl
 ·obtain⟨x,_,rfl⟩:=gR.1 hm;exact gz.1 (h x) c hc
 ·exact gz.1 hr c hc
def kT{α:Type}{enc:α->List C}{p:C->Bool}(h:∀x,(enc x).all p=true){row z:List C}(hz:z.all p=true)(l:List α){v k:Nat}(n:Nat)(hr:k<=v\/row.all p=true):∀r∈((l.map enc).set v row).take k++(List.replicate n z).drop k,∀c∈r,p c=true:=λr hm c hc=>by
 rcases gY.1 hm with hm|hm
 ·rcases hr with hr|hr
  ·rw[List.take_set_of_le hr]at hm;obtain⟨x,_,rfl⟩:=gR.1 (rB hm);exact gz.1 (h x) c hc
  ·exact zy h hr l v r (rB hm) c hc
 ·rw[pB (r6 hm)]at hc;exact gz.1 hz c hc
def Ua(e0:En)(x:Int)(l:List Int)(he:e0.next=x::l)(hl:l.length<1000000000):tj 254 [] [.agg [],.agg (zA e0)] (.agg [U e0.head,C.sl 0 [] 1 0 e0.next.length false,I e0.zi]) [⟨2,3,1,e0.next.map encI,0⟩]:=by
 have h1:tj 254 [] [.agg [],.agg (zA e0)] (.agg [U e0.head,C.sl 3 [] 1 0 e0.next.length false,I e0.zi]) [⟨1,283,0,[[]],0⟩,⟨1,74,3,[[U e0.head,C.sl 3 [] 1 0 e0.next.length false,I e0.zi]],0⟩,⟨1,74,3,[[U e0.head,C.sl 3 [] 1 0 e0.next.length false,I e0.zi]],0⟩,⟨2,3,1,e0.next.map encI,0⟩]:=by
  have hc:=NW x l hl;rw[<-he]at hc;refine zb.zL (fn:=f254) func254 J (uH ?_);refine af [] (hc) ?_;exact uJ
 exact h1.nZ (λB h _=>zq.fx [3] [0] _ _ tI J J J) (gV _)
def XR(e0:En)(x:Int)(l:List Int)(he:e0.next=x::l)(hl:l.length<1000000000)(H:zm)(hf:qt H=true):tj 254 H [.agg [],.agg (zA e0)] (.agg ([U e0.head,C.sl H.length [] 1 0 e0.next.length false,I e0.zi])) (H++[⟨2,3,1,e0.next.map encI,0⟩]):=
 Bb (Ua e0 x l he hl) J J H hf
def zI{α:Type}{enc:α->List C}{sel:List Nat}(hf:∀x,(enc x).map (xO sel 9)=enc x)(l:List α)(v:Nat)(row:List C)(ty sz fz:Nat):zK sel ⟨1,ty,sz,(l.map enc).set v row,fz⟩=⟨1,ty,sz,(l.map enc).set v (row.map (xO sel 9)),fz⟩:=by
 show(⟨1,ty,sz,((l.map enc).set v row).map (λr=>r.map (xO sel 9)),fz⟩:Ob)=_;rw[NS hf]
def zC{α:Type}{enc:α->List C}{ρ:Nat->Nat}(hf:∀x,(enc x).map (vn ρ 9)=enc x)(l:List α)(v:Nat)(row:List C)(ty sz fz:Nat):zG ρ ⟨1,ty,sz,(l.map enc).set v row,fz⟩=⟨1,ty,sz,(l.map enc).set v (row.map (vn ρ 9)),fz⟩:=by
 show(⟨1,ty,sz,((l.map enc).set v row).map (λr=>r.map (vn ρ 9)),fz⟩:Ob)=_;rw[NS hf]
def XM(l:List En)(e:Nat)(e0:En)(hv:l[e]?=some e0)(hl:l.length<1000000000)(hp:∀x∈l,tj 254 [] [.agg [],.agg (zA x)] (.agg (zA x)) [])
 (hA:∀H,qt H=true->tj 254 H [.agg [],.agg (zA e0)] (.agg ([U e0.head,C.sl H.length [] 1 0 e0.next.length false,I e0.zi])) (H++[⟨2,3,1,e0.next.map encI,0⟩])):
  tj 253 [] [lE l,.fn 254 [] [],.agg []] (.sl 0 [] 3 0 l.length false) [⟨1,0,3,(l.map zA).set e ([U e0.head,C.sl 1 [] 1 0 e0.next.length false,I e0.zi]),0⟩,⟨2,3,1,e0.next.map encI,0⟩]:=by
 have m1:(l.map zA).length=l.length:=gu ..;have hvl:=(dW.1 hv).1
 have h1:tj 253 [] [lE l,.fn 254 [] [],.agg []] (.sl 1 [] 3 0 l.length false) [⟨1,283,0,[[]],0⟩,⟨1,0,3,(l.map zA).set e ([U e0.head,C.sl 3 [] 1 0 e0.next.length false,I e0.zi]),0⟩,oD e0,⟨2,3,1,e0.next.map encI,0⟩]:=by
  refine zb.zL (fn:=f253) func253 J (uH ?_);rw[m1];refine⟨rfl,aw,by show(40:Int)*_<=_;omega,aw,dd ?_⟩;rw[m1,toNat_cast];have ZZ:List C:=([U 0,.fh 1 0 [],I 0]:List C);refine qe.seq l.length (λk=>((lE l)::.fn 254 [] []::.za::.za::.za::.ref 0 [] 0 0 0::.fh 1 0 []::.sl 1 [] 3 0 l.length false::.za::.za::.za::.za::.za::(lE l)::I l.length::I k::tZ ([.za,.za,.za,.za,.za]))) (λk=>if k<=e then [⟨1,283,0,[[]],0⟩,⟨1,0,3,((l.map zA).set e ([U e0.head,C.sl 3 [] 1 0 e0.next.length false,I e0.zi])).take k++(List.replicate l.length ([U 0,.fh 1 0 [],I 0]:List C)).drop k,0⟩] else [⟨1,283,0,[[]],0⟩,⟨1,0,3,((l.map zA).set e ([U e0.head,C.sl 3 [] 1 0 e0.next.length false,I e0.zi])).take k++(List.replicate l.length ([U 0,.fh 1 0 [],I 0]:List C)).drop k,0⟩,oD e0,⟨2,3,1,e0.next.map encI,0⟩]) (λk=>True) ?_ trivial (λk hk hr=>?_) (λhr=>?_)
  ·rw[gh (gV _)];refine zq.trans (zq.Da 1 J λr hr c hc=>?_) (cC);rw[pB hr]at hc;exact gz.1 (rfl:([U 0,.fh 1 0 [],I 0]:List C).all zx=true) c hc
  ·obtain⟨x,hx⟩:∃x,x=l[k]:=⟨_,rfl⟩;have hx2:l[k]?=some x:=by rw[dX hk,hx]
   have hxm:x∈l:=bN
   have hg:(l.map zA)[k]?=some (zA x):=by rw[gf,hx2];rfl
   have e1:0+(k:Int).toNat=k:=aj
   have low:∀n j,j<=e\/3<n->∀r∈((l.map zA).set e ([U e0.head,C.sl 3 [] 1 0 e0.next.length false,I e0.zi])).take j++(List.replicate l.length ([U 0,.fh 1 0 [],I 0]:List C)).drop j,∀c∈r,qX n 9 c=true:=λn j h=>kT (enc:=zA) (λ_=>J) J l l.length (h.imp_right λh=>by simp[qX,encS];omega)
   have own:∀j,∀r∈((l.map zA).set e ([U e0.head,C.sl 3 [] 1 0 e0.next.length false,I e0.zi])).take j++(List.replicate l.length ([U 0,.fh 1 0 [],I 0]:List C)).drop j,∀c∈r,zx c=true:=λj=>kT (enc:=zA) (λ_=>J) J l l.length (.inr J)
   by_cases hkv:k=e
   ·subst hkv;obtain rfl:e0=x:=by rw[hv]at hx2;exact gp hx2
    have hF:((l.map zA).set k ([U e0.head,C.sl 3 [] 1 0 e0.next.length false,I e0.zi]))[k]?=some ([U e0.head,C.sl 3 [] 1 0 e0.next.length false,I e0.zi]):=by rw[gD,gh J,gh (aq hk)]
    rw[gh (gC _),dZ aw];conv=>whnf
    refine uF ?_;(refine tc hg ?_)
    refine⟨_,_,hA _ (zc J (zc (zj (own k)) J)),dd ?_⟩;exact c7
   ·have hF:((l.map zA).set e ([U e0.head,C.sl 3 [] 1 0 e0.next.length false,I e0.zi]))[k]?=some (zA x):=by rw[gW (λh=>hkv h.symm)];exact hg
    by_cases fj:k<e
    ·rw[gh aw,gh aw];conv=>whnf
     refine uF ?_;(refine tc hg ?_)
     refine ah (hp x hxm) ?_;refine⟨aw,aA,dd ?_⟩;rw[e1];refine⟨_,xm aj hk,rfl,dd ?_⟩;refine .inl ⟨rfl,?_,trivial⟩;rw[zw aw,<-q9 hF hk];refine zq.xG 2 hC J J J (j1 J (yu ?_)) J;have lw:=low 2 (k+1) (.inl aw);rw[<-q9 (z:=([U 0,.fh 1 0 [],I 0]:List C)) (n:=l.length) hF hk]at lw;exact lw
    ·rw[dZ aw,dZ aw];conv=>whnf
     refine uF ?_;(refine tc hg ?_)
     refine ah (hp x hxm) ?_;refine⟨aw,aA,dd ?_⟩;rw[e1];refine⟨_,xm aj hk,rfl,dd ?_⟩;refine .inl ⟨rfl,?_,trivial⟩;rw[zw aw,<-q9 hF hk];refine zq.xG 4 hC J J J (j1 J (j1 (yu ?_) (j1 J J))) J;have lw:=low 4 (k+1) (.inr aw);rw[<-q9 (z:=([U 0,.fh 1 0 [],I 0]:List C)) (n:=l.length) hF hk]at lw;exact lw
  ·exact dV
 refine h1.nZ (λB h _=>?_) (gV _);have hw:=zq.fx (B:=B) [1,3] [0] [.sl 1 [] 3 0 l.length false] [⟨1,283,0,[[]],0⟩,⟨1,0,3,(l.map zA).set e ([U e0.head,C.sl 3 [] 1 0 e0.next.length false,I e0.zi]),0⟩,oD e0,⟨2,3,1,e0.next.map encI,0⟩] tI J J (zc J (zc (zj (zy (enc:=zA) (λ_=>J) J l e)) (zc J J)))
 have e:xC [1,3] [⟨1,283,0,[[]],0⟩,⟨1,0,3,(l.map zA).set e ([U e0.head,C.sl 3 [] 1 0 e0.next.length false,I e0.zi]),0⟩,oD e0,⟨2,3,1,e0.next.map encI,0⟩]=[⟨1,0,3,(l.map zA).set e ([U e0.head,C.sl 1 [] 1 0 e0.next.length false,I e0.zi]),0⟩,⟨2,3,1,e0.next.map encI,0⟩]:=by
  show zK [1,3] ⟨1,0,3,(l.map zA).set e ([U e0.head,C.sl 3 [] 1 0 e0.next.length false,I e0.zi]),0⟩::_=_;rw[zI (enc:=zA) (λ_=>J)]
  rfl
 rw[e]at hw;exact hw
structure GB(g0:Gr)(e:Nat)(e0:En):Prop where
 sm:Kq g0
 at_:g0.ends[e]?=some e0
 ne:e0.next≠[]
def YL{g0:Gr}{e:Nat}{e0:En}(h:GB g0 e e0)(H:zm)(hf:qt H=true):tj 253 H [lE g0.ends,.fn 254 [] [],.agg []] (.sl H.length [] 3 0 g0.ends.length false) (H++[⟨1,0,3,(g0.ends.map zA).set e ([U e0.head,C.sl (H.length+1) [] 1 0 e0.next.length false,I e0.zi]),0⟩,⟨2,3,1,e0.next.map encI,0⟩]):=by
 obtain⟨x,l,hx⟩:∃x l,e0.next=x::l:=by
  cases hh:e0.next with
  |nil=>exact absurd hh h.ne
  |cons x l=>exact⟨x,l,rfl⟩
 have hlen:l.length<1000000000:=by
  have:=h.sm.2 e0 (dY h.at_);rw[hx]at this;exact cW
 have:=Bb (XM g0.ends e e0 h.at_ h.sm.1 (λy hy=>Me y (h.sm.2 y hy)) (XR e0 x l hx hlen)) (zc (zj (zy (enc:=zA) (λ_=>J) J _ _)) J) J H hf
 have e9:[(⟨1,0,3,(g0.ends.map zA).set e ([U e0.head,C.sl 1 [] 1 0 e0.next.length false,I e0.zi]),0⟩:Ob),⟨2,3,1,e0.next.map encI,0⟩].map (zG (jf [] H.length))=[⟨1,0,3,(g0.ends.map zA).set e ([U e0.head,C.sl (H.length+1) [] 1 0 e0.next.length false,I e0.zi]),0⟩,⟨2,3,1,e0.next.map encI,0⟩]:=by
  show zG _ ⟨1,0,3,_,0⟩::_=_;rw[zC (enc:=zA) (λ_=>J)]
  rfl
 rw[e9]at this;exact dG
def RM{g0:Gr}{e:Nat}{e0:En}(h:GB g0 e e0):tj 240 [] [.agg [],.agg (zE g0)] (.agg [U g0.zu,C.sl 0 [] 3 0 g0.ends.length false]) [⟨1,0,3,(g0.ends.map zA).set e ([U e0.head,C.sl 1 [] 1 0 e0.next.length false,I e0.zi]),0⟩,⟨2,3,1,e0.next.map encI,0⟩]:=by
 have own:∀i,∀r∈(g0.ends.map zA).set e ([U e0.head,C.sl i [] 1 0 e0.next.length false,I e0.zi]),∀c∈r,zx c=true:=λi=>zy (enc:=zA) (λ_=>J) J _ _
 have h1:tj 240 [] [.agg [],.agg (zE g0)] (.agg [U g0.zu,C.sl 3 [] 3 0 g0.ends.length false]) [⟨1,283,0,[[]],0⟩,⟨1,72,2,[[U g0.zu,C.sl 3 [] 3 0 g0.ends.length false]],0⟩,⟨1,72,2,[[U g0.zu,C.sl 3 [] 3 0 g0.ends.length false]],0⟩,⟨1,0,3,(g0.ends.map zA).set e ([U e0.head,C.sl 4 [] 1 0 e0.next.length false,I e0.zi]),0⟩,⟨2,3,1,e0.next.map encI,0⟩]:=by
  refine zb.zL (fn:=f240) func240 J (uH ?_);refine⟨_,_,YL h _ J,dd ?_⟩;exact uJ
 refine h1.nZ (λB hB _=>?_) (gV _);have hw:=zq.fx (B:=B) [3,4] [0] [.agg [U g0.zu,C.sl 3 [] 3 0 g0.ends.length false]] [⟨1,283,0,[[]],0⟩,⟨1,72,2,[[U g0.zu,C.sl 3 [] 3 0 g0.ends.length false]],0⟩,⟨1,72,2,[[U g0.zu,C.sl 3 [] 3 0 g0.ends.length false]],0⟩,⟨1,0,3,(g0.ends.map zA).set e ([U e0.head,C.sl 4 [] 1 0 e0.next.length false,I e0.zi]),0⟩,⟨2,3,1,e0.next.map encI,0⟩] (by rw[show B=0 from aq hB];rfl) J J (zc J (zc J (zc J (zc (zj (own 4)) J))))
 have e:xC [3,4] [⟨1,283,0,[[]],0⟩,⟨1,72,2,[[U g0.zu,C.sl 3 [] 3 0 g0.ends.length false]],0⟩,⟨1,72,2,[[U g0.zu,C.sl 3 [] 3 0 g0.ends.length false]],0⟩,⟨1,0,3,(g0.ends.map zA).set e ([U e0.head,C.sl 4 [] 1 0 e0.next.length false,I e0.zi]),0⟩,⟨2,3,1,e0.next.map encI,0⟩]=[⟨1,0,3,(g0.ends.map zA).set e ([U e0.head,C.sl 1 [] 1 0 e0.next.length false,I e0.zi]),0⟩,⟨2,3,1,e0.next.map encI,0⟩]:=by
  show zK [3,4] ⟨1,0,3,(g0.ends.map zA).set e ([U e0.head,C.sl 4 [] 1 0 e0.next.length false,I e0.zi]),0⟩::_=_;rw[zI (enc:=zA) (λ_=>J)]
  rfl
 rw[e]at hw;exact hw
def TN{g0:Gr}{e:Nat}{e0:En}(h:GB g0 e e0)(H:zm)(hf:qt H=true):tj 240 H [.agg [],.agg (zE g0)] (.agg ([U g0.zu,C.sl H.length [] 3 0 g0.ends.length false])) (H++[⟨1,0,3,(g0.ends.map zA).set e ([U e0.head,C.sl (H.length+1) [] 1 0 e0.next.length false,I e0.zi]),0⟩,⟨2,3,1,e0.next.map encI,0⟩]):=by
 have:=Bb (RM h) (zc (zj (zy (enc:=zA) (λ_=>J) J _ _)) J) J H hf
 have e9:[(⟨1,0,3,(g0.ends.map zA).set e ([U e0.head,C.sl 1 [] 1 0 e0.next.length false,I e0.zi]),0⟩:Ob),⟨2,3,1,e0.next.map encI,0⟩].map (zG (jf [] H.length))=[⟨1,0,3,(g0.ends.map zA).set e ([U e0.head,C.sl (H.length+1) [] 1 0 e0.next.length false,I e0.zi]),0⟩,⟨2,3,1,e0.next.map encI,0⟩]:=by
  show zG _ ⟨1,0,3,_,0⟩::_=_;rw[zC (enc:=zA) (λ_=>J)]
  rfl
 rw[e9]at this;exact dG
def XN(e0:En)(e:Nat)(l:List Gr)(g:Nat)(g0:Gr)(hv:l[g]?=some g0)(hl:l.length<1000000000)(hp:∀x∈l,tj 240 [] [.agg [],.agg (zE x)] (.agg (zE x)) [])
 (hA:∀H,qt H=true->tj 240 H [.agg [],.agg (zE g0)] (.agg ([U g0.zu,C.sl H.length [] 3 0 g0.ends.length false])) (H++[⟨1,0,3,(g0.ends.map zA).set e ([U e0.head,C.sl (H.length+1) [] 1 0 e0.next.length false,I e0.zi]),0⟩,⟨2,3,1,e0.next.map encI,0⟩])):
  tj 239 [] [lG l,.fn 240 [] [],.agg []] (.sl 0 [] 2 0 l.length false) [⟨1,0,2,(l.map zE).set g ([U g0.zu,C.sl 1 [] 3 0 g0.ends.length false]),0⟩,⟨1,0,3,(g0.ends.map zA).set e ([U e0.head,C.sl 2 [] 1 0 e0.next.length false,I e0.zi]),0⟩,⟨2,3,1,e0.next.map encI,0⟩]:=by
 have m1:(l.map zE).length=l.length:=gu ..;have hvl:=(dW.1 hv).1
 have h1:tj 239 [] [lG l,.fn 240 [] [],.agg []] (.sl 1 [] 2 0 l.length false) [⟨1,283,0,[[]],0⟩,⟨1,0,2,(l.map zE).set g ([U g0.zu,C.sl 3 [] 3 0 g0.ends.length false]),0⟩,⟨1,72,2,[zE g0],0⟩,⟨1,0,3,(g0.ends.map zA).set e ([U e0.head,C.sl 4 [] 1 0 e0.next.length false,I e0.zi]),0⟩,⟨2,3,1,e0.next.map encI,0⟩]:=by
  refine zb.zL (fn:=f239) func239 J (uH ?_);rw[m1];refine⟨rfl,aw,by show(32:Int)*_<=_;omega,aw,dd ?_⟩;rw[m1,toNat_cast];have ZZ:List C:=([U 0,.fh 1 0 []]:List C);refine qe.seq l.length (λk=>((lG l)::.fn 240 [] []::.za::.za::.za::.ref 0 [] 0 0 0::.fh 1 0 []::.sl 1 [] 2 0 l.length false::.za::.za::.za::.za::.za::(lG l)::I l.length::I k::tZ ([.za,.za,.za,.za,.za]))) (λk=>if k<=g then [⟨1,283,0,[[]],0⟩,⟨1,0,2,((l.map zE).set g ([U g0.zu,C.sl 3 [] 3 0 g0.ends.length false])).take k++(List.replicate l.length ([U 0,.fh 1 0 []]:List C)).drop k,0⟩] else [⟨1,283,0,[[]],0⟩,⟨1,0,2,((l.map zE).set g ([U g0.zu,C.sl 3 [] 3 0 g0.ends.length false])).take k++(List.replicate l.length ([U 0,.fh 1 0 []]:List C)).drop k,0⟩,⟨1,72,2,[zE g0],0⟩,⟨1,0,3,(g0.ends.map zA).set e ([U e0.head,C.sl 4 [] 1 0 e0.next.length false,I e0.zi]),0⟩,⟨2,3,1,e0.next.map encI,0⟩]) (λk=>True) ?_ trivial (λk hk hr=>?_) (λhr=>?_)
  ·rw[gh (gV _)];refine zq.trans (zq.Da 1 J λr hr c hc=>?_) (cC);rw[pB hr]at hc;exact gz.1 (rfl:([U 0,.fh 1 0 []]:List C).all zx=true) c hc
  ·obtain⟨x,hx⟩:∃x,x=l[k]:=⟨_,rfl⟩;have hx2:l[k]?=some x:=by rw[dX hk,hx]
   have hxm:x∈l:=bN
   have hg:(l.map zE)[k]?=some (zE x):=by rw[gf,hx2];rfl
   have e1:0+(k:Int).toNat=k:=aj
   have low:∀n j,j<=g\/3<n->∀r∈((l.map zE).set g ([U g0.zu,C.sl 3 [] 3 0 g0.ends.length false])).take j++(List.replicate l.length ([U 0,.fh 1 0 []]:List C)).drop j,∀c∈r,qX n 9 c=true:=λn j h=>kT (enc:=zE) (λ_=>J) J l l.length (h.imp_right λh=>by simp[qX,encS];omega)
   have own:∀j,∀r∈((l.map zE).set g ([U g0.zu,C.sl 3 [] 3 0 g0.ends.length false])).take j++(List.replicate l.length ([U 0,.fh 1 0 []]:List C)).drop j,∀c∈r,zx c=true:=λj=>kT (enc:=zE) (λ_=>J) J l l.length (.inr J)
   by_cases hkv:k=g
   ·subst hkv;obtain rfl:g0=x:=by rw[hv]at hx2;exact gp hx2
    have hF:((l.map zE).set k ([U g0.zu,C.sl 3 [] 3 0 g0.ends.length false]))[k]?=some ([U g0.zu,C.sl 3 [] 3 0 g0.ends.length false]):=by rw[gD,gh J,gh (aq hk)]
    rw[gh (gC _),dZ aw];conv=>whnf
    refine uF ?_;(refine tc hg ?_)
    refine⟨_,_,hA _ (zc J (zc (zj (own k)) J)),dd ?_⟩;exact c7
   ·have hF:((l.map zE).set g ([U g0.zu,C.sl 3 [] 3 0 g0.ends.length false]))[k]?=some (zE x):=by rw[gW (λh=>hkv h.symm)];exact hg
    by_cases fj:k<g
    ·rw[gh aw,gh aw];conv=>whnf
     refine uF ?_;(refine tc hg ?_)
     refine ah (hp x hxm) ?_;refine⟨aw,aA,dd ?_⟩;rw[e1];refine⟨_,xm aj hk,rfl,dd ?_⟩;refine .inl ⟨rfl,?_,trivial⟩;rw[zw aw,<-q9 hF hk];refine zq.xG 2 hC J J J (j1 J (yu ?_)) J;have lw:=low 2 (k+1) (.inl aw);rw[<-q9 (z:=([U 0,.fh 1 0 []]:List C)) (n:=l.length) hF hk]at lw;exact lw
    ·rw[dZ aw,dZ aw];conv=>whnf
     refine uF ?_;(refine tc hg ?_)
     refine ah (hp x hxm) ?_;refine⟨aw,aA,dd ?_⟩;rw[e1];refine⟨_,xm aj hk,rfl,dd ?_⟩;refine .inl ⟨rfl,?_,trivial⟩;rw[zw aw,<-q9 hF hk];refine zq.xG 5 hC J J J (j1 J (j1 (yu ?_) (j1 J (j1 (yu (zy (enc:=zA) (λ_=>J) J _ _)) J)))) J;have lw:=low 5 (k+1) (.inr aw);rw[<-q9 (z:=([U 0,.fh 1 0 []]:List C)) (n:=l.length) hF hk]at lw;exact lw
  ·exact dV
 refine h1.nZ (λB h _=>?_) (gV _);have hw:=zq.fx (B:=B) [1,3,4] [0] [.sl 1 [] 2 0 l.length false] [⟨1,283,0,[[]],0⟩,⟨1,0,2,(l.map zE).set g ([U g0.zu,C.sl 3 [] 3 0 g0.ends.length false]),0⟩,⟨1,72,2,[zE g0],0⟩,⟨1,0,3,(g0.ends.map zA).set e ([U e0.head,C.sl 4 [] 1 0 e0.next.length false,I e0.zi]),0⟩,⟨2,3,1,e0.next.map encI,0⟩] tI J J (zc J (zc (zj (zy (enc:=zE) (λ_=>J) J l g)) (zc J (zc (zj (zy (enc:=zA) (λ_=>J) J _ _)) J))))
 have e:xC [1,3,4] [⟨1,283,0,[[]],0⟩,⟨1,0,2,(l.map zE).set g ([U g0.zu,C.sl 3 [] 3 0 g0.ends.length false]),0⟩,⟨1,72,2,[zE g0],0⟩,⟨1,0,3,(g0.ends.map zA).set e ([U e0.head,C.sl 4 [] 1 0 e0.next.length false,I e0.zi]),0⟩,⟨2,3,1,e0.next.map encI,0⟩]=[⟨1,0,2,(l.map zE).set g ([U g0.zu,C.sl 1 [] 3 0 g0.ends.length false]),0⟩,⟨1,0,3,(g0.ends.map zA).set e ([U e0.head,C.sl 2 [] 1 0 e0.next.length false,I e0.zi]),0⟩,⟨2,3,1,e0.next.map encI,0⟩]:=by
  show zK [1,3,4] ⟨1,0,2,(l.map zE).set g ([U g0.zu,C.sl 3 [] 3 0 g0.ends.length false]),0⟩::_=_;rw[zI (enc:=zE) (λ_=>J)];show _::zK [1,3,4] ⟨1,0,3,(g0.ends.map zA).set e ([U e0.head,C.sl 4 [] 1 0 e0.next.length false,I e0.zi]),0⟩::_=_;rw[zI (enc:=zA) (λ_=>J)];rfl
 rw[e]at hw;exact hw
structure GC(v0:fp)(g:Nat)(g0:Gr)(e:Nat)(e0:En):Prop extends GB g0 e e0 where
 lF:GD v0
 fG:v0.zo[g]?=some g0
def YN{v0:fp}{g:Nat}{g0:Gr}{e:Nat}{e0:En}(h:GC v0 g g0 e e0)(H:zm)(hf:qt H=true):tj 239 H [lG v0.zo,.fn 240 [] [],.agg []] (.sl H.length [] 2 0 v0.zo.length false) (H++[⟨1,0,2,(v0.zo.map zE).set g ([U g0.zu,C.sl (H.length+1) [] 3 0 g0.ends.length false]),0⟩,⟨1,0,3,(g0.ends.map zA).set e ([U e0.head,C.sl (H.length+2) [] 1 0 e0.next.length false,I e0.zi]),0⟩,⟨2,3,1,e0.next.map encI,0⟩]):=by
 have:=Bb (XN e0 e v0.zo g g0 h.fG h.lF.1 (λy hy=>K3 y (h.lF.2 y hy)) (TN h.toGB)) (zc (zj (zy (enc:=zE) (λ_=>J) J _ _)) (zc (zj (zy (enc:=zA) (λ_=>J) J _ _)) J)) J H hf
 have e9:[(⟨1,0,2,(v0.zo.map zE).set g ([U g0.zu,C.sl 1 [] 3 0 g0.ends.length false]),0⟩:Ob),⟨1,0,3,(g0.ends.map zA).set e ([U e0.head,C.sl 2 [] 1 0 e0.next.length false,I e0.zi]),0⟩,⟨2,3,1,e0.next.map encI,0⟩].map (zG (jf [] H.length))=[⟨1,0,2,(v0.zo.map zE).set g ([U g0.zu,C.sl (H.length+1) [] 3 0 g0.ends.length false]),0⟩,⟨1,0,3,(g0.ends.map zA).set e ([U e0.head,C.sl (H.length+2) [] 1 0 e0.next.length false,I e0.zi]),0⟩,⟨2,3,1,e0.next.map encI,0⟩]:=by
  show zG _ ⟨1,0,2,_,0⟩::zG _ ⟨1,0,3,_,0⟩::_=_;rw[zC (enc:=zE) (λ_=>J),zC (enc:=zA) (λ_=>J)]
  rfl
 rw[e9]at this;exact dG
def Rq{v0:fp}{g:Nat}{g0:Gr}{e:Nat}{e0:En}(h:GC v0 g g0 e e0):tj 200 [] [.agg [],.agg (zH v0)] (.agg (encS v0.snap++[C.sl 0 [] 2 0 v0.zo.length false,Bo v0.zW])) [⟨1,0,2,(v0.zo.map zE).set g ([U g0.zu,C.sl 1 [] 3 0 g0.ends.length false]),0⟩,⟨1,0,3,(g0.ends.map zA).set e ([U e0.head,C.sl 2 [] 1 0 e0.next.length false,I e0.zi]),0⟩,⟨2,3,1,e0.next.map encI,0⟩]:=by
 have h1:tj 200 [] [.agg [],.agg (zH v0)] (.agg (encS v0.snap++[C.sl 3 [] 2 0 v0.zo.length false,Bo v0.zW])) [⟨1,283,0,[[]],0⟩,⟨1,69,5,[(encS v0.snap++[C.sl 3 [] 2 0 v0.zo.length false,Bo v0.zW])],0⟩,⟨1,69,5,[(encS v0.snap++[C.sl 3 [] 2 0 v0.zo.length false,Bo v0.zW])],0⟩,⟨1,0,2,(v0.zo.map zE).set g ([U g0.zu,C.sl 4 [] 3 0 g0.ends.length false]),0⟩,⟨1,0,3,(g0.ends.map zA).set e ([U e0.head,C.sl 5 [] 1 0 e0.next.length false,I e0.zi]),0⟩,⟨2,3,1,e0.next.map encI,0⟩]:=by
  refine zb.zL (fn:=f200) func200 J (uH ?_);refine⟨_,_,YN h _ J,dd ?_⟩;exact uJ
 refine h1.nZ (λB hB _=>?_) (gV _);have hw:=zq.fx (B:=B) [3,4,5] [0] [.agg (encS v0.snap++[C.sl 3 [] 2 0 v0.zo.length false,Bo v0.zW])] [⟨1,283,0,[[]],0⟩,⟨1,69,5,[(encS v0.snap++[C.sl 3 [] 2 0 v0.zo.length false,Bo v0.zW])],0⟩,⟨1,69,5,[(encS v0.snap++[C.sl 3 [] 2 0 v0.zo.length false,Bo v0.zW])],0⟩,⟨1,0,2,(v0.zo.map zE).set g ([U g0.zu,C.sl 4 [] 3 0 g0.ends.length false]),0⟩,⟨1,0,3,(g0.ends.map zA).set e ([U e0.head,C.sl 5 [] 1 0 e0.next.length false,I e0.zi]),0⟩,⟨2,3,1,e0.next.map encI,0⟩] (by rw[show B=0 from aq hB];rfl) J J (zc J (zc J (zc J (zc (zj (zy (enc:=zE) (λ_=>J) J _ _)) (zc (zj (zy (enc:=zA) (λ_=>J) J _ _)) J)))))
 have e:xC [3,4,5] [⟨1,283,0,[[]],0⟩,⟨1,69,5,[(encS v0.snap++[C.sl 3 [] 2 0 v0.zo.length false,Bo v0.zW])],0⟩,⟨1,69,5,[(encS v0.snap++[C.sl 3 [] 2 0 v0.zo.length false,Bo v0.zW])],0⟩,⟨1,0,2,(v0.zo.map zE).set g ([U g0.zu,C.sl 4 [] 3 0 g0.ends.length false]),0⟩,⟨1,0,3,(g0.ends.map zA).set e ([U e0.head,C.sl 5 [] 1 0 e0.next.length false,I e0.zi]),0⟩,⟨2,3,1,e0.next.map encI,0⟩]=[⟨1,0,2,(v0.zo.map zE).set g ([U g0.zu,C.sl 1 [] 3 0 g0.ends.length false]),0⟩,⟨1,0,3,(g0.ends.map zA).set e ([U e0.head,C.sl 2 [] 1 0 e0.next.length false,I e0.zi]),0⟩,⟨2,3,1,e0.next.map encI,0⟩]:=by
  show zK [3,4,5] ⟨1,0,2,(v0.zo.map zE).set g ([U g0.zu,C.sl 4 [] 3 0 g0.ends.length false]),0⟩::zK [3,4,5] ⟨1,0,3,(g0.ends.map zA).set e ([U e0.head,C.sl 5 [] 1 0 e0.next.length false,I e0.zi]),0⟩::_=_;rw[zI (enc:=zE) (λ_=>J),zI (enc:=zA) (λ_=>J)]
  rfl
 rw[e]at hw;exact hw
def Si{v0:fp}{g:Nat}{g0:Gr}{e:Nat}{e0:En}(h:GC v0 g g0 e e0)(H:zm)(hf:qt H=true):tj 200 H [.agg [],.agg (zH v0)] (.agg ((encS v0.snap++[C.sl H.length [] 2 0 v0.zo.length false,Bo v0.zW]))) (H++[⟨1,0,2,(v0.zo.map zE).set g ([U g0.zu,C.sl (H.length+1) [] 3 0 g0.ends.length false]),0⟩,⟨1,0,3,(g0.ends.map zA).set e ([U e0.head,C.sl (H.length+2) [] 1 0 e0.next.length false,I e0.zi]),0⟩,⟨2,3,1,e0.next.map encI,0⟩]):=by
 have:=Bb (Rq h) (zc (zj (zy (enc:=zE) (λ_=>J) J _ _)) (zc (zj (zy (enc:=zA) (λ_=>J) J _ _)) J)) J H hf
 have e9:[(⟨1,0,2,(v0.zo.map zE).set g ([U g0.zu,C.sl 1 [] 3 0 g0.ends.length false]),0⟩:Ob),⟨1,0,3,(g0.ends.map zA).set e ([U e0.head,C.sl 2 [] 1 0 e0.next.length false,I e0.zi]),0⟩,⟨2,3,1,e0.next.map encI,0⟩].map (zG (jf [] H.length))=[⟨1,0,2,(v0.zo.map zE).set g ([U g0.zu,C.sl (H.length+1) [] 3 0 g0.ends.length false]),0⟩,⟨1,0,3,(g0.ends.map zA).set e ([U e0.head,C.sl (H.length+2) [] 1 0 e0.next.length false,I e0.zi]),0⟩,⟨2,3,1,e0.next.map encI,0⟩]:=by
  show zG _ ⟨1,0,2,_,0⟩::zG _ ⟨1,0,3,_,0⟩::_=_;rw[zC (enc:=zE) (λ_=>J),zC (enc:=zA) (λ_=>J)]
  rfl
 rw[e9]at this;exact dG
def XP(g0:Gr)(g:Nat)(e0:En)(e:Nat)(l:List fp)(v:Nat)(v0:fp)(hv:l[v]?=some v0)(hl:l.length<1000000000)(hp:∀x∈l,tj 200 [] [.agg [],.agg (zH x)] (.agg (zH x)) [])
 (hA:∀H,qt H=true->tj 200 H [.agg [],.agg (zH v0)] (.agg ((encS v0.snap++[C.sl H.length [] 2 0 v0.zo.length false,Bo v0.zW]))) (H++[⟨1,0,2,(v0.zo.map zE).set g ([U g0.zu,C.sl (H.length+1) [] 3 0 g0.ends.length false]),0⟩,⟨1,0,3,(g0.ends.map zA).set e ([U e0.head,C.sl (H.length+2) [] 1 0 e0.next.length false,I e0.zi]),0⟩,⟨2,3,1,e0.next.map encI,0⟩])):
  tj 199 [] [lV l,.fn 200 [] [],.agg []] (.sl 0 [] 5 0 l.length false) [⟨1,0,5,(l.map zH).set v ((encS v0.snap++[C.sl 1 [] 2 0 v0.zo.length false,Bo v0.zW])),0⟩,⟨1,0,2,(v0.zo.map zE).set g ([U g0.zu,C.sl 2 [] 3 0 g0.ends.length false]),0⟩,⟨1,0,3,(g0.ends.map zA).set e ([U e0.head,C.sl 3 [] 1 0 e0.next.length false,I e0.zi]),0⟩,⟨2,3,1,e0.next.map encI,0⟩]:=by
 have m1:(l.map zH).length=l.length:=gu ..;have hvl:=(dW.1 hv).1
 have h1:tj 199 [] [lV l,.fn 200 [] [],.agg []] (.sl 1 [] 5 0 l.length false) [⟨1,283,0,[[]],0⟩,⟨1,0,5,(l.map zH).set v ((encS v0.snap++[C.sl 3 [] 2 0 v0.zo.length false,Bo v0.zW])),0⟩,⟨1,69,5,[zH v0],0⟩,⟨1,0,2,(v0.zo.map zE).set g ([U g0.zu,C.sl 4 [] 3 0 g0.ends.length false]),0⟩,⟨1,0,3,(g0.ends.map zA).set e ([U e0.head,C.sl 5 [] 1 0 e0.next.length false,I e0.zi]),0⟩,⟨2,3,1,e0.next.map encI,0⟩]:=by
  refine zb.zL (fn:=f199) func199 J (uH ?_);rw[m1];refine⟨rfl,aw,by show(104:Int)*_<=_;omega,aw,dd ?_⟩;rw[m1,toNat_cast];have ZZ:List C:=([.fh 1 0 [],.fh 1 0 [],.fh 1 0 [],.fh 1 0 [],Bo false]:List C);refine qe.seq l.length (λk=>((lV l)::.fn 200 [] []::.za::.za::.za::.ref 0 [] 0 0 0::.fh 1 0 []::.sl 1 [] 5 0 l.length false::.za::.za::.za::.za::.za::(lV l)::I l.length::I k::tZ ([.za,.za,.za,.za,.za]))) (λk=>if k<=v then [⟨1,283,0,[[]],0⟩,⟨1,0,5,((l.map zH).set v ((encS v0.snap++[C.sl 3 [] 2 0 v0.zo.length false,Bo v0.zW]))).take k++(List.replicate l.length ([.fh 1 0 [],.fh 1 0 [],.fh 1 0 [],.fh 1 0 [],Bo false]:List C)).drop k,0⟩] else [⟨1,283,0,[[]],0⟩,⟨1,0,5,((l.map zH).set v ((encS v0.snap++[C.sl 3 [] 2 0 v0.zo.length false,Bo v0.zW]))).take k++(List.replicate l.length ([.fh 1 0 [],.fh 1 0 [],.fh 1 0 [],.fh 1 0 [],Bo false]:List C)).drop k,0⟩,⟨1,69,5,[zH v0],0⟩,⟨1,0,2,(v0.zo.map zE).set g ([U g0.zu,C.sl 4 [] 3 0 g0.ends.length false]),0⟩,⟨1,0,3,(g0.ends.map zA).set e ([U e0.head,C.sl 5 [] 1 0 e0.next.length false,I e0.zi]),0⟩,⟨2,3,1,e0.next.map encI,0⟩]) (λk=>True) ?_ trivial (λk hk hr=>?_) (λhr=>?_)
  ·rw[gh (gV _)];refine zq.trans (zq.Da 1 J λr hr c hc=>?_) (cC);rw[pB hr]at hc;exact gz.1 (rfl:([.fh 1 0 [],.fh 1 0 [],.fh 1 0 [],.fh 1 0 [],Bo false]:List C).all zx=true) c hc
  ·obtain⟨x,hx⟩:∃x,x=l[k]:=⟨_,rfl⟩;have hx2:l[k]?=some x:=by rw[dX hk,hx]
   have hxm:x∈l:=bN
   have hg:(l.map zH)[k]?=some (zH x):=by rw[gf,hx2];rfl
   have e1:0+(k:Int).toNat=k:=aj
   have low:∀n j,j<=v\/3<n->∀r∈((l.map zH).set v ((encS v0.snap++[C.sl 3 [] 2 0 v0.zo.length false,Bo v0.zW]))).take j++(List.replicate l.length ([.fh 1 0 [],.fh 1 0 [],.fh 1 0 [],.fh 1 0 [],Bo false]:List C)).drop j,∀c∈r,qX n 9 c=true:=λn j h=>kT (enc:=zH) (λ_=>J) J l l.length (h.imp_right λh=>by simp[qX,encS];omega)
   have own:∀j,∀r∈((l.map zH).set v ((encS v0.snap++[C.sl 3 [] 2 0 v0.zo.length false,Bo v0.zW]))).take j++(List.replicate l.length ([.fh 1 0 [],.fh 1 0 [],.fh 1 0 [],.fh 1 0 [],Bo false]:List C)).drop j,∀c∈r,zx c=true:=λj=>kT (enc:=zH) (λ_=>J) J l l.length (.inr J)
   by_cases hkv:k=v
   ·subst hkv;obtain rfl:v0=x:=by rw[hv]at hx2;exact gp hx2
    have hF:((l.map zH).set k ((encS v0.snap++[C.sl 3 [] 2 0 v0.zo.length false,Bo v0.zW])))[k]?=some ((encS v0.snap++[C.sl 3 [] 2 0 v0.zo.length false,Bo v0.zW])):=by rw[gD,gh J,gh (aq hk)]
    rw[gh (gC _),dZ aw];conv=>whnf
    refine uF ?_;(refine tc hg ?_)
    refine⟨_,_,hA _ (zc J (zc (zj (own k)) J)),dd ?_⟩;exact c7
   ·have hF:((l.map zH).set v ((encS v0.snap++[C.sl 3 [] 2 0 v0.zo.length false,Bo v0.zW])))[k]?=some (zH x):=by rw[gW (λh=>hkv h.symm)];exact hg
    by_cases fj:k<v
    ·rw[gh aw,gh aw];conv=>whnf
     refine uF ?_;(refine tc hg ?_)
     refine ah (hp x hxm) ?_;refine⟨aw,aA,dd ?_⟩;rw[e1];refine⟨_,xm aj hk,rfl,dd ?_⟩;refine .inl ⟨rfl,?_,trivial⟩;rw[zw aw,<-q9 hF hk];refine zq.xG 2 hC J J J (j1 J (yu ?_)) J;have lw:=low 2 (k+1) (.inl aw);rw[<-q9 (z:=([.fh 1 0 [],.fh 1 0 [],.fh 1 0 [],.fh 1 0 [],Bo false]:List C)) (n:=l.length) hF hk]at lw;exact lw
    ·rw[dZ aw,dZ aw];conv=>whnf
     refine uF ?_;(refine tc hg ?_)
     refine ah (hp x hxm) ?_;refine⟨aw,aA,dd ?_⟩;rw[e1];refine⟨_,xm aj hk,rfl,dd ?_⟩;refine .inl ⟨rfl,?_,trivial⟩;rw[zw aw,<-q9 hF hk];refine zq.xG 6 hC J J J (j1 J (j1 (yu ?_) (j1 J (j1 (yu (zy (enc:=zE) (λ_=>J) J _ _)) (j1 (yu (zy (enc:=zA) (λ_=>J) J _ _)) J))))) J;have lw:=low 6 (k+1) (.inr aw);rw[<-q9 (z:=([.fh 1 0 [],.fh 1 0 [],.fh 1 0 [],.fh 1 0 [],Bo false]:List C)) (n:=l.length) hF hk]at lw;exact lw
  ·exact dV
 refine h1.nZ (λB h _=>?_) (gV _);have hw:=zq.fx (B:=B) [1,3,4,5] [0] [.sl 1 [] 5 0 l.length false] [⟨1,283,0,[[]],0⟩,⟨1,0,5,(l.map zH).set v ((encS v0.snap++[C.sl 3 [] 2 0 v0.zo.length false,Bo v0.zW])),0⟩,⟨1,69,5,[zH v0],0⟩,⟨1,0,2,(v0.zo.map zE).set g ([U g0.zu,C.sl 4 [] 3 0 g0.ends.length false]),0⟩,⟨1,0,3,(g0.ends.map zA).set e ([U e0.head,C.sl 5 [] 1 0 e0.next.length false,I e0.zi]),0⟩,⟨2,3,1,e0.next.map encI,0⟩] tI J J (zc J (zc (zj (zy (enc:=zH) (λ_=>J) J l v)) (zc J (zc (zj (zy (enc:=zE) (λ_=>J) J _ _)) (zc (zj (zy (enc:=zA) (λ_=>J) J _ _)) J)))))
 have e:xC [1,3,4,5] [⟨1,283,0,[[]],0⟩,⟨1,0,5,(l.map zH).set v ((encS v0.snap++[C.sl 3 [] 2 0 v0.zo.length false,Bo v0.zW])),0⟩,⟨1,69,5,[zH v0],0⟩,⟨1,0,2,(v0.zo.map zE).set g ([U g0.zu,C.sl 4 [] 3 0 g0.ends.length false]),0⟩,⟨1,0,3,(g0.ends.map zA).set e ([U e0.head,C.sl 5 [] 1 0 e0.next.length false,I e0.zi]),0⟩,⟨2,3,1,e0.next.map encI,0⟩]=[⟨1,0,5,(l.map zH).set v ((encS v0.snap++[C.sl 1 [] 2 0 v0.zo.length false,Bo v0.zW])),0⟩,⟨1,0,2,(v0.zo.map zE).set g ([U g0.zu,C.sl 2 [] 3 0 g0.ends.length false]),0⟩,⟨1,0,3,(g0.ends.map zA).set e ([U e0.head,C.sl 3 [] 1 0 e0.next.length false,I e0.zi]),0⟩,⟨2,3,1,e0.next.map encI,0⟩]:=by
  show zK [1,3,4,5] ⟨1,0,5,(l.map zH).set v ((encS v0.snap++[C.sl 3 [] 2 0 v0.zo.length false,Bo v0.zW])),0⟩::_=_;rw[zI (enc:=zH) (λ_=>J)];show _::zK [1,3,4,5] ⟨1,0,2,(v0.zo.map zE).set g ([U g0.zu,C.sl 4 [] 3 0 g0.ends.length false]),0⟩::zK [1,3,4,5] ⟨1,0,3,(g0.ends.map zA).set e ([U e0.head,C.sl 5 [] 1 0 e0.next.length false,I e0.zi]),0⟩::_=_;rw[zI (enc:=zE) (λ_=>J),zI (enc:=zA) (λ_=>J)];rfl
 rw[e]at hw;exact hw
structure BO(vs:List fp)(v:Nat)(v0:fp)(g:Nat)(g0:Gr)(e:Nat)(e0:En):Prop extends GC v0 g g0 e e0 where
 P2:vs.length<1000000000/\∀v∈vs,GD v
 fN:vs[v]?=some v0
def YQ{vs:List fp}{v:Nat}{v0:fp}{g:Nat}{g0:Gr}{e:Nat}{e0:En}(h:BO vs v v0 g g0 e e0)(H:zm)(hf:qt H=true):tj 199 H [lV vs,.fn 200 [] [],.agg []] (.sl H.length [] 5 0 vs.length false) (H++[⟨1,0,5,(vs.map zH).set v ((encS v0.snap++[C.sl (H.length+1) [] 2 0 v0.zo.length false,Bo v0.zW])),0⟩,⟨1,0,2,(v0.zo.map zE).set g ([U g0.zu,C.sl (H.length+2) [] 3 0 g0.ends.length false]),0⟩,⟨1,0,3,(g0.ends.map zA).set e ([U e0.head,C.sl (H.length+3) [] 1 0 e0.next.length false,I e0.zi]),0⟩,⟨2,3,1,e0.next.map encI,0⟩]):=by
 have:=Bb (XP g0 g e0 e vs v v0 h.fN h.P2.1 (λy hy=>jT y (h.P2.2 y hy)) (Si h.toGC)) (zc (zj (zy (enc:=zH) (λ_=>J) J _ _)) (zc (zj (zy (enc:=zE) (λ_=>J) J _ _)) (zc (zj (zy (enc:=zA) (λ_=>J) J _ _)) J))) J H hf
 have e9:[(⟨1,0,5,(vs.map zH).set v ((encS v0.snap++[C.sl 1 [] 2 0 v0.zo.length false,Bo v0.zW])),0⟩:Ob),⟨1,0,2,(v0.zo.map zE).set g ([U g0.zu,C.sl 2 [] 3 0 g0.ends.length false]),0⟩,⟨1,0,3,(g0.ends.map zA).set e ([U e0.head,C.sl 3 [] 1 0 e0.next.length false,I e0.zi]),0⟩,⟨2,3,1,e0.next.map encI,0⟩].map (zG (jf [] H.length))=[⟨1,0,5,(vs.map zH).set v ((encS v0.snap++[C.sl (H.length+1) [] 2 0 v0.zo.length false,Bo v0.zW])),0⟩,⟨1,0,2,(v0.zo.map zE).set g ([U g0.zu,C.sl (H.length+2) [] 3 0 g0.ends.length false]),0⟩,⟨1,0,3,(g0.ends.map zA).set e ([U e0.head,C.sl (H.length+3) [] 1 0 e0.next.length false,I e0.zi]),0⟩,⟨2,3,1,e0.next.map encI,0⟩]:=by
  show zG _ ⟨1,0,5,_,0⟩::zG _ ⟨1,0,2,_,0⟩::zG _ ⟨1,0,3,_,0⟩::_=_;rw[zC (enc:=zH) (λ_=>J),zC (enc:=zE) (λ_=>J),zC (enc:=zA) (λ_=>J)]
  rfl
 rw[e9]at this;exact dG
def BD(l:List (List Int))(hl:l.length<1000000000)(hp:∀x∈l,tj 203 [] [.agg [],lU x] (lU x) []):tj 202 [] [fU l,.fn 203 [] [],.agg []] (.sl 0 [] 1 0 l.length false) [⟨2,212,1,l.map zN,0⟩]:=by
 have m1:(l.map zN).length=l.length:=gu ..;refine zb.zL (fn:=f202) func202 J (uH ?_);rw[m1];refine⟨rfl,aw,by show(24:Int)*_<=_;omega,aw,dd ?_⟩;rw[m1,toNat_cast];refine qe.seq l.length (λk=>((fU l)::.fn 203 [] []::.za::.za::.za::.ref 0 [] 0 0 0::.fh 1 0 []::.sl 1 [] 1 0 l.length false::.za::.za::.za::.za::.za::(fU l)::I l.length::I k::tZ ([.za,.za,.za,.za,.za]))) (λk=>[⟨1,283,0,[[]],0⟩,⟨2,212,1,(l.map zN).take k++(List.replicate l.length ([.fh 1 0 []]:List C)).drop k,0⟩]) (λk=>True) ?_ trivial (λk hk hr=>?_) (λhr=>?_)
 ·exact cC
 ·obtain⟨x,hx⟩:∃x,x=l[k]:=⟨_,rfl⟩;have hx2:l[k]?=some x:=by rw[dX hk,hx]
  have hg:(l.map zN)[k]?=some (zN x):=by rw[gf,hx2];rfl
  conv=>whnf
  refine uF ?_;(refine tc hg ?_)
  refine ah (hp x tG) ?_;refine⟨aw,aA,dd ?_⟩;have e1:0+(k:Int).toNat=k:=aj
  rw[e1];refine⟨_,xm aj hk,rfl,dd ?_⟩;refine .inl ⟨rfl,?_,trivial⟩;have e2:=q9 (z:=([.fh 1 0 []]:List C)) (n:=l.length) hg hk;rw[zw aw,<-e2];exact cE 2
 ·exact dh
def Uv(r0:List Int)(x:Int)(l:List Int)(he:r0=x::l)(hl:l.length<1000000000):tj 203 [] [.agg [],lU r0] (.sl 0 [] 1 0 r0.length false) [⟨2,48,1,r0.map jZ,0⟩]:=by
 have h1:tj 203 [] [.agg [],lU r0] (.sl 1 [] 1 0 r0.length false) [⟨1,283,0,[[]],0⟩,⟨2,48,1,r0.map jZ,0⟩]:=by
  have hc:=XJ x l hl;rw[<-he]at hc;refine zb.zL (fn:=f203) func203 J (uH ?_);refine af [] (hc) ?_;exact uJ
 exact h1.nZ (λB h _=>zq.fx [1] [0] _ _ tI J J J) (gV _)
def Yb(r0:List Int)(x:Int)(l:List Int)(he:r0=x::l)(hl:l.length<1000000000)(H:zm)(hf:qt H=true):tj 203 H [.agg [],lU r0] (.sl H.length [] 1 0 r0.length false) (H++[⟨2,48,1,r0.map jZ,0⟩]):=
 Bb (Uv r0 x l he hl) J J H hf
def Cg{P:Program}{f:FuncId}{fn:Func}{c:Code}{H2:zm}{args:List C}{r:C}(hf:P.funcs[f]?=some fn)(hb:fn.body=some c)
 (h:wpA P 0 c (entry fn args) [] λex t1 H1=>(ex=.ret\/ex=.normal)/\∃s2 r1,zq 0 ⟨t1,H1⟩ s2/\kB P fn s2=some r1/\zq 0 ⟨[r1],s2.H⟩ ⟨[r],H2⟩):zb P f [] args r H2:=λw E vs hh hl=>by
 have h1:qI P f [] args λr1 H1=>zq 0 ⟨[r1],H1⟩ ⟨[r],H2⟩:=qI.zL hf hb h
 refine(h1 w E vs hh hl).mono ?_;rintro e w' ⟨r1,H1,v,E',hw,h0,h2,h3,g⟩;obtain⟨E2,hs,g2⟩:=hw 0 w' E' ⟨#[v],[]⟩ ⟨h2,LL.one h3,gV _,gV _⟩;have hn2:=hs.heap.n;have hn0:E.n=0:=hh.n;refine⟨v,E2,h0,hs.heap,hs.tmps.cons_inv.1,⟨⟨by rw[hn0];exact gV _,λid hops hi=>by rw[hn0]at hi;omega,λid hops hi=>by rw[hn0]at hi;omega,λb o u hu=>g2.le.St _ _ _ (g.le.St _ _ _ hu),λid k u hi hu=>by rw[hn0]at hi;omega⟩,g2.os.trans g.os,g2.tape.trans g.tape,g2.output.trans g.output,pA g.size g2.size,?_,?_,?_⟩⟩
 ·intro k hk ho;exact da
 ·intro b o u hu;rcases g2.jX b o u hu with h1|h1|h1
  ·exact g.jX b o u h1
  ·exact .inr (.inl (pA g.size h1))
  ·rcases g.own b h1 with h4|h4
   ·exact .inr (.inl h4)
   ·exact .inr (.inr h4)
 ·intro b hb;rcases g2.own b hb with h1|h1
  ·exact .inl (pA g.size h1)
  ·exact g.own b h1
def qC(w:Wor)(h:jd w):tj 152 [] [Cw w] (Cw w) []:=by
 refine ab func152 ?_;refine ah (vF w.pins h.pins) ?_;refine af [] (BE w.zd h.zd.1 λv hv=>jT v (h.zd.2 v hv)) ?_;refine ah (kO w.ze h.ze) ?_;refine af [] (BD w.counts h.counts.1 λr hr=>yp r (h.counts.2 r hr)) ?_;refine ah (CN w.zp h.zp) ?_;exact⟨.inl J,_,(zq.zV 1 0 4 J J J J (.inr J) J aj (shut_map (enc:=zH) (λ_=>J) w.zd) (qa J)).trans (zq.zV 1 0 6 J J J J (.inr J) J aj (shut_map (enc:=zN) (λ_=>J) w.counts) (qa J)),rfl⟩
def XO(l:List (List Int))(t:Nat)(r0:(List Int))(hv:l[t]?=some r0)(hl:l.length<1000000000)(hp:∀x∈l,tj 203 [] [.agg [],lU x] (lU x) [])
 (hA:∀H,qt H=true->tj 203 H [.agg [],lU r0] (.sl H.length [] 1 0 r0.length false) (H++[⟨2,48,1,r0.map jZ,0⟩])):
  tj 202 [] [fU l,.fn 203 [] [],.agg []] (.sl 0 [] 1 0 l.length false) [⟨1,0,1,(l.map zN).set t ([C.sl 1 [] 1 0 r0.length false]),0⟩,⟨2,48,1,r0.map jZ,0⟩]:=by
 have m1:(l.map zN).length=l.length:=gu ..;have hvl:=(dW.1 hv).1
 have h1:tj 202 [] [fU l,.fn 203 [] [],.agg []] (.sl 1 [] 1 0 l.length false) [⟨1,283,0,[[]],0⟩,⟨1,0,1,(l.map zN).set t ([C.sl 2 [] 1 0 r0.length false]),0⟩,⟨2,48,1,r0.map jZ,0⟩]:=by
  refine zb.zL (fn:=f202) func202 J (uH ?_);rw[m1];refine⟨rfl,aw,by show(24:Int)*_<=_;omega,aw,dd ?_⟩;rw[m1,toNat_cast];have ZZ:List C:=([.fh 1 0 []]:List C);refine qe.seq l.length (λk=>((fU l)::.fn 203 [] []::.za::.za::.za::.ref 0 [] 0 0 0::.fh 1 0 []::.sl 1 [] 1 0 l.length false::.za::.za::.za::.za::.za::(fU l)::I l.length::I k::tZ ([.za,.za,.za,.za,.za]))) (λk=>if k<=t then [⟨1,283,0,[[]],0⟩,⟨1,0,1,((l.map zN).set t ([C.sl 2 [] 1 0 r0.length false])).take k++(List.replicate l.length ([.fh 1 0 []]:List C)).drop k,0⟩] else [⟨1,283,0,[[]],0⟩,⟨1,0,1,((l.map zN).set t ([C.sl 2 [] 1 0 r0.length false])).take k++(List.replicate l.length ([.fh 1 0 []]:List C)).drop k,0⟩,⟨2,48,1,r0.map jZ,0⟩]) (λk=>True) ?_ trivial (λk hk hr=>?_) (λhr=>?_)
  ·rw[gh (gV _)];refine zq.trans (zq.Da 1 J λr hr c hc=>?_) (cC);rw[pB hr]at hc;exact gz.1 (rfl:([.fh 1 0 []]:List C).all zx=true) c hc
  ·obtain⟨x,hx⟩:∃x,x=l[k]:=⟨_,rfl⟩;have hx2:l[k]?=some x:=by rw[dX hk,hx]
   have hxm:x∈l:=bN
   have hg:(l.map zN)[k]?=some (zN x):=by rw[gf,hx2];rfl
   have e1:0+(k:Int).toNat=k:=aj
   have low:∀n j,j<=t\/2<n->∀r∈((l.map zN).set t ([C.sl 2 [] 1 0 r0.length false])).take j++(List.replicate l.length ([.fh 1 0 []]:List C)).drop j,∀c∈r,qX n 9 c=true:=λn j h=>kT (enc:=zN) (λ_=>J) J l l.length (h.imp_right λh=>by simp[qX,encS];omega)
   have own:∀j,∀r∈((l.map zN).set t ([C.sl 2 [] 1 0 r0.length false])).take j++(List.replicate l.length ([.fh 1 0 []]:List C)).drop j,∀c∈r,zx c=true:=λj=>kT (enc:=zN) (λ_=>J) J l l.length (.inr J)
   by_cases hkv:k=t
   ·subst hkv;obtain rfl:r0=x:=by rw[hv]at hx2;exact gp hx2
    have hF:((l.map zN).set k ([C.sl 2 [] 1 0 r0.length false]))[k]?=some ([C.sl 2 [] 1 0 r0.length false]):=by rw[gD,gh J,gh (aq hk)]
    rw[gh (gC _),dZ aw];conv=>whnf
    refine uF ?_;(refine tc hg ?_)
    refine⟨_,_,hA _ (zc J (zj (own k))),dd ?_⟩;exact c7
   ·have hF:((l.map zN).set t ([C.sl 2 [] 1 0 r0.length false]))[k]?=some (zN x):=by rw[gW (λh=>hkv h.symm)];exact hg
    by_cases fj:k<t
    ·rw[gh aw,gh aw];conv=>whnf
     refine uF ?_;(refine tc hg ?_)
     refine ah (hp x hxm) ?_;refine⟨aw,aA,dd ?_⟩;rw[e1];refine⟨_,xm aj hk,rfl,dd ?_⟩;refine .inl ⟨rfl,?_,trivial⟩;rw[zw aw,<-q9 hF hk];refine zq.xG 2 hC J J J (j1 J (yu ?_)) J;have lw:=low 2 (k+1) (.inl aw);rw[<-q9 (z:=([.fh 1 0 []]:List C)) (n:=l.length) hF hk]at lw;exact lw
    ·rw[dZ aw,dZ aw];conv=>whnf
     refine uF ?_;(refine tc hg ?_)
     refine ah (hp x hxm) ?_;refine⟨aw,aA,dd ?_⟩;rw[e1];refine⟨_,xm aj hk,rfl,dd ?_⟩;refine .inl ⟨rfl,?_,trivial⟩;rw[zw aw,<-q9 hF hk];refine zq.xG 3 hC J J J (j1 J (j1 (yu ?_) J)) J;have lw:=low 3 (k+1) (.inr aw);rw[<-q9 (z:=([.fh 1 0 []]:List C)) (n:=l.length) hF hk]at lw;exact lw
  ·exact dV
 refine h1.nZ (λB h _=>?_) (gV _);have hw:=zq.fx (B:=B) [1,2] [0] [.sl 1 [] 1 0 l.length false] [⟨1,283,0,[[]],0⟩,⟨1,0,1,(l.map zN).set t ([C.sl 2 [] 1 0 r0.length false]),0⟩,⟨2,48,1,r0.map jZ,0⟩] tI J J (zc J (zc (zj (zy (enc:=zN) (λ_=>J) J l t)) J))
 have e:xC [1,2] [⟨1,283,0,[[]],0⟩,⟨1,0,1,(l.map zN).set t ([C.sl 2 [] 1 0 r0.length false]),0⟩,⟨2,48,1,r0.map jZ,0⟩]=[⟨1,0,1,(l.map zN).set t ([C.sl 1 [] 1 0 r0.length false]),0⟩,⟨2,48,1,r0.map jZ,0⟩]:=by
  show zK [1,2] ⟨1,0,1,(l.map zN).set t ([C.sl 2 [] 1 0 r0.length false]),0⟩::_=_;rw[zI (enc:=zN) (λ_=>J)]
  rfl
 rw[e]at hw;exact hw
structure GA(cs:List (List Int))(t:Nat)(r0:List Int):Prop where
 sm:cs.length<1000000000/\∀r∈cs,r.length<1000000000
 at_:cs[t]?=some r0
 ne:r0≠[]
def YP{cs:List (List Int)}{t:Nat}{r0:List Int}(h:GA cs t r0)(H:zm)(hf:qt H=true):tj 202 H [fU cs,.fn 203 [] [],.agg []] (.sl H.length [] 1 0 cs.length false) (H++[⟨1,0,1,(cs.map zN).set t ([C.sl (H.length+1) [] 1 0 r0.length false]),0⟩,⟨2,48,1,r0.map jZ,0⟩]):=by
 obtain⟨x,l,hx⟩:∃x l,r0=x::l:=by
  cases hh:r0 with
  |nil=>exact absurd hh h.ne
  |cons x l=>exact⟨x,l,rfl⟩
 have hlen:l.length<1000000000:=by
  have:=h.sm.2 r0 (dY h.at_);rw[hx]at this;exact cW
 have:=Bb (XO cs t r0 h.at_ h.sm.1 (λy hy=>yp y (h.sm.2 y hy)) (Yb r0 x l hx hlen)) (zc (zj (zy (enc:=zN) (λ_=>J) J _ _)) J) J H hf
 have e9:[(⟨1,0,1,(cs.map zN).set t ([C.sl 1 [] 1 0 r0.length false]),0⟩:Ob),⟨2,48,1,r0.map jZ,0⟩].map (zG (jf [] H.length))=[⟨1,0,1,(cs.map zN).set t ([C.sl (H.length+1) [] 1 0 r0.length false]),0⟩,⟨2,48,1,r0.map jZ,0⟩]:=by
  show zG _ ⟨1,0,1,_,0⟩::_=_;rw[zC (enc:=zN) (λ_=>J)]
  rfl
 rw[e9]at this;exact dG
def K8(w:Wor)(h:jd w)(x:Int)(l:List Int)(hx:w.pins=x::l):tj 152 [] [Cw w] (.agg [I w.zl,I w.current,I w.lock,.sl 0 [] 1 0 w.pins.length false,lV w.zd,lL w.ze,fU w.counts,lR w.zp]) [⟨2,3,1,w.pins.map encI,0⟩]:=by
 have hl:l.length<1000000000:=by have:=h.pins;rw[hx]at this;exact cW
 have hc:=NW x l hl;rw[<-hx]at hc;refine Cg (fn:=f152) func152 J (uH ?_);refine af [] (hc) ?_;refine af [] (BE w.zd h.zd.1 λv hv=>jT v (h.zd.2 v hv)) ?_;refine ah (kO w.ze h.ze) ?_;refine af [] (BD w.counts h.counts.1 λr hr=>yp r (h.counts.2 r hr)) ?_;refine ah (CN w.zp h.zp) ?_;refine⟨.inl J,_,_,(zq.zV 1 0 4 J J J J (.inr J) J aj (shut_map (enc:=zH) (λ_=>J) w.zd) (qa J)).trans (zq.zV 1 0 6 J J J J (.inr J) J aj (shut_map (enc:=zN) (λ_=>J) w.counts) (qa J)),rfl,?_⟩;exact zq.fx [3] [0] _ _ J J J (zc J (zc J (zc J (zc J (zc (zj λr hr c hc=>((shut_map (enc:=zH) (λ_=>J) w.zd) r hr c hc).2) (zj λr hr c hc=>((shut_map (enc:=zN) (λ_=>J) w.counts) r hr c hc).2))))))
def Og{B:Nat}(sel m:List Nat){t t2:List C}{H H2:zm}(hB:Dd B 0 sel=true)(z8:sel.all (λid=>Nat.blt id H.length)=true)(iw:yl sel=true)(fW:qt H=true)(et:(AH m 0 t).map (xO sel 9)=t2)(e:xC sel H=H2):zq B ⟨t,H⟩ ⟨t2,H2⟩:=by
 subst et e;exact zq.fx sel m t H hB z8 iw fW
def vG(w:Wor)(h:jd w)(x:fI)(l:List fI)(hx:w.ze=x::l):tj 152 [] [Cw w] (.agg [I w.zl,I w.current,I w.lock,lI w.pins,lV w.zd,.sl 0 [] 4 0 w.ze.length false,fU w.counts,lR w.zp]) [⟨2,76,4,w.ze.map qP,0⟩]:=by
 have hl:l.length<1000000000:=by have:=h.ze;rw[hx]at this;exact cW
 have hc:=XI x l hl;rw[<-hx]at hc;refine Cg (fn:=f152) func152 J (uH ?_);refine ah (vF w.pins h.pins) ?_;refine af [] (BE w.zd h.zd.1 λv hv=>jT v (h.zd.2 v hv)) ?_;refine af [] (hc) ?_;refine af [] (BD w.counts h.counts.1 λr hr=>yp r (h.counts.2 r hr)) ?_;refine ah (CN w.zp h.zp) ?_;refine⟨.inl J,_,_,(zq.zV 1 0 4 J J J J (.inr J) J aj (shut_map (enc:=zH) (λ_=>J) w.zd) (qa J)).trans (zq.zV 1 0 6 J J J J (.inr J) J aj (shut_map (enc:=zN) (λ_=>J) w.counts) (qa J)),rfl,?_⟩;exact zq.fx [4] [0] _ _ J J J (zc J (zc J (zc J (zc (zj λr hr c hc=>((shut_map (enc:=zH) (λ_=>J) w.zd) r hr c hc).2) (zc J (zj λr hr c hc=>((shut_map (enc:=zN) (λ_=>J) w.counts) r hr c hc).2))))))
def K7(w:Wor)(h:jd w)(cs:List (List Int))(hcs:w.counts=cs){t:Nat}{r0:List Int}(hp:GA cs t r0):tj 152 [] [Cw w] (.agg [I w.zl,I w.current,I w.lock,lI w.pins,lV w.zd,lL w.ze,.sl 0 [] 1 0 cs.length false,lR w.zp]) [⟨1,0,1,(cs.map zN).set t ([C.sl 1 [] 1 0 r0.length false]),0⟩,⟨2,48,1,r0.map jZ,0⟩]:=by
 subst hcs;have own:∀i,∀r∈(w.counts.map zN).set t ([C.sl i [] 1 0 r0.length false]),∀c∈r,zx c=true:=λi=>zy (enc:=zN) (λ_=>J) J _ _
 refine Cg (fn:=f152) func152 J (uH ?_);refine ah (vF w.pins h.pins) ?_;refine af [] (BE w.zd h.zd.1 λv hv=>jT v (h.zd.2 v hv)) ?_;refine ah (kO w.ze h.ze) ?_;refine⟨_,_,YP hp _ (zc J (zc J (zc J J))),dd ?_⟩;refine ah (CN w.zp h.zp) ?_;refine⟨.inl J,_,_,zq.zV 1 0 4 J J J J (.inr J) J aj (shut_map (enc:=zH) (λ_=>J) w.zd) (qa J),rfl,?_⟩;refine Og [4,5] [0] J J J (zc J (zc J (zc J (zc (zj λr hr c hc=>((shut_map (enc:=zH) (λ_=>J) w.zd) r hr c hc).2) (zc (zj (own 5)) J))))) J ?_;show zK [4,5] ⟨1,0,1,(w.counts.map zN).set t ([C.sl 5 [] 1 0 r0.length false]),0⟩::_=_;rw[zI (enc:=zN) (λ_=>J)]
 rfl
def YK(w:Wor)(h:jd w)(H:zm)(hf:qt H=true):tj 202 H [fU w.counts,.fn 203 [] [],.agg []] (.sl H.length [] 1 0 w.counts.length false) (H++[⟨2,212,1,w.counts.map zN,0⟩]):=
 Bb (BD w.counts h.counts.1 λr hr=>yp r (h.counts.2 r hr)) J J H hf
def yU(w:Wor)(h:jd w)(vs:List fp)(hvs:w.zd=vs){v:Nat}{v0:fp}{g:Nat}{g0:Gr}{e:Nat}{e0:En}(hp:BO vs v v0 g g0 e e0):tj 152 [] [Cw w] (.agg [I w.zl,I w.current,I w.lock,lI w.pins,.sl 0 [] 5 0 vs.length false,lL w.ze,fU w.counts,lR w.zp]) [⟨1,0,5,(vs.map zH).set v ((encS v0.snap++[C.sl 1 [] 2 0 v0.zo.length false,Bo v0.zW])),0⟩,⟨1,0,2,(v0.zo.map zE).set g ([U g0.zu,C.sl 2 [] 3 0 g0.ends.length false]),0⟩,⟨1,0,3,(g0.ends.map zA).set e ([U e0.head,C.sl 3 [] 1 0 e0.next.length false,I e0.zi]),0⟩,⟨2,3,1,e0.next.map encI,0⟩]:=by
 subst hvs;have own:∀i,∀r∈(w.zd.map zH).set v ((encS v0.snap++[C.sl i [] 2 0 v0.zo.length false,Bo v0.zW])),∀c∈r,zx c=true:=λi=>zy (enc:=zH) (λ_=>J) J _ _
 refine Cg (fn:=f152) func152 J (uH ?_);refine ah (vF w.pins h.pins) ?_;refine⟨_,_,YQ hp _ J,dd ?_⟩;refine ah (kO w.ze h.ze) ?_;refine⟨_,_,YK w h _ (zc J (zc J (zc J (zc (zj (own 4)) (zc (zj (zy (enc:=zE) (λ_=>J) J _ _)) (zc (zj (zy (enc:=zA) (λ_=>J) J _ _)) J)))))),dd ?_⟩;refine ah (CN w.zp h.zp) ?_;refine⟨.inl J,_,_,zq.zV 1 0 6 J J J J (.inr J) J aj (shut_map (enc:=zN) (λ_=>J) w.counts) (qa J),rfl,?_⟩;refine Og [3,4,5,6] [0] J J J (zc J (zc J (zc J (zc (zj (own 4)) (zc (zj (zy (enc:=zE) (λ_=>J) J _ _)) (zc (zj (zy (enc:=zA) (λ_=>J) J _ _)) (zc J (zj λr hr c hc=>((shut_map (enc:=zN) (λ_=>J) w.counts) r hr c hc).2)))))))) J ?_;show zK [3,4,5,6] ⟨1,0,5,(w.zd.map zH).set v ((encS v0.snap++[C.sl 4 [] 2 0 v0.zo.length false,Bo v0.zW])),0⟩::zK [3,4,5,6] ⟨1,0,2,(v0.zo.map zE).set g ([U g0.zu,C.sl 5 [] 3 0 g0.ends.length false]),0⟩::zK [3,4,5,6] ⟨1,0,3,(g0.ends.map zA).set e ([U e0.head,C.sl 6 [] 1 0 e0.next.length false,I e0.zi]),0⟩::_=_;rw[zI (enc:=zH) (λ_=>J),zI (enc:=zE) (λ_=>J),zI (enc:=zA) (λ_=>J)]
 rfl
def lf(i n:Int):Bool:=decide (0<=i) && decide (i<n)
def BZ(i n:Int):tj 183 [] [I i,I n] (Bo (lf i n)) []:=by
 refine ab func183 ?_;refine⟨λh1=>?_,λh1=>?_⟩
 ·refine dd ?_;refine⟨λh2=>?_,λh2=>?_⟩
  ·refine dd ?_
   (exact⟨.inl J,_,.refl _,uN (by unfold lf;simp at h1 h2 ⊢;omega)⟩)
  ·refine dd ?_
   (exact⟨.inl J,_,.refl _,uN (by unfold lf;simp at h1 h2 ⊢;omega)⟩)
 ·refine dd ?_
  (exact⟨.inl J,_,.refl _,uN (by unfold lf;simp at h1 ⊢;omega)⟩)
def TU{H:zm}{f:FuncId}{caps:List C}{l:List Int}(p:Int->Bool)(hcb:qp prog f=true)(hp:∀r∈l,tj f H ([I r]++caps) (Bo (p r)) H)(hl:l.length<4611686018427387904):
  tj 71 H [lI l,.fn f [] caps] (I (match l.findIdx? p with|some i=>(i:Int)|none=> -1)) H:=by
 refine zb.zL (fn:=f71) func71 J (uH ?_)
 refine qe.inv (λn t1 H1=>∃k,k+n=l.length/\H1=H/\(∀j,j<k->∀r,l[j]?=some r->p r=false)/\
   t1=((lI l)::.fn f [] caps::.za::.za::I 0::.za::.za::I (l.map encI).length::I k::tZ ([.za,.za]))) l.length ?_ ?_
 ·exact c8
 rintro n _ _ ⟨k,hk,rfl,hno,rfl⟩;conv=>whnf
 refine⟨λh=>?_,λh=>?_⟩
 ·conv=>whnf
  have fj:k<l.length:=aq h
  refine⟨aw,encI l[k],aX,uH ?_⟩;rw[hcb];refine⟨_,_,hp _ (gU fj),uH ?_⟩;refine⟨λh2=>?_,λh2=>?_⟩
  ·conv=>whnf
   refine .inr ⟨aj,uH ?_⟩;refine⟨.inl J,_,.refl _,rfl,?_⟩
   have:l.findIdx? p=some k:=by
    rw[gK];refine⟨fj,h2,λj hj=>?_⟩;simp[hno j hj _ (dX aw)]
   rw[this]
   rfl
  ·conv=>whnf
   refine .inl ⟨rfl,n-1,_,_,aw,zq.mask [0,1,4,7,8] _ _,k+1,aw,rfl,?_,?_⟩
   ·intro j hj r hr;by_cases hjk:j=k
    ·subst hjk;rw[dX fj]at hr;cases hr
     exact h2
    ·exact hno j aw r hr
   ·rw[zw aw];rfl
 ·conv=>whnf
  refine .inr ⟨aj,uH ?_⟩;refine⟨.inl J,_,.refl _,rfl,?_⟩
  have:l.findIdx? p=none:=by
   rw[gS];intro x hx;obtain⟨j,hj⟩:=gE.1 hx;have hjl:=(dW.1 hj).1;have:¬k<l.length:=aq h
   exact hno j aw x hj
  rw[this]
  rfl
def Ma{H:zm}{f:FuncId}{caps:List C}{l:List Int}(p:Int->Bool)(hcb:qp prog f=true)(hp:∀r∈l,tj f H ([I r]++caps) (Bo (p r)) H)(hl:l.length<4611686018427387904):
  tj 80 H [lI l,.fn f [] caps] (Bo (l.any p)) H:=by
 refine zb.zL (fn:=f80) func80 J (uH ?_);refine⟨_,_,TU p hcb hp hl,dd ?_⟩;rw[show decide ((match l.findIdx? p with|some i=>((i:Nat):Int)|none=>(-1:Int))≥(0:Int))=l.any p from D6 l p];refine⟨λh=>?_,λh=>?_⟩ <;> rw[h]
 ·exact dj
 ·exact dj
def TT{H:zm}{f:FuncId}{caps:List C}{l:List En}(p:En->Bool)(hcb:qp prog f=true)(hp:∀r∈l,tj f H ([Go.Slp.Ev r]++caps) (Bo (p r)) H)(hl:l.length<4611686018427387904):
  tj 258 H [lE l,.fn f [] caps] (I (match l.findIdx? p with|some i=>(i:Int)|none=> -1)) H:=by
 refine zb.zL (fn:=f258) func258 J (uH ?_)
 refine qe.inv (λn t1 H1=>∃k,k+n=l.length/\H1=H/\(∀j,j<k->∀r,l[j]?=some r->p r=false)/\
   t1=((lE l)::.fn f [] caps::.za::.za::I 0::.za::.za::I (l.map zA).length::I k::tZ ([.za,.za]))) l.length ?_ ?_
 ·exact c8
 rintro n _ _ ⟨k,hk,rfl,hno,rfl⟩;conv=>whnf
 refine⟨λh=>?_,λh=>?_⟩
 ·conv=>whnf
  have fj:k<l.length:=aq h
  refine⟨aw,zA l[k],aX,uH ?_⟩;rw[hcb];refine⟨_,_,hp _ (gU fj),uH ?_⟩;refine⟨λh2=>?_,λh2=>?_⟩
  ·conv=>whnf
   refine .inr ⟨aj,uH ?_⟩;refine⟨.inl J,_,.refl _,rfl,?_⟩
   have:l.findIdx? p=some k:=by
    rw[gK];refine⟨fj,h2,λj hj=>?_⟩;simp[hno j hj _ (dX aw)]
   rw[this]
   rfl
  ·conv=>whnf
   refine .inl ⟨rfl,n-1,_,_,aw,zq.mask [0,1,4,7,8] _ _,k+1,aw,rfl,?_,?_⟩
   ·intro j hj r hr;by_cases hjk:j=k
    ·subst hjk;rw[dX fj]at hr;cases hr
     exact h2
    ·exact hno j aw r hr
   ·rw[zw aw];rfl
 ·conv=>whnf
  refine .inr ⟨aj,uH ?_⟩;refine⟨.inl J,_,.refl _,rfl,?_⟩
  have:l.findIdx? p=none:=by
   rw[gS];intro x hx;obtain⟨j,hj⟩:=gE.1 hx;have hjl:=(dW.1 hj).1;have:¬k<l.length:=aq h
   exact hno j aw x hj
  rw[this]
  rfl
def T5{H:zm}{f:FuncId}{caps:List C}{l:List En}(p:En->Bool)(hcb:qp prog f=true)(hp:∀r∈l,tj f H ([Go.Slp.Ev r]++caps) (Bo (p r)) H)(hl:l.length<4611686018427387904):
  tj 252 H [lE l,.fn f [] caps] (Bo (l.any p)) H:=by
 refine zb.zL (fn:=f252) func252 J (uH ?_);refine⟨_,_,TT p hcb hp hl,dd ?_⟩;rw[show decide ((match l.findIdx? p with|some i=>((i:Nat):Int)|none=>(-1:Int))≥(0:Int))=l.any p from D6 l p];refine⟨λh=>?_,λh=>?_⟩ <;> rw[h]
 ·exact dj
 ·exact dj
def AF(ep p:Int):Bool:=decide (p<0) || decide (p > ep+1)
def Rm(w:Wor)(p:Int)(h0:0<=w.zl)(h1:w.zl<=1000000000000):tj 249 [oW w] ([I p]++[.ref 0 [] 8 0 0]) (Bo (AF w.zl p)) [oW w]:=by
 have e:IntKind.i64.wrap (w.zl+1)=w.zl+1:=jx aw aw;refine zb.zL (fn:=f249) func249 J (uH ?_);refine⟨λh2=>?_,λh2=>?_⟩
 ·refine dd ?_;exact⟨.inl J,_,.refl _,rfl,uN (by unfold AF;rw[h2];rfl)⟩
 ·refine dd ?_;rw[e];refine⟨λh3=>?_,λh3=>?_⟩
  ·refine dd ?_;exact⟨.inl J,_,.refl _,rfl,uN (by unfold AF;rw[h2,h3];rfl)⟩
  ·refine dd ?_;exact⟨.inl J,_,.refl _,rfl,uN (by unfold AF;rw[h2,h3];rfl)⟩
def xa(w:Wor):Bool:=decide (1<=w.pins.length) && decide (w.pins.length<=8) && decide (w.counts.length=w.pins.length) && B5 w.counts && decide (0<=w.zl) && decide (w.zl<=1000000000000) && (decide (w.lock=0) || decide (w.lock=1)) && !w.pins.any (AF w.zl)
def RL(w:Wor)(hp:w.pins.length<4000000000000000000)(hc:w.counts.length<4000000000000000000):tj 226 [] [Cw w] (Bo (xa w)) []:=by
 have m1:(w.pins.map encI).length=w.pins.length:=gu ..;have m2:(w.counts.map zN).length=w.counts.length:=gu ..;refine ab func226 ?_;rw[m1];refine⟨λh1=>?_,λh1=>?_⟩
 ·(have e:xa w=false:=by (unfold xa;(rw[show decide (1<=w.pins.length)=false from by rw[pK];have:=gJ h1;omega]);simp));exact dT
 refine dd ?_;refine⟨λh2=>?_,λh2=>?_⟩
 ·(have e:xa w=false:=by (unfold xa;(rw[show decide (w.pins.length<=8)=false from cy]);simp));exact dT
 refine dd ?_;rw[m2];refine⟨λh3=>?_,λh3=>?_⟩
 ·(have e:xa w=false:=by (unfold xa;(rw[show decide (w.counts.length=w.pins.length)=false from by rw[pK];intro hh;simp[hh]at h3]);simp));exact dT
 refine dd ?_;refine ah (RB w.counts hc) ?_;refine⟨λh4=>?_,λh4=>?_⟩
 rotate_left
 ·(have e:xa w=false:=by (unfold xa;(rw[h4]);simp));exact dT
 refine dd ?_;refine⟨λh5=>?_,λh5=>?_⟩
 ·(have e:xa w=false:=by (unfold xa;(rw[show decide (0<=w.zl)=false from by simp at h5 ⊢;omega]);simp));exact dT
 refine dd ?_;refine⟨λh6=>?_,λh6=>?_⟩
 ·(have e:xa w=false:=by (unfold xa;(rw[show decide (w.zl<=1000000000000)=false from by simp at h6 ⊢;omega]);simp));exact dT
 refine dd ?_;have b0:0<=w.zl:=by simp at h5;omega
 have b1:w.zl<=1000000000000:=by simp at h6;omega
 have hcon:=Ma (H:=[oW w]) (f:=249) (l:=w.pins) (caps:=[.ref 0 [] 8 0 0]) (AF w.zl) au (λr _=>Rm w r b0 b1) aw
 have g0:xa w=((decide (w.lock=0) || decide (w.lock=1)) && !w.pins.any (AF w.zl)):=by
  have h3':w.counts.length=w.pins.length:=by simp at h3;omega
  unfold xa;rw[show decide (1<=w.pins.length)=true from by rw[decide_eq_true_iff];have:=ru h1;omega,show decide (w.pins.length<=8)=true from cy,show decide (w.counts.length=w.pins.length)=true from aq h3',h4,show decide (0<=w.zl)=true from aq b0,show decide (w.zl<=1000000000000)=true from aq b1]
  rfl
 have fin:∀hl:(decide (w.lock=0) || decide (w.lock=1))=true,xa w=!w.pins.any (AF w.zl):=λhl=>by rw[g0,hl];rfl
 refine⟨λh7=>?_,λh7=>?_⟩
 ·refine dd ?_;refine⟨λh8=>?_,λh8=>?_⟩
  ·have e:xa w=false:=by rw[g0,show(decide (w.lock=0) || decide (w.lock=1))=false from by simp at h7 h8 ⊢;omega];rfl
   rw[e];refine dd ?_;refine hZ ?_
   exact uI
  rw[fin (by simp at h8 ⊢;omega)];refine dd ?_;refine hZ ?_
  refine af [0] (hcon) ?_;refine⟨λh9=>?_,λh9=>?_⟩
  ·refine dd ?_
   (exact⟨.inl J,_,.refl _,uN (by rw[h9];rfl)⟩)
  ·refine dd ?_
   (exact⟨.inl J,_,.refl _,uN (by rw[h9];rfl)⟩)
 ·rw[fin (by simp at h7 ⊢;omega)];refine dd ?_;refine hZ ?_
  refine af [0] (hcon) ?_;refine⟨λh9=>?_,λh9=>?_⟩
  ·refine dd ?_
   (exact⟨.inl J,_,.refl _,uN (by rw[h9];rfl)⟩)
  ·refine dd ?_
   (exact⟨.inl J,_,.refl _,uN (by rw[h9];rfl)⟩)
def AW(x:fV)(e:En):Bool:=!Go.Slp.fE e || (e.next.length:Int) != x.x4
def Rp(x:fV)(e:En)(he:e.ok):tj 251 [oC x] ([Go.Slp.Ev e]++[.ref 0 [] 4 0 0]) (Bo (AW x e)) [oC x]:=by
 have m1:(e.next.map encI).length=e.next.length:=gu ..;refine zb.zL (fn:=f251) func251 J (uH ?_);refine ah (Go.Slp.CS e he) ?_;refine⟨λh1=>?_,λh1=>?_⟩
 rotate_left
 ·refine dd ?_;exact⟨.inl J,_,zq.keep [3] 1 _ _ J J J J,rfl,uN (by unfold AW;rw[h1];rfl)⟩
 ·refine dd ?_;rw[m1];refine⟨λh2=>?_,λh2=>?_⟩
  ·refine dd ?_;exact⟨.inl J,_,zq.keep [3] 1 _ _ J J J J,rfl,uN (by unfold AW;rw[h1,h2];rfl)⟩
  ·refine dd ?_;exact⟨.inl J,_,zq.keep [3] 1 _ _ J J J J,rfl,uN (by unfold AW;rw[h1,h2];rfl)⟩
structure Kz(v:fp):Prop where
 snap:AA v.snap
 zo:v.zo.length<1000000000000
 ends : ∀g∈v.zo, g.ends.length<1000000000000 /\ ∀e∈g.ends, e.ok
def BS(v:fp)(i:Nat):Bool:=match v.zo[i]?,v.snap.zn[i]? with
 |some g,some x=>decide (g.ends.length=x.zR.length) && !g.ends.any (AW x)
 |_,_=>true
def nY(v:fp):Bool:=vU v.snap && decide (v.zo.length=v.snap.zn.length) && (List.range v.zo.length).all (BS v)
def RG(v:fp)(hv:Kz v):tj 228 [] [Cv v] (Bo (nY v)) []:=by
 have m1:(v.zo.map zE).length=v.zo.length:=gu ..;have m2:(v.snap.zn.map yY).length=v.snap.zn.length:=gu ..;have hgl:=hv.zo;refine ab func228 ?_;refine ah (Ld v.snap hv.snap) ?_;refine⟨λh1=>?_,λh1=>?_⟩
 rotate_left
 ·have e:nY v=false:=by unfold nY;rw[h1];rfl
  rw[e];refine dd ?_;refine hZ ?_
  exact uI
 refine dd ?_;rw[m1,m2];refine⟨λh2=>?_,λh2=>?_⟩
 ·have e:nY v=false:=by unfold nY;rw[show decide (v.zo.length=v.snap.zn.length)=false from by rw[pK];intro hh;simp[hh]at h2,sy];rfl
  rw[e];refine dd ?_;refine hZ ?_
  exact uI
 have h2':v.zo.length=v.snap.zn.length:=aY
 refine dd ?_;refine hZ ?_
 rw[m1];refine qe.seq v.zo.length (λk=>(.za::.ref 0 [] 5 0 0::Bo false::tZ (tZ (.za::.za::.za::(lG v.zo)::I v.zo.length::I k::tZ (tZ (tZ ([.za]))))))) (λk=>[⟨1,69,5,[zH v],0⟩]) (λk=>∀j,j<k->BS v j=true) ?_ aj (λk hk hr=>?_) (λhr=>?_)
 ·exact cC
 ·obtain⟨g,hg⟩:∃g,g=v.zo[k]:=⟨_,rfl⟩;obtain⟨x,hx⟩:∃x,x=v.snap.zn[k]'aw:=⟨_,rfl⟩;have gg:(v.zo.map zE)[k]?=some (zE g):=by rw[gf,dX hk,hg];rfl
  have gx:(v.snap.zn.map yY)[k]?=some (yY x):=by rw[gf,dX aw,hx];rfl
  have hgm:g∈v.zo:=by rw[hg];exact gU hk
  have me:(g.ends.map zA).length=g.ends.length:=gu ..;have mh:(x.zR.map wh).length=x.zR.length:=gu ..
  have hd:BS v k=(decide (g.ends.length=x.zR.length) && !g.ends.any (AW x)):=by
   unfold BS;rw[dX hk,dX aw,<-hg,<-hx]
  have bad:BS v k=false->nY v=false:=λh=>by
   have:(List.range v.zo.length).all (BS v)=false:=by rw[sr];exact⟨k,aq hk,aH⟩
   unfold nY;rw[this,sy]
  have hcon:=T5 (H:=[oC x]) (f:=251) (l:=g.ends) (caps:=[.ref 0 [] 4 0 0]) (AW x) au (λr hr=>Rp x r ((hv.ends g hgm).2 r hr)) (by have:=(hv.ends g hgm).1;omega);conv=>whnf
  refine uF ?_;(refine tc gg ?_)
  (refine tc gx ?_)
  rw[me,mh];refine⟨λh3=>?_,λh3=>?_⟩
  ·rw[bad (by rw[hd,show decide (g.ends.length=x.zR.length)=false from by rw[pK];intro hh;simp[hh]at h3];rfl)];refine dd ?_;refine hZ ?_
   (refine .inr ⟨aj,uH ?_⟩)
   exact uI
  refine dd ?_;refine af [2] (hcon) ?_;refine⟨λh4=>?_,λh4=>?_⟩
  ·rw[bad (by rw[hd,h4,uw,sy])];refine dd ?_;refine hZ ?_
   (refine .inr ⟨aj,uH ?_⟩)
   exact uI
  refine dd ?_;refine hZ ?_
  refine .inl ⟨rfl,?_,λj hj=>?_⟩
  ·exact dD
  ·by_cases e:j=k
   ·subst e;rw[hd,h4];simp at h3 ⊢;omega
   ·exact hr j aw
 ·have e:nY v=true:=by
   unfold nY;rw[h1,show decide (v.zo.length=v.snap.zn.length)=true from aq h2',tY,tY,gz]
   exactλi hi=>hr i (aq hi)
  rw[e];refine uD ?_;exact uI
def vb(l:List fH):List (Int×Value):=l.foldl (λm r=>yn m r.version (Value.bool r.gone)) []
def kc(l:List fH)(i:Int):Bool:=match ((jg (vb l) i).bind λj=>((vb l)[j]?).map (·.2):Option Value) with
 |some (.bool b)=>b
 |_=>false
def W0{m:List (Int×Value)}(h:∀kv∈m,∃b,kv.2=Value.bool b)(k:Int)(b:Bool):∀kv∈yn m k (Value.bool b),∃b,kv.2=Value.bool b:=λkv hm=>by
 unfold yn at hm;split at hm
 ·rcases pw hm with hm|rfl
  ·exact h kv hm
  ·exact⟨b,rfl⟩
 ·rcases gY.1 hm with hm|hm
  ·exact h kv hm
  ·rw[gX.1 hm];exact⟨b,rfl⟩
def TM(l:List fH):∀kv∈vb l,∃b,kv.2=Value.bool b:=by
 unfold vb
 suffices key:∀(l:List fH) (m:List (Int×Value)),(∀kv∈m,∃b,kv.2=Value.bool b)->∀kv∈l.foldl (λm r=>yn m r.version (Value.bool r.gone)) m,∃b,kv.2=Value.bool b from key l [] aj
 intro l
 induction l with
 |nil=>intro m h;exact h
 |cons r l ih=>intro m h;exact ih _ (W0 h _ _)
def Xp(l:List fH)(i:Int):(((jg (vb l) i).bind λj=>((vb l)[j]?).map (·.2)).getD (Value.bool false))=Value.bool (kc l i):=by
 unfold kc;cases h:(jg (vb l) i).bind λj=>((vb l)[j]?).map (·.2) with
 |none=>rfl
 |some v=>
  obtain⟨j,_,hj⟩:=gO.1 h;obtain⟨kv,h1,rfl⟩:=gM.1 hj;obtain⟨b,hb⟩:=TM l kv (dY h1);simp only[Option.getD_some];rw[hb]
def Wf(l:List fH){k:Nat}{r:fH}(h:l[k]?=some r):vb (l.take (k+1))=yn (vb (l.take k)) r.version (Value.bool r.gone):=by
 obtain⟨hk,rfl⟩:=dW.1 h;unfold vb;rw[pS hk,sN]
 rfl
structure ir(w:Wor):Prop where
 pins:w.pins.length<1000000000000
 zd:w.zd.length<1000000000000/\∀v∈w.zd,Kz v
 ze:w.ze.length<1000000000000/\∀l∈w.ze,l.ok
 counts:w.counts.length<1000000000000/\∀r∈w.counts,r.length<1000000000000
 zp:w.zp.length<1000000000000
def yM(w:Wor)(r:fH):Bool:=decide (r.version≥(w.zd.length:Int)) || r.version == w.current || decide (r.at_ > w.zl)
def Ah(w:Wor)(i:Nat):Bool:=match w.zd[i]? with
 |some v=>nY v && (v.zW == kc w.zp i)
 |none=>true
def ng(w:Wor)(i:Nat):Bool:=match w.ze[i]? with
 |some l=>Go.Gat.fE l && decide (zU w.ze l.name=i)
 |none=>true
def x6(w:Wor):Bool:=xa w && (decide (0<=w.current) && decide (w.current<w.zd.length)) && Go.Lim.fE w.zp && !w.zp.any (yM w) && (List.range w.zd.length).all (Ah w) && (List.range w.ze.length).all (ng w)
def RH(w:Wor)(hw:ir w):tj 182 [] [Cw w] (Bo (x6 w)) []:=by
 have m1:(w.zd.map zH).length=w.zd.length:=gu ..;have m2:(w.zp.map xR).length=w.zp.length:=gu ..;have m3:(w.ze.map qP).length=w.ze.length:=gu ..;have b1:=hw.pins;have b2:=hw.zd.1;have b3:=hw.ze.1;have b4:=hw.counts.1;have b5:=hw.zp;refine ab func182 ?_;refine ah (RL w aw aw) ?_;refine⟨λh1=>?_,λh1=>?_⟩
 rotate_left
 ·(have e:x6 w=false:=by (unfold x6;(rw[h1]);simp));exact dT
 refine dd ?_;refine⟨λh2=>?_,λh2=>?_⟩
 ·(have e:x6 w=false:=by (unfold x6;(rw[show decide (0<=w.current)=false from cy]);simp));exact dT
 refine dd ?_;rw[m1];refine⟨λh3=>?_,λh3=>?_⟩
 ·(have e:x6 w=false:=by (unfold x6;(rw[show decide (w.current<w.zd.length)=false from by simp at h3 ⊢;omega]);simp));exact dT
 refine dd ?_;refine ah (Go.Lim.CS (l:=w.zp) aw) ?_;refine⟨λh4=>?_,λh4=>?_⟩
 rotate_left
 ·(have e:x6 w=false:=by (unfold x6;(rw[h4]);simp));exact dT
 refine dd ?_;refine hZ ?_
 intro b;refine dd ?_;rw[m2]
 have g0:x6 w=(!w.zp.any (yM w) && (List.range w.zd.length).all (Ah w) && (List.range w.ze.length).all (ng w)):=by
  unfold x6;rw[h1,show decide (0<=w.current)=true from cy,show decide (w.current<w.zd.length)=true from by simp at h3 ⊢;omega,h4]
  rfl
 refine qe.seq w.zp.length (λk=>(.za::.ref 0 [] 8 0 0::Bo false:: .v (.map (some b)):: .za::.za::.za::.za::.za::.za::tZ (tZ (tZ (lR w.zp::I w.zp.length::I k:: .za::.za::.za::.za::.za::.za::tZ (jp (tZ (tZ (tZ ([])))))))))) (λk=>[oW w,fQ b (jQ zT (vb (w.zp.take k))) (vb (w.zp.take k)).length]) (λk=>∀j,(h:j<w.zp.length)->j<k->yM w w.zp[j]=false) ?_ aj (λk hk hr=>?_) (λhr=>?_)
 ·exact cC
 ·obtain⟨r,hx⟩:∃r,r=w.zp[k]:=⟨_,rfl⟩;have hx2:w.zp[k]?=some r:=by rw[dX hk,hx]
  have hg:(w.zp.map xR)[k]?=some (xR r):=by rw[gf,hx2];rfl
  have bad:yM w r=true->x6 w=false:=λh=>by
   have:w.zp.any (yM w)=true:=p9.2 ⟨r,dY hx2,h⟩;rw[g0,this];rfl
  conv=>whnf
  refine uF ?_;(refine tc hg ?_)
  rw[m1];refine⟨λh5=>?_,λh5=>?_⟩
  ·(rw[bad (by unfold yM;rw[h5];rfl)]);refine dd ?_;refine hZ ?_;(refine .inr ⟨aj,uH ?_⟩);exact uI
  refine dd ?_;refine⟨λh6=>?_,λh6=>?_⟩
  ·(rw[bad (by unfold yM;rw[h6,ui];rfl)]);refine dd ?_;refine hZ ?_;(refine .inr ⟨aj,uH ?_⟩);exact uI
  refine dd ?_;refine⟨λh7=>?_,λh7=>?_⟩
  ·(rw[bad (by unfold yM;rw[h7,ui])]);refine dd ?_;refine hZ ?_;(refine .inr ⟨aj,uH ?_⟩);exact uI
  refine dd ?_;refine hZ ?_
  refine⟨λq=>?_,λq=>?_⟩
  all_goals
   refine dd ?_;refine⟨_,_,fy.mapUpdate (id:=1) _ _ _ _ (.inl J) underlying125 (mi.int underlying3) J J r.version (λE u h=>je h) (.bool r.gone) (λE u h=>by rw[q];exact je h),dd ?_⟩;refine .inl ⟨rfl,?_,λj hj hjk=>?_⟩
   ·rw[zw aw,<-Wf w.zp hx2];exact cE 2
   ·by_cases e:j=k
    ·subst e;rw[<-hx];unfold yM;rw[h5,h6,h7];rfl
    ·exact hr j hj aw
 have hl0:w.zp.any (yM w)=false:=by
  rw[pC];intro x hx;obtain⟨j,hj,rfl⟩:=pM.1 hx;simp[hr j hj hj]
 rw[gZ];refine uD ?_;rw[m1];have g1:x6 w=((List.range w.zd.length).all (Ah w) && (List.range w.ze.length).all (ng w)):=by rw[g0,hl0];rfl
 refine qe.seq w.zd.length (λk=>(.za::.ref 0 [] 8 0 0::Bo false:: .v (.map (some b)):: .za::.za::.za::.za::.za::.za::.za::tZ (jp (tZ (tZ (lV w.zd::I w.zd.length::I k:: .za::.za::.za::.za::.za::tZ (tZ (tZ (tZ ([])))))))))) (λk=>[oW w,fQ b (jQ zT (vb (w.zp))) (vb (w.zp)).length]) (λk=>∀j,j<k->Ah w j=true) ?_ aj (λk hk hr=>?_) (λhr=>?_)
 ·exact cC
 ·obtain⟨v,hx⟩:∃v,v=w.zd[k]:=⟨_,rfl⟩;have hx2:w.zd[k]?=some v:=by rw[dX hk,hx]
  have hg:(w.zd.map zH)[k]?=some (zH v):=by rw[gf,hx2];rfl
  have hd:Ah w k=(nY v && (v.zW == kc w.zp k)):=by unfold Ah;rw[hx2]
  have bad:Ah w k=false->x6 w=false:=λh=>by
   have:(List.range w.zd.length).all (Ah w)=false:=by rw[sr];exact⟨k,aq hk,aH⟩
   rw[g1,this];rfl
  conv=>whnf
  refine uF ?_;(refine tc hg ?_)
  refine ah (RG v (hw.zd.2 v (dY hx2))) ?_;refine⟨λh5=>?_,λh5=>?_⟩
  rotate_left
  ·(rw[bad (by rw[hd,h5];rfl)]);refine dd ?_;refine hZ ?_;(refine .inr ⟨aj,uH ?_⟩);exact uI
  refine dd ?_;refine⟨λq=>?_,λq=>?_⟩
  all_goals
   refine dd ?_;refine⟨_,_,fy.lookup (id:=1) _ _ _ J underlying125 (mi.int underlying3) J J (k:Int) (λE u h=>je h) (c:=Bo (kc w.zp k)) J J (λE=>by rw[Xp];exact .v _ J),dd ?_⟩;refine⟨λq2=>?_,λq2=>?_⟩
   ·(rw[bad (by rw[hd,q];simp at q2;simp[q2])]);refine dd ?_;refine hZ ?_;(refine .inr ⟨aj,uH ?_⟩);exact uI
   refine dd ?_;refine hZ ?_
   refine .inl ⟨rfl,?_,λj hj=>?_⟩
   ·rw[zw aw];exact cE 2
   ·by_cases e:j=k
    ·subst e;rw[hd,h5,q];simp at q2;simp[q2]
    ·exact hr j aw
 have hv0:(List.range w.zd.length).all (Ah w)=true:=by
  rw[gz]
  exactλi hi=>hr i (aq hi)
 have g2:x6 w=(List.range w.ze.length).all (ng w):=by rw[g1,hv0];rfl
 refine uD ?_;rw[m3];refine qe.seq w.ze.length (λk=>(.za::.ref 0 [] 8 0 0::Bo false:: .v (.map (some b)):: .za::.za::.za::tZ (jp (jp (tZ (lL w.ze::I w.ze.length::I k:: .za::tZ (tZ ([])))))))) (λk=>[oW w,fQ b (jQ zT (vb (w.zp))) (vb (w.zp)).length]) (λk=>∀j,j<k->ng w j=true) ?_ aj (λk hk hr=>?_) (λhr=>?_)
 ·exact cC
 ·obtain⟨l,hx⟩:∃l,l=w.ze[k]:=⟨_,rfl⟩;have hx2:w.ze[k]?=some l:=by rw[dX hk,hx]
  have hg:(w.ze.map qP)[k]?=some (qP l):=by rw[gf,hx2];rfl
  have hd:ng w k=(Go.Gat.fE l && decide (zU w.ze l.name=k)):=by unfold ng;rw[hx2]
  have bad:ng w k=false->x6 w=false:=λh=>by
   have:(List.range w.ze.length).all (ng w)=false:=by rw[sr];exact⟨k,aq hk,aH⟩
   rw[g2,this]
  conv=>whnf
  refine uF ?_;(refine tc hg ?_)
  refine ah (Go.Gat.CS l (hw.ze.2 l (dY hx2))) ?_;refine⟨λh5=>?_,λh5=>?_⟩
  rotate_left
  ·(rw[bad (by rw[hd,h5];rfl)]);refine dd ?_;refine hZ ?_;(refine .inr ⟨aj,uH ?_⟩);exact uI
  refine dd ?_;refine ah (E6 w.ze l.name aw) ?_;refine⟨λh6=>?_,λh6=>?_⟩
  ·(rw[bad (by rw[hd,show decide (zU w.ze l.name=(k:Int))=false from by rw[pK];intro hh;simp[hh]at h6,sy])]);refine dd ?_;refine hZ ?_;(refine .inr ⟨aj,uH ?_⟩);exact uI
  refine dd ?_;refine hZ ?_
  refine .inl ⟨rfl,?_,λj hj=>?_⟩
  ·rw[zw aw];exact cE 2
  ·by_cases e:j=k
   ·subst e;rw[hd,h5];simp at h6;simp[h6]
   ·exact hr j aw
 ·have hl1:(List.range w.ze.length).all (ng w)=true:=by
   rw[gz]
   exactλi hi=>hr i (aq hi)
  rw[g2,hl1];refine uD ?_;exact uI
end Go.Wor
