import Derived.Test.YtoeaoedlpmohoaaGreatT6
import Derived.Test.YtoeaoedlpmohoaaGreatT7
import Derived.Test.YtoeaoedlpmohoaaGreatT8
import Derived.Test.YtoeaoedlpmohoaaGreatT4
import Derived.Test.YtoeaoedlpmohoaaGreatT5
import Derived.Test.YtoeaoedlpmohoaaGreatTF
import Derived.Test.YtoeaoedlpmohoaaGreatT0
import Derived.Test.YtoeaoedlpmohoaaGreatT1
set_option linter.all false
set_option maxRecDepth 100000
set_option maxHeartbeats 4000000
namespace Go.Ply
open Go.Ab Go.Proofs Tryz Go.Hy Go.Wor
def Wd{X:List fB}{t i:Nat}(x:fB)(h:t≠i):vK (X.set t x) i=vK X i:=by
 unfold vK;rw[gW h]
def TH{X:List fB}{t:Nat}(x:fB)(h:t<X.length):vK (X.set t x) t=x.given:=by
 unfold vK;rw[gk h]
def Xo{X:List fB}{t:Nat}{x:fB}(h:X[t]?=some x):vK X t=x.given:=by
 unfold vK;rw[h]
def Zh(X:List fB)(t:Nat)(x:fB):(X.mapIdx (qw 1)).set t (qw 1 t x)=(X.set t x).mapIdx (qw 1):=by
 refine pq λi=>?_
 rw[pD,gD,gD,pD,List.length_mapIdx];by_cases h:t=i
 ·subst h;rw[gh J,gh J];split <;> rfl
 ·rw[dZ h,dZ h]
def XX{X:List fB}{t:Nat}{x:fB}{o:fJ}{w w':Wor}{m':fi}{e:fk}(hx:X[t]?=some x)(ho:x.ops[x.done]?=some o)(hX:X.length<=8)(hgn:x.given.length<=1000)(hdn:x.done<=1000)
 (hp:tj 63 [] [.agg (vC w),.agg (mC (qv x t o))] (.fq [.agg (vC w'),.agg (mC m'),.agg (jO e)]) []):
  tj 33 (oy 1 X) [.ref 0 [] 48 t 0,.agg (vC w),I t] (.fq [.agg (vC w'),.agg (jO (nW e x))]) (oy 1 (X.set t (qn x m'))):=by
 have htl:=(dW.1 hx).1;have ga:=Xo hx;have h8:t<8:=aw
 have res:oy 1 (X.set t (qn x m'))=m8 X ⟨1,0,48,(X.mapIdx (qw 1)).set t (qw 1 t (qn x m')),0⟩ (Al (qn x m').given) [] t:=by
  have g:∀i,fm (X.set t (qn x m')) i=if t=i then Al (qn x m').given else fm X i:=λi=>by
   split
   ·rename_i e;subst e;show fm _ t=_;unfold fm;rw[TH _ htl]
   ·rename_i e;unfold fm;rw[Wd _ e]
  rw[Zh];unfold oy;rw[g 0,g 1,g 2,g 3,g 4,g 5,g 6,g 7];rcases eight h8 with rfl|rfl|rfl|rfl|rfl|rfl|rfl|rfl <;> rfl
 rw[W8 X h8,res,ga];obtain⟨ops,dn,on,m,given⟩:=x;cases on
 ·exact zy5 h8 X ops dn m given w w' _ m' e o hx hX hgn hdn ho (Beg.R6 t o given (by have h:given.length<=1000:=hgn;omega)) hp
 ·exact zy6 h8 X ops dn m given w w' m' e hx hX hgn hdn hp
end Go.Ply
namespace Go.Wor
open Go.Ab Go.Proofs Tryz Go.Gat Go.Nam Go.Hos Go.Con Go.Sna Go.Pla Go.Ply
open Go.Hy hiding encI
structure np(s:fR):Prop where
 wk:G9 s
 cfg:AG s.first=true->wV s.first
 P6:∀l∈s.threads,∀o∈l,ye o.config
 names:∀x∈yk s,x.length<=reachBytes
 ops:∀l∈s.threads,∀o∈l,o.host.length<1000000000000000/\o.path.length<1000000000000000/\i64 o.d0/\i64 o.d1/\(o.kind=3->ye o.config)
 zQ:∀p∈s.zQ,i64 p
def iH(s:fR):iu:=((qM s).1,s.threads.map iV,[])
def xe(s:fR):iu:=iv (iH s) s.zQ s.zQ.length
def zY(s:fR):List fk×Wor×Int:=if (qM s).2=0 then ((xe s).2.2,(xe s).1,0) else ([],⟨0,0,0,[],[],[],[],[]⟩,(qM s).2)
def xj{s:fR}(h:(qM s).2=0):lh s=true/\lx (jJ s.first).1 (yk s) s.threads.length=((qM s).1,0):=by
 unfold qM at h ⊢;split at h
 ·rename_i q;rw[gh q];exact⟨q,by rw[<-h]⟩
 ·exact absurd (show(1:Int)=0 from h) ar
def VS{s:fR}(h:lh s=true):(yk s).length<=600:=by
 obtain⟨p1,p2,p3,p4,p5,p6⟩:=xE h;have a:=FN [] (wS p1)
 have b:=D1 wu 64 s.threads (wW [] s.first) λl hl o=>by
  have hl2:=(p5 l hl).1;exact Il o hl2
 have c:yk s=s.threads.foldl wu (wW [] s.first):=rfl;rw[c];simp at a;omega
def y9{s:fR}(ok:np s)(h:(qM s).2=0):GI 600 0 (iH s).1 (iH s).2.1:=by
 obtain⟨q,hn⟩:=xj h;obtain⟨p1,p2,p3,p4,p5,p6⟩:=xE q
 exact zxS hn (E7 (ok.cfg p1)) (VS q) ar ok.names J λl hl o ho=>by
  have a:=ok.ops l hl o ho;exact⟨(p5 l hl).2 o ho,a.1,a.2.1,a.2.2.1,a.2.2.2.1,a.2.2.2.2⟩
def Es{s:fR}(ok:np s)(h:(qM s).2=0)(k:Nat)(hk:k<=s.zQ.length):GI (600+k) k (iv (iH s) s.zQ k).1 (iv (iH s) s.zQ k).2.1:=by
 obtain⟨q,_⟩:=xj h;obtain⟨_,_,_,p4,_,_⟩:=xE q;have:=AB (y9 ok h) s.zQ k hk aw aw
 rwa [gP]at this
def Oc{N K:Nat}{w:Wor}{X:List fB}(gi:GI N K w X){t:Nat}{x:fB}(hx:X[t]?=some x):x.given.length=x.done/\x.done<=x.ops.length:=by
 obtain⟨os,hl,hti,_⟩:=gi.own;obtain⟨o,ho⟩:∃o,os[t]?=some o:=⟨_,dX (by have:=(dW.1 hx).1;omega)⟩;have ti:=hti t x o hx ho;exact⟨ti.given,ti.le⟩
def Z6(x:fB)(m:fi):(qn x m).ops=x.ops:=by unfold qn;split <;> rfl
def Jv{s:fR}(ok:np s)(h:(qM s).2=0):∀k,k<=s.zQ.length->(iv (iH s) s.zQ k).2.1.map (·.ops)=s.threads
 |0,_=>by
  show(s.threads.map iV).map (·.ops)=s.threads;rw[rA];exact List.map_id _
 |k+1,hk=>by
  have ih:=Jv ok h k aw;have gi:=Es ok h k aw;obtain⟨q,_⟩:=xj h;obtain⟨_,_,_,p4,_,_⟩:=xE q;rw[y8 (dX aw)];rcases xi gi s.zQ[k] aw aw with⟨_,e⟩|⟨t,x,o,r,_,hx,_,_,_,_,_,e,_⟩
  ·rw[e];exact ih
  ·rw[e];show(List.set _ t (qn x r.2.1)).map (·.ops)=_;rw[rj,Z6,<-ih];exact yy _ _ (by rw[gf,hx];rfl)
def Fg(s:fR)(ok:np s):tj 13 [] [.agg (wi s)] (.fq [iK (zY s).1,.agg (vC (zY s).2.1),I (zY s).2.2]) []:=by
 have hb:=KP s ok.wk ok.cfg ok.P6 λ_ x hx=>by have:=ok.names x hx;unfold reachBytes at this;omega
 have w:=WX s (qM s) (λk=>iv (iH s) s.zQ k) hb (λh=>by
   obtain⟨q,_⟩:=xj h;obtain⟨_,_,p3,p4,_,p6⟩:=xE q;exact⟨p3,p4,λp hp=>⟨p6 p hp,ok.zQ p hp⟩⟩) J λh k p hp=>by
  have hk:=(dW.1 hp).1;have gi:=Es ok h k aw;have ao:=Jv ok h k aw;obtain⟨q,_⟩:=xj h;obtain⟨_,_,p3,p4,p5,_⟩:=xE q;refine⟨?_⟩;(try dsimp only)
  rw[y8 hp];rcases xi gi p aw aw with⟨ha,e⟩|⟨t,x,o,r,ht,hx,ho,hsu,htm,hst,_,e,_⟩
  ·exact .inl ⟨ha,e⟩
  ·right
   have tk:=Oc gi hx;have xo:x.ops∈s.threads:=by rw[<-ao];exact gR.2 ⟨x,dY hx,rfl⟩
   have xl:=(p5 x.ops xo).1
   have hX:(iv (iH s) s.zQ k).2.1.length<=8:=by
    have:=rq List.length ao;rw[gu]at this;omega
   rw[e];exact⟨t,x,nW r.2.2 x,ht,hx,by show(List.set _ _ _).length=_;rw[pU],rfl,XX hx ho hX aw aw (U5 hsu gi.st.ty htm aw hst)⟩
 unfold zY;by_cases h:(qM s).2=0
 ·rw[gh h,gh h]at w;rw[gh h];rw[h]at w;exact w
 ·rw[dZ h,dZ h]at w;rw[dZ h];exact w
end Go.Wor
namespace Go.Run
open Go.Ab Go.Proofs Tryz Go.Hy Go.Gat Go.Nam Go.Hos Go.Con
def Aq(o:fJ):Bool:=lQ o.config || (decide (100<o.host.length) || decide (100<o.path.length))
def AM(l:List fJ):Bool:=decide (40<l.length) || l.any Aq
def nC(s:fR):Bool:=lQ s.first || decide (20<s.threads.length) || decide (5000<s.zQ.length) || s.threads.any AM
structure KB(s:fR):Prop where
 first:s.first.ze.length<4000000000000000000/\s.first.zM.length<4000000000000000000/\s.first.zn.length<4000000000000000000
 threads:s.threads.length<4000000000000000000
 ops:∀l∈s.threads,l.length<4000000000000000000
 cfg:∀l∈s.threads,∀o∈l,o.config.ze.length<4000000000000000000/\o.config.zM.length<4000000000000000000/\o.config.zn.length<4000000000000000000
def Mh(s:fR)(hs:KB s):tj 12 [] [.agg (wi s)] (Bo (nC s)) []:=by
 have m1:(s.threads.map vJ).length=s.threads.length:=gu ..;have m2:(s.zQ.map Go.Hy.encI).length=s.zQ.length:=gu ..;have hf:=hs.first;have ht:=hs.threads;refine ab func12 ?_;refine ah (MK s.first hf.1 hf.2.1 hf.2.2) ?_;(refine⟨λa1=>?_,λa1=>?_⟩);(focus ((have e:nC s=true:=(by (try simp at a1);simp[nC];first|omega|(rw[a1];simp)));(rw[e]);refine dd ?_;refine hZ ?_;exact uI));refine dd ?_
 rw[m1];(refine⟨λa2=>?_,λa2=>?_⟩);(focus ((have e:nC s=true:=(by (try simp at a2);simp[nC];first|omega|(rw[a2];simp)));(rw[e]);refine dd ?_;refine hZ ?_;exact uI));refine dd ?_
 rw[m2];(refine⟨λa3=>?_,λa3=>?_⟩);(focus ((have e:nC s=true:=(by (try simp at a3);simp[nC];first|omega|(rw[a3];simp)));(rw[e]);refine dd ?_;refine hZ ?_;exact uI));refine dd ?_
 refine hZ ?_
 have eW:nC s=s.threads.any AM:=by
  unfold nC;simp at a2 a3;rw[a1,rC aw,rC aw]
  rfl
 refine qe.seq s.threads.length (λk=>(.za::.ref 0 [] 5 0 0::Bo false::I k:: tZ (jp (tZ (tZ (tZ ([]))))))) (λk=>[oS s]) (λk=>∀j,(h:j<s.threads.length)->j<k->AM s.threads[j]=false) ?_ aj (λk hk hr=>?_) (λhr=>?_)
 ·exact cC
 ·obtain⟨v,hx⟩:∃v,v=s.threads[k]:=⟨_,rfl⟩;have hv:v∈s.threads:=by rw[hx];exact gU hk
  have hg:(s.threads.map vJ)[k]?=some (vJ v):=by rw[gf,dX hk,hx];rfl
  have mg:(v.map i7).length=v.length:=gu ..
  have bad:AM v=true->nC s=true:=λh=>by
   rw[eW];exact p9.2 ⟨v,hv,h⟩
  have bg:=hs.ops v hv;conv=>whnf
  rw[m1];refine uF ?_;(refine tc hg ?_)
  rw[mg];refine⟨λc2=>?_,λc2=>?_⟩
  ·rw[bad (by unfold AM;rw[rY (by simp at c2;omega)];rfl)];refine dd ?_;(refine .inr ⟨aj,uH ?_⟩)
   exact uI
  refine dd ?_;refine qe.seq v.length (λj=>(.za::.ref 0 [] 5 0 0::Bo false::I k::I j:: .za::.za::.za::.za::.za::.za::.za::tZ (jp (tZ (tZ ([])))))) (λj=>[oS s]) (λj=>∀i,(h:i<v.length)->i<j->Aq v[i]=false) ?_ aj (λj hj hrj=>?_) (λhrj=>?_)
  ·exact cC
  ·obtain⟨o,hxg⟩:∃o,o=v[j]:=⟨_,rfl⟩;have ho:o∈v:=by rw[hxg];exact gU hj
   have hgg:(v.map i7)[j]?=some (i7 o):=by rw[gf,dX hj,hxg];rfl
   have hc:=hs.cfg v hv o ho
   have badg:Aq o=true->nC s=true:=λh=>bad (by
    have:v.any Aq=true:=p9.2 ⟨o,ho,h⟩;unfold AM;rw[this,ui])
   conv=>whnf
   (refine tc hg ?_)
   rw[mg];refine uF ?_;(refine tc hg ?_)
   (refine tc hgg ?_)
   refine ah (MK o.config hc.1 hc.2.1 hc.2.2) ?_;refine⟨λc3=>?_,λc3=>?_⟩
   ·rw[badg (by unfold Aq;rw[c3];rfl)];refine dd ?_;refine hZ ?_
    (refine .inr ⟨aj,uH ?_⟩)
    (try (refine .inr ⟨aj,uH ?_⟩))
    exact uI
   refine dd ?_;refine⟨λc4=>?_,λc4=>?_⟩
   ·rw[badg (by unfold Aq;rw[c3,rY (by simp at c4;omega)];rfl)];refine dd ?_;refine hZ ?_
    (refine .inr ⟨aj,uH ?_⟩)
    (try (refine .inr ⟨aj,uH ?_⟩))
    exact uI
   refine dd ?_;refine⟨λc5=>?_,λc5=>?_⟩
   ·rw[badg (by unfold Aq;rw[c3,rY (p:=100<o.path.length) (by simp at c5;omega)];simp)];refine dd ?_;refine hZ ?_
    (refine .inr ⟨aj,uH ?_⟩)
    (try (refine .inr ⟨aj,uH ?_⟩))
    exact uI
   refine dd ?_;refine hZ ?_
   refine .inl ⟨rfl,?_,λi hi hij=>?_⟩
   ·exact dD
   ·by_cases e:i=j
    ·subst e;rw[<-hxg];unfold Aq;rw[c3,rC (by simp at c4;omega),rC (by simp at c5;omega)]
     rfl
    ·exact hrj i hi aw
  ·have h0:v.any Aq=false:=by
    rw[pC];intro x hx;obtain⟨i,hi,rfl⟩:=pM.1 hx;simp[hrj i hi hi]
   have no:AM v=false:=by unfold AM;rw[h0,rC (by simp at c2;omega)];rfl
   conv=>whnf
   (refine tc hg ?_)
   rw[mg];refine⟨λh=>absurd h aj,λ_=>dd ?_⟩;refine⟨aj,uH ?_⟩;refine .inl ⟨rfl,?_,λi hi hij=>?_⟩
   ·exact dD
   ·by_cases e:i=k
    ·subst e;rw[<-hx];exact no
    ·exact hr i hi aw
 ·have h0:s.threads.any AM=false:=by
   rw[pC];intro x hx;obtain⟨i,hi,rfl⟩:=pM.1 hx;simp[hr i hi hi]
  rw[eW,h0];conv=>whnf
  rw[m1];refine⟨λh=>absurd h aj,λ_=>dd ?_⟩;refine⟨aj,uH ?_⟩;exact uI
end Go.Run
namespace Go.Run
open Go.Ab Go.Proofs Tryz Go.Gat Go.Nam Go.Hos Go.Con Go.Sna Go.Pla Go.Ply Go.Wor
open Go.Hy hiding encI
abbrev mQ:ft:=[105,110]
abbrev zzi:ia:=⟨[mQ],[⟨mQ,[42],[47],[97]⟩],[⟨[97],1,1,[true]⟩]⟩
abbrev oZ:fJ:=⟨1,mQ,[120],[47],0,0,0,⟨[],[],[]⟩⟩
abbrev JT(k:Nat):List Int:=(List.range k).map λi=>((i / 10:Nat):Int)
abbrev zzv(k:Nat):fR:=⟨zzi,[[oZ,⟨2,[],[],[],0,0,0,⟨[],[],[]⟩⟩,oZ],[⟨4,mQ,[],[],0,0,0,⟨[],[],[]⟩⟩]],JT k⟩
abbrev y6:fR:=zzv 60
def EY(k:Int)(l h p:ft):List C:=[I k,Tx l,Tx h,Tx p,I 0,I 0,I 0,.fh 1 0 [],.fh 1 0 [],.fh 1 0 []]
def zzq:List C:=[.fh 1 1 [[Tx mQ]],.fh 1 4 [[Tx mQ,Tx [42],Tx [47],Tx [97]]],.fh 1 4 [[Tx [97],I 1,I 1,.fh 1 1 [[Bo true]]]]]
def Qb(p:C):List C:=zzq++[.fh 1 1 [[.fh 1 10 [EY 1 mQ [120] [47],EY 2 [] [] [],EY 1 mQ [120] [47]]],[.fh 1 10 [EY 4 mQ [] []]]],p]
abbrev Dz:fR:=⟨⟨[],[],[]⟩,[],[]⟩
abbrev EX(c:ia):fJ:=⟨3,[],[],[],0,0,0,c⟩
def CH:np y6:=by
 refine⟨⟨⟨⟨ar,ar⟩,⟨ar,ar⟩,⟨ar,ar⟩⟩,ar,ar,aj⟩,λ_=>⟨⟨ar,ar⟩,⟨ar,ar⟩,⟨ar,ar⟩⟩,?_,?_,?_,?_⟩
 ·intro l hl o ho
  have:o.config=⟨[],[],[]⟩:=by
   have hl:l=[oZ,⟨2,[],[],[],0,0,0,⟨[],[],[]⟩⟩,oZ]\/l=[⟨4,mQ,[],[],0,0,0,⟨[],[],[]⟩⟩]:=aq hl
   rcases hl with rfl|rfl
   ·have ho:o=oZ\/o=⟨2,[],[],[],0,0,0,⟨[],[],[]⟩⟩\/o=oZ:=by simpa using ho
    rcases ho with rfl|rfl|rfl <;> rfl
   ·have ho:o=⟨4,mQ,[],[],0,0,0,⟨[],[],[]⟩⟩:=by simpa using ho
    rw[ho]
  rw[this];exact⟨⟨ar,ar⟩,⟨ar,ar⟩,⟨ar,ar⟩⟩
 ·intro x hx;have e:yk y6=[mQ]:=by kernel_rfl
  rw[e]at hx;rw[gX.1 hx]
  decide
 ·intro l hl o ho;have hl:l=[oZ,⟨2,[],[],[],0,0,0,⟨[],[],[]⟩⟩,oZ]\/l=[⟨4,mQ,[],[],0,0,0,⟨[],[],[]⟩⟩]:=by simpa using hl
  have k:o=oZ\/o=⟨2,[],[],[],0,0,0,⟨[],[],[]⟩⟩\/o=⟨4,mQ,[],[],0,0,0,⟨[],[],[]⟩⟩:=by
   rcases hl with rfl|rfl
   ·have ho:o=oZ\/o=⟨2,[],[],[],0,0,0,⟨[],[],[]⟩⟩\/o=oZ:=by simpa using ho
    rcases ho with rfl|rfl|rfl
    ·exact .inl J
    ·exact .inr (.inl J)
    ·exact .inl J
   ·have ho:o=⟨4,mQ,[],[],0,0,0,⟨[],[],[]⟩⟩:=by simpa using ho
    exact .inr (.inr ho)
  rcases k with rfl|rfl|rfl
  ·exact⟨ar,ar,ar,ar,λh=>absurd h ar⟩
  ·exact⟨ar,ar,ar,ar,λh=>absurd h ar⟩
  ·exact⟨ar,ar,ar,ar,λh=>absurd h ar⟩
 ·intro p hp;obtain⟨i,hi,rfl⟩:=gR.1 hp;have:=p7.1 hi;unfold i64;omega
def QB:np Dz:=by
 refine⟨⟨⟨⟨ar,ar⟩,⟨ar,ar⟩,⟨ar,ar⟩⟩,ar,ar,ar⟩,λ_=>⟨⟨ar,ar⟩,⟨ar,ar⟩,⟨ar,ar⟩⟩,λl hl=>(by cases hl),?_,λl hl=>(by cases hl),λp hp=>(by cases hp)⟩;intro x hx;have e:yk Dz=[]:=au
 rw[e]at hx;cases hx
end Go.Run
