import Derived.Test.YtoeaoedlpmohoaaGreatS6
import Derived.Test.YtoeaoedlpmohoaaGreatS7
import Derived.Test.YtoeaoedlpmohoaaGreatS8
import Derived.Test.YtoeaoedlpmohoaaGreatS4
import Derived.Test.YtoeaoedlpmohoaaGreatS5
import Derived.Test.YtoeaoedlpmohoaaGreatSF
import Derived.Test.YtoeaoedlpmohoaaGreatS0
import Derived.Test.YtoeaoedlpmohoaaGreatS1
set_option linter.all false
set_option maxRecDepth 100000
set_option maxHeartbeats 4000000
namespace Go.Ply
open Go.Ab Go.Proofs Tryz Go.Hy Go.Wor
def zuW{X:List lW}{t i:Nat}(x:lW)(h:t≠i):wa (X.set t x) i=wa X i:=by
 unfold wa;rw[pX h]
def zrD{X:List lW}{t:Nat}(x:lW)(h:t<X.length):wa (X.set t x) t=x.given:=by
 unfold wa;rw[pC h]
def zxs{X:List lW}{t:Nat}{x:lW}(h:X[t]?=some x):wa X t=x.given:=by
 unfold wa;rw[h]
def zzH(X:List lW)(t:Nat)(x:lW):(X.mapIdx (qG 1)).set t (qG 1 t x)=(X.set t x).mapIdx (qG 1):=by
 refine rp λi=>?_
 rw[rQ,pK,pK,rQ,List.length_mapIdx];by_cases h:t=i
 ·subst h;rw[pA O,pA O];split <;> rfl
 ·rw[pw h,pw h]
def zy4{X:List lW}{t:Nat}{x:lW}{o:lX}{w w':Wor}{m':lh}{e:lD}(hx:X[t]?=some x)(ho:x.ops[x.done]?=some o)(hX:X.length<=8)(hgn:x.given.length<=1000)(hdn:x.done<=1000)
 (hp:tp 63 [] [.agg (kY w),.agg (AT (z8 x t o))] (.lK [.agg (kY w'),.agg (AT m'),.agg (jd e)]) []):
  tp 33 (Ct 1 X) [.ref 0 [] 48 t 0,.agg (kY w),I t] (.lK [.agg (kY w'),.agg (jd (vq e x))]) (Ct 1 (X.set t (qq x m'))):=by
 have htl:=(gZ.1 hx).1;have ga:=zxs hx;have h8:t<8:=aw
 have res:Ct 1 (X.set t (qq x m'))=Bu X ⟨1,0,48,(X.mapIdx (qG 1)).set t (qG 1 t (qq x m')),0⟩ (Dg (qq x m').given) [] t:=by
  have g:∀i,lF (X.set t (qq x m')) i=if t=i then Dg (qq x m').given else lF X i:=λi=>by
   split
   ·rename_i e;subst e;show lF _ t=_;unfold lF;rw[zrD _ htl]
   ·rename_i e;unfold lF;rw[zuW _ e]
  rw[zzH];unfold Ct;rw[g 0,g 1,g 2,g 3,g 4,g 5,g 6,g 7];rcases eight h8 with rfl|rfl|rfl|rfl|rfl|rfl|rfl|rfl <;> rfl
 rw[zxH X h8,res,ga];obtain⟨ops,dn,on,m,given⟩:=x;cases on
 ·exact ZP h8 X ops dn m given w w' _ m' e o hx hX hgn hdn ho (Beg.zoJ t o given (by have h:given.length<=1000:=hgn;omega)) hp
 ·exact ZQ h8 X ops dn m given w w' m' e hx hX hgn hdn hp
end Go.Ply
namespace Go.Wor
open Go.Ab Go.Proofs Tryz Go.Gat Go.Nam Go.Hos Go.Con Go.Sna Go.Pla Go.Ply
open Go.Hy hiding encI
structure kL(s:mb):Prop where
 wk:L9 s
 cfg:wY s.first=true->yX s.first
 Rs:∀l∈s.threads,∀o∈l,yY o.config
 names:∀x∈ye s,x.length<=reachBytes
 ops:∀l∈s.threads,∀o∈l,o.host.length<1000000000000000/\o.path.length<1000000000000000/\i64 o.d0/\i64 o.d1/\(o.kind=3->yY o.config)
 zP:∀p∈s.zP,i64 p
def nu(s:mb):mS:=((qT s).1,s.threads.map wA,[])
def qU(s:mb):mS:=mY (nu s) s.zP s.zP.length
def zK(s:mb):List lD×Wor×Int:=if (qT s).2=0 then ((qU s).2.2,(qU s).1,0) else ([],⟨0,0,0,[],[],[],[],[]⟩,(qT s).2)
def jQ{s:mb}(h:(qT s).2=0):oN s=true/\nZ (z7 s.first).1 (ye s) s.threads.length=((qT s).1,0):=by
 unfold qT at h ⊢;split at h
 ·rename_i q;rw[pA q];exact⟨q,by rw[<-h]⟩
 ·exact absurd (show(1:Int)=0 from h) ar
def zvv{s:mb}(h:oN s=true):(ye s).length<=600:=by
 obtain⟨p1,p2,p3,p4,p5,p6⟩:=xg h;have a:=Kq [] (Gd p1)
 have b:=Io AI 64 s.threads (nY [] s.first) λl hl o=>by
  have hl2:=(p5 l hl).1;exact NI o hl2
 have c:ye s=s.threads.foldl AI (nY [] s.first):=rfl;rw[c];simp at a;omega
def xY{s:mb}(ok:kL s)(h:(qT s).2=0):GI 600 0 (nu s).1 (nu s).2.1:=by
 obtain⟨q,hn⟩:=jQ h;obtain⟨p1,p2,p3,p4,p5,p6⟩:=xg q
 exact Zf hn (JQ (ok.cfg p1)) (zvv q) ar ok.names O λl hl o ho=>by
  have a:=ok.ops l hl o ho;exact⟨(p5 l hl).2 o ho,a.1,a.2.1,a.2.2.1,a.2.2.2.1,a.2.2.2.2⟩
def IX{s:mb}(ok:kL s)(h:(qT s).2=0)(k:Nat)(hk:k<=s.zP.length):GI (600+k) k (mY (nu s) s.zP k).1 (mY (nu s) s.zP k).2.1:=by
 obtain⟨q,_⟩:=jQ h;obtain⟨_,_,_,p4,_,_⟩:=xg q;have:=kB (xY ok h) s.zP k hk aw aw
 rwa [pR]at this
def Vm{N K:Nat}{w:Wor}{X:List lW}(gi:GI N K w X){t:Nat}{x:lW}(hx:X[t]?=some x):x.given.length=x.done/\x.done<=x.ops.length:=by
 obtain⟨os,hl,hti,_⟩:=gi.own;obtain⟨o,ho⟩:∃o,os[t]?=some o:=⟨_,pa (by have:=(gZ.1 hx).1;omega)⟩;have ti:=hti t x o hx ho;exact⟨ti.given,ti.le⟩
def V6(x:lW)(m:lh):(qq x m).ops=x.ops:=by unfold qq;split <;> rfl
def Ph{s:mb}(ok:kL s)(h:(qT s).2=0):∀k,k<=s.zP.length->(mY (nu s) s.zP k).2.1.map (·.ops)=s.threads
 |0,_=>by
  show(s.threads.map wA).map (·.ops)=s.threads;rw[sM];exact lb _
 |k+1,hk=>by
  have ih:=Ph ok h k aw;have gi:=IX ok h k aw;obtain⟨q,_⟩:=jQ h;obtain⟨_,_,_,p4,_,_⟩:=xg q;rw[xX (pa aw)];rcases jy gi s.zP[k] aw aw with⟨_,e⟩|⟨t,x,o,r,_,hx,_,_,_,_,_,e,_⟩
  ·rw[e];exact ih
  ·rw[e];show(List.set _ t (qq x r.2.1)).map (·.ops)=_;rw[r6,V6,<-ih];exact yO _ _ (by rw[pj,hx];rfl)
def vb(s:mb)(ok:kL s):tp 13 [] [.agg (yC s)] (.lK [na (zK s).1,.agg (kY (zK s).2.1),I (zK s).2.2]) []:=by
 have hb:=RE s ok.wk ok.cfg ok.Rs λ_ x hx=>by have:=ok.names x hx;unfold reachBytes at this;omega
 have w:=zvX s (qT s) (λk=>mY (nu s) s.zP k) hb (λh=>by
   obtain⟨q,_⟩:=jQ h;obtain⟨_,_,p3,p4,_,p6⟩:=xg q;exact⟨p3,p4,λp hp=>⟨p6 p hp,ok.zP p hp⟩⟩) O λh k p hp=>by
  have hk:=(gZ.1 hp).1;have gi:=IX ok h k aw;have ao:=Ph ok h k aw;obtain⟨q,_⟩:=jQ h;obtain⟨_,_,p3,p4,p5,_⟩:=xg q;refine⟨?_⟩;(try dsimp only)
  rw[xX hp];rcases jy gi p aw aw with⟨ha,e⟩|⟨t,x,o,r,ht,hx,ho,hsu,htm,hst,_,e,_⟩
  ·exact .inl ⟨ha,e⟩
  ·right
   have tk:=Vm gi hx;have xo:x.ops∈s.threads:=by rw[<-ao];exact pZ.2 ⟨x,pq hx,rfl⟩
   have xl:=(p5 x.ops xo).1
   have hX:(mY (nu s) s.zP k).2.1.length<=8:=by
    have:=sF List.length ao;rw[pB]at this;omega
   rw[e];exact⟨t,x,vq r.2.2 x,ht,hx,by show(List.set _ _ _).length=_;rw[rX],rfl,zy4 hx ho hX aw aw (zsD hsu gi.st.ty htm aw hst)⟩
 unfold zK;by_cases h:(qT s).2=0
 ·rw[pA h,pA h]at w;rw[pA h];rw[h]at w;exact w
 ·rw[pw h,pw h]at w;rw[pw h];exact w
end Go.Wor
namespace Go.Run
open Go.Ab Go.Proofs Tryz Go.Hy Go.Gat Go.Nam Go.Hos Go.Con
def Di(o:lX):Bool:=oR o.config || (decide (100<o.host.length) || decide (100<o.path.length))
def DK(l:List lX):Bool:=decide (40<l.length) || l.any Di
def Bn(s:mb):Bool:=oR s.first || decide (20<s.threads.length) || decide (5000<s.zP.length) || s.threads.any DK
structure Qg(s:mb):Prop where
 first:s.first.zf.length<4000000000000000000/\s.first.zS.length<4000000000000000000/\s.first.zm.length<4000000000000000000
 threads:s.threads.length<4000000000000000000
 ops:∀l∈s.threads,l.length<4000000000000000000
 cfg:∀l∈s.threads,∀o∈l,o.config.zf.length<4000000000000000000/\o.config.zS.length<4000000000000000000/\o.config.zm.length<4000000000000000000
def kC(s:mb)(hs:Qg s):tp 12 [] [.agg (yC s)] (Bo (Bn s)) []:=by
 have m1:(s.threads.map yo).length=s.threads.length:=pB ..;have m2:(s.zP.map Go.Hy.encI).length=s.zP.length:=pB ..;have hf:=hs.first;have ht:=hs.threads;refine ab func12 ?_;refine ah (TR s.first hf.1 hf.2.1 hf.2.2) ?_;(refine⟨λa1=>?_,λa1=>?_⟩);(focus ((have e:Bn s=true:=(by (try simp at a1);simp[Bn];first|omega|(rw[a1];simp)));(rw[e]);refine dd ?_;refine tf ?_;exact uI));refine dd ?_
 rw[m1];(refine⟨λa2=>?_,λa2=>?_⟩);(focus ((have e:Bn s=true:=(by (try simp at a2);simp[Bn];first|omega|(rw[a2];simp)));(rw[e]);refine dd ?_;refine tf ?_;exact uI));refine dd ?_
 rw[m2];(refine⟨λa3=>?_,λa3=>?_⟩);(focus ((have e:Bn s=true:=(by (try simp at a3);simp[Bn];first|omega|(rw[a3];simp)));(rw[e]);refine dd ?_;refine tf ?_;exact uI));refine dd ?_
 refine tf ?_
 have eW:Bn s=s.threads.any DK:=by
  unfold Bn;simp at a2 a3;rw[a1,sU aw,sU aw]
  rfl
 refine zW.seq s.threads.length (λk=>(.za::.ref 0 [] 5 0 0::Bo false::I k:: mF (jp (mF (mF (mF ([]))))))) (λk=>[oS s]) (λk=>∀j,(h:j<s.threads.length)->j<k->DK s.threads[j]=false) ?_ aj (λk hk hr=>?_) (λhr=>?_)
 ·exact cC
 ·obtain⟨v,hx⟩:∃v,v=s.threads[k]:=⟨_,rfl⟩;have hv:v∈s.threads:=by rw[hx];exact pY hk
  have hg:(s.threads.map yo)[k]?=some (yo v):=by rw[pj,pa hk,hx];rfl
  have mg:(v.map wy).length=v.length:=pB ..
  have bad:DK v=true->Bn s=true:=λh=>by
   rw[eW];exact sb.2 ⟨v,hv,h⟩
  have bg:=hs.ops v hv;conv=>whnf
  rw[m1];refine uF ?_;(refine tj hg ?_)
  rw[mg];refine⟨λc2=>?_,λc2=>?_⟩
  ·rw[bad (by unfold DK;rw[ur (by simp at c2;omega)];rfl)];refine dd ?_;(refine .inr ⟨aj,uH ?_⟩)
   exact uI
  refine dd ?_;refine zW.seq v.length (λj=>(.za::.ref 0 [] 5 0 0::Bo false::I k::I j:: .za::.za::.za::.za::.za::.za::.za::mF (jp (mF (mF ([])))))) (λj=>[oS s]) (λj=>∀i,(h:i<v.length)->i<j->Di v[i]=false) ?_ aj (λj hj hrj=>?_) (λhrj=>?_)
  ·exact cC
  ·obtain⟨o,hxg⟩:∃o,o=v[j]:=⟨_,rfl⟩;have ho:o∈v:=by rw[hxg];exact pY hj
   have hgg:(v.map wy)[j]?=some (wy o):=by rw[pj,pa hj,hxg];rfl
   have hc:=hs.cfg v hv o ho
   have badg:Di o=true->Bn s=true:=λh=>bad (by
    have:v.any Di=true:=sb.2 ⟨o,ho,h⟩;unfold DK;rw[this,fZ])
   conv=>whnf
   (refine tj hg ?_)
   rw[mg];refine uF ?_;(refine tj hg ?_)
   (refine tj hgg ?_)
   refine ah (TR o.config hc.1 hc.2.1 hc.2.2) ?_;refine⟨λc3=>?_,λc3=>?_⟩
   ·rw[badg (by unfold Di;rw[c3];rfl)];refine dd ?_;refine tf ?_
    (refine .inr ⟨aj,uH ?_⟩)
    (try (refine .inr ⟨aj,uH ?_⟩))
    exact uI
   refine dd ?_;refine⟨λc4=>?_,λc4=>?_⟩
   ·rw[badg (by unfold Di;rw[c3,ur (by simp at c4;omega)];rfl)];refine dd ?_;refine tf ?_
    (refine .inr ⟨aj,uH ?_⟩)
    (try (refine .inr ⟨aj,uH ?_⟩))
    exact uI
   refine dd ?_;refine⟨λc5=>?_,λc5=>?_⟩
   ·rw[badg (by unfold Di;rw[c3,ur (p:=100<o.path.length) (by simp at c5;omega)];simp)];refine dd ?_;refine tf ?_
    (refine .inr ⟨aj,uH ?_⟩)
    (try (refine .inr ⟨aj,uH ?_⟩))
    exact uI
   refine dd ?_;refine tf ?_
   refine .inl ⟨rfl,?_,λi hi hij=>?_⟩
   ·exact gA
   ·by_cases e:i=j
    ·subst e;rw[<-hxg];unfold Di;rw[c3,sU (by simp at c4;omega),sU (by simp at c5;omega)]
     rfl
    ·exact hrj i hi aw
  ·have h0:v.any Di=false:=by
    rw[rI];intro x hx;obtain⟨i,hi,rfl⟩:=rP.1 hx;simp[hrj i hi hi]
   have no:DK v=false:=by unfold DK;rw[h0,sU (by simp at c2;omega)];rfl
   conv=>whnf
   (refine tj hg ?_)
   rw[mg];refine⟨λh=>absurd h aj,λ_=>dd ?_⟩;refine⟨aj,uH ?_⟩;refine .inl ⟨rfl,?_,λi hi hij=>?_⟩
   ·exact gA
   ·by_cases e:i=k
    ·subst e;rw[<-hx];exact no
    ·exact hr i hi aw
 ·have h0:s.threads.any DK=false:=by
   rw[rI];intro x hx;obtain⟨i,hi,rfl⟩:=rP.1 hx;simp[hr i hi hi]
  rw[eW,h0];conv=>whnf
  rw[m1];refine⟨λh=>absurd h aj,λ_=>dd ?_⟩;refine⟨aj,uH ?_⟩;exact uI
end Go.Run
namespace Go.Run
open Go.Ab Go.Proofs Tryz Go.Gat Go.Nam Go.Hos Go.Con Go.Sna Go.Pla Go.Ply Go.Wor
open Go.Hy hiding encI
abbrev Ba:lH:=[105,110]
abbrev zEl:mL:=⟨[Ba],[⟨Ba,[42],[47],[97]⟩],[⟨[97],1,1,[true]⟩]⟩
abbrev CX:lX:=⟨1,Ba,[120],[47],0,0,0,⟨[],[],[]⟩⟩
abbrev PJ(k:Nat):List Int:=(List.range k).map λi=>((i / 10:Nat):Int)
abbrev zEx(k:Nat):mb:=⟨zEl,[[CX,⟨2,[],[],[],0,0,0,⟨[],[],[]⟩⟩,CX],[⟨4,Ba,[],[],0,0,0,⟨[],[],[]⟩⟩]],PJ k⟩
abbrev kh:mb:=zEx 60
def Jw(k:Int)(l h p:lH):List C:=[I k,Tx l,Tx h,Tx p,I 0,I 0,I 0,.lq 1 0 [],.lq 1 0 [],.lq 1 0 []]
def zEs:List C:=[.lq 1 1 [[Tx Ba]],.lq 1 4 [[Tx Ba,Tx [42],Tx [47],Tx [97]]],.lq 1 4 [[Tx [97],I 1,I 1,.lq 1 1 [[Bo true]]]]]
def Ri(p:C):List C:=zEs++[.lq 1 1 [[.lq 1 10 [Jw 1 Ba [120] [47],Jw 2 [] [] [],Jw 1 Ba [120] [47]]],[.lq 1 10 [Jw 4 Ba [] []]]],p]
abbrev CG:mb:=⟨⟨[],[],[]⟩,[],[]⟩
abbrev Et(c:mL):lX:=⟨3,[],[],[],0,0,0,c⟩
def F0:kL kh:=by
 refine⟨⟨⟨⟨ar,ar⟩,⟨ar,ar⟩,⟨ar,ar⟩⟩,ar,ar,aj⟩,λ_=>⟨⟨ar,ar⟩,⟨ar,ar⟩,⟨ar,ar⟩⟩,?_,?_,?_,?_⟩
 ·intro l hl o ho
  have:o.config=⟨[],[],[]⟩:=by
   have hl:l=[CX,⟨2,[],[],[],0,0,0,⟨[],[],[]⟩⟩,CX]\/l=[⟨4,Ba,[],[],0,0,0,⟨[],[],[]⟩⟩]:=aq hl
   rcases hl with rfl|rfl
   ·have ho:o=CX\/o=⟨2,[],[],[],0,0,0,⟨[],[],[]⟩⟩\/o=CX:=by simpa using ho
    rcases ho with rfl|rfl|rfl <;> rfl
   ·have ho:o=⟨4,Ba,[],[],0,0,0,⟨[],[],[]⟩⟩:=by simpa using ho
    rw[ho]
  rw[this];exact⟨⟨ar,ar⟩,⟨ar,ar⟩,⟨ar,ar⟩⟩
 ·intro x hx;have e:ye kh=[Ba]:=by kernel_rfl
  rw[e]at hx;rw[pP.1 hx]
  decide
 ·intro l hl o ho;have hl:l=[CX,⟨2,[],[],[],0,0,0,⟨[],[],[]⟩⟩,CX]\/l=[⟨4,Ba,[],[],0,0,0,⟨[],[],[]⟩⟩]:=by simpa using hl
  have k:o=CX\/o=⟨2,[],[],[],0,0,0,⟨[],[],[]⟩⟩\/o=⟨4,Ba,[],[],0,0,0,⟨[],[],[]⟩⟩:=by
   rcases hl with rfl|rfl
   ·have ho:o=CX\/o=⟨2,[],[],[],0,0,0,⟨[],[],[]⟩⟩\/o=CX:=by simpa using ho
    rcases ho with rfl|rfl|rfl
    ·exact .inl O
    ·exact .inr (.inl O)
    ·exact .inl O
   ·have ho:o=⟨4,Ba,[],[],0,0,0,⟨[],[],[]⟩⟩:=by simpa using ho
    exact .inr (.inr ho)
  rcases k with rfl|rfl|rfl
  ·exact⟨ar,ar,ar,ar,λh=>absurd h ar⟩
  ·exact⟨ar,ar,ar,ar,λh=>absurd h ar⟩
  ·exact⟨ar,ar,ar,ar,λh=>absurd h ar⟩
 ·intro p hp;obtain⟨i,hi,rfl⟩:=pZ.1 hp;have:=sJ.1 hi;unfold i64;omega
def Xm:kL CG:=by
 refine⟨⟨⟨⟨ar,ar⟩,⟨ar,ar⟩,⟨ar,ar⟩⟩,ar,ar,ar⟩,λ_=>⟨⟨ar,ar⟩,⟨ar,ar⟩,⟨ar,ar⟩⟩,λl hl=>(by cases hl),?_,λl hl=>(by cases hl),λp hp=>(by cases hp)⟩;intro x hx;have e:ye CG=[]:=au
 rw[e]at hx;cases hx
end Go.Run
