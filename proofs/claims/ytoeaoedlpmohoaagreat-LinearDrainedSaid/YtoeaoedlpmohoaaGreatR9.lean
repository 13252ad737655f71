import Derived.Test.YtoeaoedlpmohoaaGreatR6
import Derived.Test.YtoeaoedlpmohoaaGreatR7
import Derived.Test.YtoeaoedlpmohoaaGreatR8
import Derived.Test.YtoeaoedlpmohoaaGreatR4
import Derived.Test.YtoeaoedlpmohoaaGreatR5
import Derived.Test.YtoeaoedlpmohoaaGreatRF
import Derived.Test.YtoeaoedlpmohoaaGreatR0
import Derived.Test.YtoeaoedlpmohoaaGreatR1
set_option linter.all false
set_option maxRecDepth 100000
set_option maxHeartbeats 4000000
namespace Go.Ply
open Go.Ab Go.Proofs Tryz Go.Hy Go.Wor
def Ve{X:List fN}{t i:Nat}(x:fN)(h:t≠i):vv (X.set t x) i=vv X i:=by
 unfold vv;rw[pq h]
def S3{X:List fN}{t:Nat}(x:fN)(h:t<X.length):vv (X.set t x) t=x.given:=by
 unfold vv;rw[gD h]
def W0{X:List fN}{t:Nat}{x:fN}(h:X[t]?=some x):vv X t=x.given:=by
 unfold vv;rw[h]
def YC(X:List fN)(t:Nat)(x:fN):(X.mapIdx (qv 1)).set t (qv 1 t x)=(X.set t x).mapIdx (qv 1):=by
 refine pL λi=>?_
 rw[pU,gM,gM,pU,List.length_mapIdx];by_cases h:t=i
 ·subst h;rw[gC rfl,gC rfl];split <;> rfl
 ·rw[gu h,gu h]
def XD{X:List fN}{t:Nat}{x:fN}{o:fG}{w w':Wor}{m':fq}{e:fx}(hx:X[t]?=some x)(ho:x.ops[x.done]?=some o)(hX:X.length<=8)(hgn:x.given.length<=1000)(hdn:x.done<=1000)
 (hp:tn 63 [] [.agg (zU w),.agg (zE (jo x t o))] (.fC [.agg (zU w'),.agg (zE m'),.agg (zS e)]) []):
  tn 33 (nT 1 X) [.ref 0 [] 48 t 0,.agg (zU w),I t] (.fC [.agg (zU w'),.agg (zS (yo e x))]) (nT 1 (X.set t (jk x m'))):=by
 have htl:=(gm.1 hx).1;have ga:=W0 hx;have h8:t<8:=aw
 have res:nT 1 (X.set t (jk x m'))=mX X ⟨1,0,48,(X.mapIdx (qv 1)).set t (qv 1 t (jk x m')),0⟩ (oW (jk x m').given) [] t:=by
  have g:∀i,fy (X.set t (jk x m')) i=if t=i then oW (jk x m').given else fy X i:=λi=>by
   split
   ·rename_i e;subst e;show fy _ t=_;unfold fy;rw[S3 _ htl]
   ·rename_i e;unfold fy;rw[Ve _ e]
  rw[YC];unfold nT;rw[g 0,g 1,g 2,g 3,g 4,g 5,g 6,g 7];rcases eight h8 with rfl|rfl|rfl|rfl|rfl|rfl|rfl|rfl <;> rfl
 rw[WH X h8,res,ga];obtain⟨ops,dn,on,m,given⟩:=x;cases on
 ·exact zxW h8 X ops dn m given w w' _ m' e o hx hX hgn hdn ho (Beg.Sq t o given (by have h:given.length<=1000:=hgn;omega)) hp
 ·exact zxX h8 X ops dn m given w w' m' e hx hX hgn hdn hp
end Go.Ply
namespace Go.Wor
open Go.Ab Go.Proofs Tryz Go.Gat Go.Nam Go.Hos Go.Con Go.Sna Go.Pla Go.Ply
open Go.Hy hiding encI
structure nG(s:fW):Prop where
 wk:GS s
 cfg:o8 s.first=true->x3 s.first
 PB:∀l∈s.threads,∀o∈l,x4 o.config
 names:∀x∈yc s,x.length<=reachBytes
 ops:∀l∈s.threads,∀o∈l,o.host.length<1000000000000000/\o.path.length<1000000000000000/\i64 o.d0/\i64 o.d1/\(o.kind=3->x4 o.config)
 zW:∀p∈s.zW,i64 p
def iV(s:fW):iE:=((qM s).1,s.threads.map wW,[])
def yN(s:fW):iE:=iK (iV s) s.zW s.zW.length
def qo(s:fW):List fx×Wor×Int:=if (qM s).2=0 then ((yN s).2.2,(yN s).1,0) else ([],⟨0,0,0,[],[],[],[],[]⟩,(qM s).2)
def xe{s:fW}(h:(qM s).2=0):i5 s=true/\lS (qa s.first).1 (yc s) s.threads.length=((qM s).1,0):=by
 unfold qM at h ⊢;split at h
 ·rename_i q;rw[gC q];exact⟨q,by rw[<-h]⟩
 ·exact absurd (show(1:Int)=0 from h) ar
def Wn{s:fW}(h:i5 s=true):(yc s).length<=600:=by
 obtain⟨p1,p2,p3,p4,p5,p6⟩:=xK h;have a:=Fx [] (wA p1)
 have b:=DC kU 64 s.threads (wF [] s.first) λl hl o=>by
  have hl2:=(p5 l hl).1;exact HO o hl2
 have c:yc s=s.threads.foldl kU (wF [] s.first):=rfl;rw[c];simp at a;omega
def CC{s:fW}(ok:nG s)(h:(qM s).2=0):GI 600 0 (iV s).1 (iV s).2.1:=by
 obtain⟨q,hn⟩:=xe h;obtain⟨p1,p2,p3,p4,p5,p6⟩:=xK q
 exact ZD hn (EV (ok.cfg p1)) (Wn q) ar ok.names rfl λl hl o ho=>by
  have a:=ok.ops l hl o ho;exact⟨(p5 l hl).2 o ho,a.1,a.2.1,a.2.2.1,a.2.2.2.1,a.2.2.2.2⟩
def Eh{s:fW}(ok:nG s)(h:(qM s).2=0)(k:Nat)(hk:k<=s.zW.length):GI (600+k) k (iK (iV s) s.zW k).1 (iK (iV s) s.zW k).2.1:=by
 obtain⟨q,_⟩:=xe h;obtain⟨_,_,_,p4,_,_⟩:=xK q;have:=BT (CC ok h) s.zW k hk aw aw
 rwa [gN]at this
def Nq{N K:Nat}{w:Wor}{X:List fN}(gi:GI N K w X){t:Nat}{x:fN}(hx:X[t]?=some x):x.given.length=x.done/\x.done<=x.ops.length:=by
 obtain⟨os,hl,hti,_⟩:=gi.own;obtain⟨o,ho⟩:∃o,os[t]?=some o:=⟨_,gp (by have:=(gm.1 hx).1;omega)⟩;have ti:=hti t x o hx ho;exact⟨ti.given,ti.le⟩
def NS(x:fN)(m:fq):(jk x m).ops=x.ops:=by unfold jk;split <;> rfl
def Jf{s:fW}(ok:nG s)(h:(qM s).2=0):∀k,k<=s.zW.length->(iK (iV s) s.zW k).2.1.map (·.ops)=s.threads
 |0,_=>by
  show(s.threads.map wW).map (·.ops)=s.threads;rw[rY];exact List.map_id _
 |k+1,hk=>by
  have ih:=Jf ok h k aw;have gi:=Eh ok h k aw;obtain⟨q,_⟩:=xe h;obtain⟨_,_,_,p4,_,_⟩:=xK q;rw[ks (gp aw)];rcases ye gi s.zW[k] aw aw with⟨_,e⟩|⟨t,x,o,r,_,hx,_,_,_,_,_,e,_⟩
  ·rw[e];exact ih
  ·rw[e];show(List.set _ t (jk x r.2.1)).map (·.ops)=_;rw[rH,NS,<-ih];exact yn _ _ (by rw[gz,hx];rfl)
def E8(s:fW)(ok:nG s):tn 13 [] [.agg (qi s)] (.fC [mf (qo s).1,.agg (zU (qo s).2.1),I (qo s).2.2]) []:=by
 have hb:=KA s ok.wk ok.cfg ok.PB λ_ x hx=>by have:=ok.names x hx;unfold reachBytes at this;omega
 have w:=VT s (qM s) (λk=>iK (iV s) s.zW k) hb (λh=>by
   obtain⟨q,_⟩:=xe h;obtain⟨_,_,p3,p4,_,p6⟩:=xK q;exact⟨p3,p4,λp hp=>⟨p6 p hp,ok.zW p hp⟩⟩) rfl λh k p hp=>by
  have hk:=(gm.1 hp).1;have gi:=Eh ok h k aw;have ao:=Jf ok h k aw;obtain⟨q,_⟩:=xe h;obtain⟨_,_,p3,p4,p5,_⟩:=xK q;refine⟨?_⟩;(try dsimp only)
  rw[ks hp];rcases ye gi p aw aw with⟨ha,e⟩|⟨t,x,o,r,ht,hx,ho,hsu,htm,hst,_,e,_⟩
  ·exact .inl ⟨ha,e⟩
  ·right
   have tk:=Nq gi hx;have xo:x.ops∈s.threads:=by rw[<-ao];exact pd.2 ⟨x,gA hx,rfl⟩
   have xl:=(p5 x.ops xo).1
   have hX:(iK (iV s) s.zW k).2.1.length<=8:=by
    have:=rF List.length ao;rw[gE]at this;omega
   rw[e];exact⟨t,x,yo r.2.2 x,ht,hx,by show(List.set _ _ _).length=_;rw[sb],rfl,XD hx ho hX aw aw (Ud hsu gi.st.ty htm aw hst)⟩
 unfold qo;by_cases h:(qM s).2=0
 ·rw[gC h,gC h]at w;rw[gC h];rw[h]at w;exact w
 ·rw[gu h,gu h]at w;rw[gu h];exact w
end Go.Wor
namespace Go.Run
open Go.Ab Go.Proofs Tryz Go.Hy Go.Gat Go.Nam Go.Hos Go.Con
def oQ(o:fG):Bool:=lK o.config || (decide (100<o.host.length) || decide (100<o.path.length))
def Ap(l:List fG):Bool:=decide (40<l.length) || l.any oQ
def nh(s:fW):Bool:=lK s.first || decide (20<s.threads.length) || decide (5000<s.zW.length) || s.threads.any Ap
structure Kc(s:fW):Prop where
 first:s.first.zd.length<4000000000000000000/\s.first.zO.length<4000000000000000000/\s.first.zk.length<4000000000000000000
 threads:s.threads.length<4000000000000000000
 ops:∀l∈s.threads,l.length<4000000000000000000
 cfg:∀l∈s.threads,∀o∈l,o.config.zd.length<4000000000000000000/\o.config.zO.length<4000000000000000000/\o.config.zk.length<4000000000000000000
def Lj(s:fW)(hs:Kc s):tn 12 [] [.agg (qi s)] (Bo (nh s)) []:=by
 have m1:(s.threads.map xf).length=s.threads.length:=gE ..;have m2:(s.zW.map Go.Hy.encI).length=s.zW.length:=gE ..;have hf:=hs.first;have ht:=hs.threads;refine ab func12 ?_;refine ah (Mc s.first hf.1 hf.2.1 hf.2.2) ?_;(refine⟨λa1=>?_,λa1=>?_⟩);(focus ((have e:nh s=true:=(by (try simp at a1);simp[nh];first|omega|(rw[a1];simp)));(rw[e]);refine dd ?_;refine tc ?_;exact uI));refine dd ?_
 rw[m1];(refine⟨λa2=>?_,λa2=>?_⟩);(focus ((have e:nh s=true:=(by (try simp at a2);simp[nh];first|omega|(rw[a2];simp)));(rw[e]);refine dd ?_;refine tc ?_;exact uI));refine dd ?_
 rw[m2];(refine⟨λa3=>?_,λa3=>?_⟩);(focus ((have e:nh s=true:=(by (try simp at a3);simp[nh];first|omega|(rw[a3];simp)));(rw[e]);refine dd ?_;refine tc ?_;exact uI));refine dd ?_
 refine tc ?_
 have eW:nh s=s.threads.any Ap:=by
  unfold nh;simp at a2 a3;rw[a1,rK aw,rK aw]
  rfl
 refine zZ.seq s.threads.length (λk=>(.za::.ref 0 [] 5 0 0::Bo false::I k:: mC (mC (mC (mC (mC (mC (mC (mC ([])))))))))) (λk=>[⟨1,30,5,[qi s],0⟩]) (λk=>∀j,(h:j<s.threads.length)->j<k->Ap s.threads[j]=false) ?_ aj (λk hk hr=>?_) (λhr=>?_)
 ·exact cC
 ·obtain⟨v,hx⟩:∃v,v=s.threads[k]:=⟨_,rfl⟩;have hv:v∈s.threads:=by rw[hx];exact gZ hk
  have hg:(s.threads.map xf)[k]?=some (xf v):=by rw[gz,gp hk,hx];rfl
  have mg:(v.map vq).length=v.length:=gE ..
  have bad:Ap v=true->nh s=true:=λh=>by
   rw[eW];exact rB.2 ⟨v,hv,h⟩
  have bg:=hs.ops v hv;conv=>whnf
  rw[m1];refine uF ?_;(refine td hg ?_)
  rw[mg];refine⟨λc2=>?_,λc2=>?_⟩
  ·rw[bad (by unfold Ap;rw[r9 (by simp at c2;omega)];rfl)];refine dd ?_;(refine .inr ⟨aj,uH ?_⟩)
   exact uI
  refine dd ?_;refine zZ.seq v.length (λj=>(.za::.ref 0 [] 5 0 0::Bo false::I k::I j:: .za::.za::.za::.za::.za::.za::.za::mC (mC (mC (mC (mC (mC (mC ([]))))))))) (λj=>[⟨1,30,5,[qi s],0⟩]) (λj=>∀i,(h:i<v.length)->i<j->oQ v[i]=false) ?_ aj (λj hj hrj=>?_) (λhrj=>?_)
  ·exact cC
  ·obtain⟨o,hxg⟩:∃o,o=v[j]:=⟨_,rfl⟩;have ho:o∈v:=by rw[hxg];exact gZ hj
   have hgg:(v.map vq)[j]?=some (vq o):=by rw[gz,gp hj,hxg];rfl
   have hc:=hs.cfg v hv o ho
   have badg:oQ o=true->nh s=true:=λh=>bad (by
    have:v.any oQ=true:=rB.2 ⟨o,ho,h⟩;unfold Ap;rw[this,uo])
   conv=>whnf
   (refine td hg ?_)
   rw[mg];refine uF ?_;(refine td hg ?_)
   (refine td hgg ?_)
   refine ah (Mc o.config hc.1 hc.2.1 hc.2.2) ?_;refine⟨λc3=>?_,λc3=>?_⟩
   ·rw[badg (by unfold oQ;rw[c3];rfl)];refine dd ?_;refine tc ?_
    (refine .inr ⟨aj,uH ?_⟩)
    (try (refine .inr ⟨aj,uH ?_⟩))
    exact uI
   refine dd ?_;refine⟨λc4=>?_,λc4=>?_⟩
   ·rw[badg (by unfold oQ;rw[c3,r9 (by simp at c4;omega)];rfl)];refine dd ?_;refine tc ?_
    (refine .inr ⟨aj,uH ?_⟩)
    (try (refine .inr ⟨aj,uH ?_⟩))
    exact uI
   refine dd ?_;refine⟨λc5=>?_,λc5=>?_⟩
   ·rw[badg (by unfold oQ;rw[c3,r9 (p:=100<o.path.length) (by simp at c5;omega)];simp)];refine dd ?_;refine tc ?_
    (refine .inr ⟨aj,uH ?_⟩)
    (try (refine .inr ⟨aj,uH ?_⟩))
    exact uI
   refine dd ?_;refine tc ?_
   refine .inl ⟨rfl,?_,λi hi hij=>?_⟩
   ·exact dL
   ·by_cases e:i=j
    ·subst e;rw[<-hxg];unfold oQ;rw[c3,rK (by simp at c4;omega),rK (by simp at c5;omega)]
     rfl
    ·exact hrj i hi aw
  ·have h0:v.any oQ=false:=by
    rw[pD];intro x hx;obtain⟨i,hi,rfl⟩:=pF.1 hx;simp[hrj i hi hi]
   have no:Ap v=false:=by unfold Ap;rw[h0,rK (by simp at c2;omega)];rfl
   conv=>whnf
   (refine td hg ?_)
   rw[mg];refine⟨λh=>absurd h aj,λ_=>dd ?_⟩;refine⟨aj,uH ?_⟩;refine .inl ⟨rfl,?_,λi hi hij=>?_⟩
   ·exact dL
   ·by_cases e:i=k
    ·subst e;rw[<-hx];exact no
    ·exact hr i hi aw
 ·have h0:s.threads.any Ap=false:=by
   rw[pD];intro x hx;obtain⟨i,hi,rfl⟩:=pF.1 hx;simp[hr i hi hi]
  rw[eW,h0];conv=>whnf
  rw[m1];refine⟨λh=>absurd h aj,λ_=>dd ?_⟩;refine⟨aj,uH ?_⟩;exact uI
end Go.Run
namespace Go.Run
open Go.Ab Go.Proofs Tryz Go.Gat Go.Nam Go.Hos Go.Con Go.Sna Go.Pla Go.Ply Go.Wor
open Go.Hy hiding encI
abbrev mP:fA:=[105,110]
abbrev zyb:ib:=⟨[mP],[⟨mP,[42],[47],[97]⟩],[⟨[97],1,1,[true]⟩]⟩
abbrev oF:fG:=⟨1,mP,[120],[47],0,0,0,⟨[],[],[]⟩⟩
abbrev Jm(k:Nat):List Int:=(List.range k).map λi=>((i / 10:Nat):Int)
abbrev zyl(k:Nat):fW:=⟨zyb,[[oF,⟨2,[],[],[],0,0,0,⟨[],[],[]⟩⟩,oF],[⟨4,mP,[],[],0,0,0,⟨[],[],[]⟩⟩]],Jm k⟩
abbrev yQ:fW:=zyl 60
def EP(k:Int)(l h p:fA):List C:=[I k,Tx l,Tx h,Tx p,I 0,I 0,I 0,.fp 1 0 [],.fp 1 0 [],.fp 1 0 []]
def zyh:List C:=[.fp 1 1 [[Tx mP]],.fp 1 4 [[Tx mP,Tx [42],Tx [47],Tx [97]]],.fp 1 4 [[Tx [97],I 1,I 1,.fp 1 1 [[Bo true]]]]]
def Pl(p:C):List C:=zyh++[.fp 1 1 [[.fp 1 10 [EP 1 mP [120] [47],EP 2 [] [] [],EP 1 mP [120] [47]]],[.fp 1 10 [EP 4 mP [] []]]],p]
abbrev n8:fW:=⟨⟨[],[],[]⟩,[],[]⟩
abbrev AY(c:ib):fG:=⟨3,[],[],[],0,0,0,c⟩
def Cj:nG yQ:=by
 refine⟨⟨⟨⟨ar,ar⟩,⟨ar,ar⟩,⟨ar,ar⟩⟩,ar,ar,aj⟩,λ_=>⟨⟨ar,ar⟩,⟨ar,ar⟩,⟨ar,ar⟩⟩,?_,?_,?_,?_⟩
 ·intro l hl o ho
  have:o.config=⟨[],[],[]⟩:=by
   have hl:l=[oF,⟨2,[],[],[],0,0,0,⟨[],[],[]⟩⟩,oF]\/l=[⟨4,mP,[],[],0,0,0,⟨[],[],[]⟩⟩]:=aq hl
   rcases hl with rfl|rfl
   ·have ho:o=oF\/o=⟨2,[],[],[],0,0,0,⟨[],[],[]⟩⟩\/o=oF:=by simpa using ho
    rcases ho with rfl|rfl|rfl <;> rfl
   ·have ho:o=⟨4,mP,[],[],0,0,0,⟨[],[],[]⟩⟩:=by simpa using ho
    rw[ho]
  rw[this];exact⟨⟨ar,ar⟩,⟨ar,ar⟩,⟨ar,ar⟩⟩
 ·intro x hx;have e:yc yQ=[mP]:=by kernel_rfl
  rw[e]at hx;rw[gS.1 hx]
  decide
 ·intro l hl o ho;have hl:l=[oF,⟨2,[],[],[],0,0,0,⟨[],[],[]⟩⟩,oF]\/l=[⟨4,mP,[],[],0,0,0,⟨[],[],[]⟩⟩]:=by simpa using hl
  have k:o=oF\/o=⟨2,[],[],[],0,0,0,⟨[],[],[]⟩⟩\/o=⟨4,mP,[],[],0,0,0,⟨[],[],[]⟩⟩:=by
   rcases hl with rfl|rfl
   ·have ho:o=oF\/o=⟨2,[],[],[],0,0,0,⟨[],[],[]⟩⟩\/o=oF:=by simpa using ho
    rcases ho with rfl|rfl|rfl
    ·exact .inl rfl
    ·exact .inr (.inl rfl)
    ·exact .inl rfl
   ·have ho:o=⟨4,mP,[],[],0,0,0,⟨[],[],[]⟩⟩:=by simpa using ho
    exact .inr (.inr ho)
  rcases k with rfl|rfl|rfl
  ·exact⟨ar,ar,ar,ar,λh=>absurd h ar⟩
  ·exact⟨ar,ar,ar,ar,λh=>absurd h ar⟩
  ·exact⟨ar,ar,ar,ar,λh=>absurd h ar⟩
 ·intro p hp;obtain⟨i,hi,rfl⟩:=pd.1 hp;have:=rC.1 hi;unfold i64;omega
def PY:nG n8:=by
 refine⟨⟨⟨⟨ar,ar⟩,⟨ar,ar⟩,⟨ar,ar⟩⟩,ar,ar,ar⟩,λ_=>⟨⟨ar,ar⟩,⟨ar,ar⟩,⟨ar,ar⟩⟩,λl hl=>(by cases hl),?_,λl hl=>(by cases hl),λp hp=>(by cases hp)⟩;intro x hx;have e:yc n8=[]:=au
 rw[e]at hx;cases hx
end Go.Run
