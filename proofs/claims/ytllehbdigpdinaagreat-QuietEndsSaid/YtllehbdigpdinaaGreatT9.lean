import Derived.Test.YtllehbdigpdinaaGreatT6
import Derived.Test.YtllehbdigpdinaaGreatT7
import Derived.Test.YtllehbdigpdinaaGreatT8
import Derived.Test.YtllehbdigpdinaaGreatT4
import Derived.Test.YtllehbdigpdinaaGreatT5
import Derived.Test.YtllehbdigpdinaaGreatTF
import Derived.Test.YtllehbdigpdinaaGreatT0
import Derived.Test.YtllehbdigpdinaaGreatT1
set_option linter.all false
set_option maxRecDepth 100000
set_option maxHeartbeats 4000000
namespace Go.Ply
open Go.Ab Go.Proofs Tryz Go.Hy Go.Wor
variable{X:List fM}{t:Nat}{x:fM}
def Z0{i:Nat}(x:fM)(h:t≠i):km (X.set t x) i=km X i:=by
 unfold km;rw[pj h]
def Yv(x:fM)(h:t<X.length):km (X.set t x) t=x.given:=by
 unfold km;rw[gD h]
def zvr(h:X[t]?=some x):km X t=x.given:=by
 unfold km;rw[h]
def zxC(X:List fM)(t:Nat)(x:fM):(X.mapIdx (qx 1)).set t (qx 1 t x)=(X.set t x).mapIdx (qx 1):=by
 refine pC λi=>?_
 rw[pF,gJ,gJ,pF,List.length_mapIdx];by_cases h:t=i
 .subst h;rw[gz V,gz V];split <;> rfl
 .rw[gp h,gp h]
def zw2{o:fQ}{w w':Wor}{m':fD}{e:fG}(hx:X[t]?=some x)(ho:x.ops[x.done]?=some o)(hX:X.length<=8)(hgn:x.given.length<=1000)(hdn:x.done<=1000)
 (hp:tj 49 [] [.agg (yC w),.agg (mJ (qk x t o))] (.fJ [.agg (yC w'),.agg (mJ m'),.agg (xv e)]) []):
  tj 20 (Ao 1 X) [.ref 0 [] 48 t 0,.agg (yC w),I t] (.fJ [.agg (yC w'),.agg (xv (ou e x))]) (Ao 1 (X.set t (ql x m'))):=by
 have htl:=(gh.1 hx).1;have ga:=zvr hx;have h8:t<8:=aw
 have res:Ao 1 (X.set t (ql x m'))=n4 X ⟨1,0,48,(X.mapIdx (qx 1)).set t (qx 1 t (ql x m')),0⟩ (Bc (ql x m').given) [] t:=by
  have g:∀i,fH (X.set t (ql x m')) i=if t=i then Bc (ql x m').given else fH X i:=λi=>by
   split
   .rename_i e;subst e;show fH _ t=_;unfold fH;rw[Yv _ htl]
   .rename_i e;unfold fH;rw[Z0 _ e]
  rw[zxC];unfold Ao;rw[g 0,g 1,g 2,g 3,g 4,g 5,g 6,g 7];rcases eight h8 with rfl|rfl|rfl|rfl|rfl|rfl|rfl|rfl <;> rfl
 rw[zvG X h8,res,ga];obtain⟨ops,dn,on,m,given⟩:=x;cases on
 .exact UT h8 X ops dn m given w w' _ m' e o hx hX hgn hdn ho (Beg.GS t o given (by have h:given.length<=1000:=hgn;omega)) hp
 .exact UU h8 X ops dn m given w w' m' e hx hX hgn hdn hp
end Go.Ply
namespace Go.Wor
open Go.Ab Go.Proofs Tryz Go.Gat Go.Nam Go.Hos Go.Con Go.Sna Go.Pla Go.Ply
open Go.Hy hiding encI
variable{s:fU}
structure v7(s:fU):Prop where
 wk:Jh s
 cfg:AQ s.first=true->ka s.first
 ND:∀l∈s.threads,∀o∈l,yn o.config
 names:∀x∈xt s,x.length<=reachBytes
 ops:∀l∈s.threads,∀o∈l,o.host.length<1000000000000000/\o.path.length<1000000000000000/\i64 o.d0/\i64 o.d1/\(o.kind=3->yn o.config)
 zJ:∀p∈s.zJ,i64 p
def iE(s:fU):iC:=((qm s).1,s.threads.map kI,[])
def q8(s:fU):iC:=ir (iE s) s.zJ s.zJ.length
def zZ(s:fU):List fG×Wor×Int:=if (qm s).2=0 then ((q8 s).2.2,(q8 s).1,0) else ([],⟨0,0,0,[],[],[],[],[]⟩,(qm s).2)
def jI(h:(qm s).2=0):lM s=true/\lx (jN s.first).1 (xt s) s.threads.length=((qm s).1,0):=by
 unfold qm at h|-;split at h
 .rename_i q;rw[gz q];exact⟨q,by rw[<-h]⟩
 .exact absurd (show(1:Int)=0 from h) ar
def zty(h:lM s=true):(xt s).length<=600:=by
 obtain⟨p1,p2,p3,p4,p5,p6⟩:=jF h;have a:=Db [] (wb p1)
 have b:=vu kJ 64 s.threads (kP [] s.first) λl hl o=>by
  have hl2:=(p5 l hl).1;exact KE o hl2
 have c:xt s=s.threads.foldl kJ (kP [] s.first):=rfl;rw[c];simp at a;omega
def xf(ok:v7 s)(h:(qm s).2=0):GI 600 0 (iE s).1 (iE s).2.1:=by
 obtain⟨q,hn⟩:=jI h;obtain⟨p1,p2,p3,p4,p5,p6⟩:=jF q
 exact zz6 hn (G7 (ok.cfg p1)) (zty q) ar ok.names V λl hl o ho=>by
  have a:=ok.ops l hl o ho;exact⟨(p5 l hl).2 o ho,a.1,a.2.1,a.2.2.1,a.2.2.2.1,a.2.2.2.2⟩
def EL(ok:v7 s)(h:(qm s).2=0)(k:Nat)(hk:k<=s.zJ.length):GI (600+k) k (ir (iE s) s.zJ k).1 (ir (iE s) s.zJ k).2.1:=by
 obtain⟨q,_⟩:=jI h;obtain⟨_,_,_,p4,_,_⟩:=jF q;have:=kh (xf ok h) s.zJ k hk aw aw
 rwa [gU]at this
def K7{N K:Nat}{w:Wor}{X:List fM}(gi:GI N K w X){t:Nat}{x:fM}(hx:X[t]?=some x):x.given.length=x.done/\x.done<=x.ops.length:=by
 obtain⟨os,hl,hti,_⟩:=gi.own;obtain⟨o,ho⟩:∃o,os[t]?=some o:=⟨_,gk (by have:=(gh.1 hx).1;omega)⟩;have ti:=hti t x o hx ho;exact⟨ti.given,ti.le⟩
def RJ(x:fM)(m:fD):(ql x m).ops=x.ops:=by unfold ql;split <;> rfl
def Is{s:fU}(ok:v7 s)(h:(qm s).2=0):∀k,k<=s.zJ.length->(ir (iE s) s.zJ k).2.1.map (·.ops)=s.threads
 |0,_=>by
  show(s.threads.map kI).map (·.ops)=s.threads;rw[rC];exact List.map_id _
 |k+1,hk=>by
  have ih:=Is ok h k aw;have gi:=EL ok h k aw;obtain⟨q,_⟩:=jI h;obtain⟨_,_,_,p4,_,_⟩:=jF q;rw[xZ (gk aw)];rcases jO gi s.zJ[k] aw aw with⟨_,e⟩|⟨t,x,o,r,_,hx,_,_,_,_,_,e,_⟩
  .rw[e];exact ih
  .rw[e];show(List.set _ t (ql x r.2.1)).map (·.ops)=_;rw[rp,RJ,<-ih];exact xV _ _ (by rw[gy,hx];rfl)
def Kk(s:fU)(ok:v7 s):tj 6 [] [.agg (w7 s)] (.fJ [mC (zZ s).1,.agg (yC (zZ s).2.1),I (zZ s).2.2]) []:=by
 have hb:=N9 s ok.wk ok.cfg ok.ND λ_ x hx=>by have:=ok.names x hx;unfold reachBytes at this;omega
 have w:=ztY s (qm s) (λk=>ir (iE s) s.zJ k) hb (λh=>by
   obtain⟨q,_⟩:=jI h;obtain⟨_,_,p3,p4,_,p6⟩:=jF q;exact⟨p3,p4,λp hp=>⟨p6 p hp,ok.zJ p hp⟩⟩) V λh k p hp=>by
  have hk:=(gh.1 hp).1;have gi:=EL ok h k aw;have ao:=Is ok h k aw;obtain⟨q,_⟩:=jI h;obtain⟨_,_,p3,p4,p5,_⟩:=jF q;refine⟨?_⟩;(try dsimp only)
  rw[xZ hp];rcases jO gi p aw aw with⟨ha,e⟩|⟨t,x,o,r,ht,hx,ho,hsu,htm,hst,_,e,_⟩
  .exact .inl ⟨ha,e⟩
  .right
   have tk:=K7 gi hx;have xo:x.ops∈s.threads:=by rw[<-ao];exact gY.2 ⟨x,gu hx,rfl⟩
   have xl:=(p5 x.ops xo).1
   have hX:(ir (iE s) s.zJ k).2.1.length<=8:=by
    have:=rq List.length ao;rw[gC]at this;omega
   rw[e];exact⟨t,x,ou r.2.2 x,ht,hx,by show(List.set _ _ _).length=_;rw[pV],rfl,zw2 hx ho hX aw aw (Zd hsu gi.st.ty htm aw hst)⟩
 unfold zZ;by_cases h:(qm s).2=0
 .rw[gz h,gz h]at w;rw[gz h];rw[h]at w;exact w
 .rw[gp h,gp h]at w;rw[gp h];exact w
end Go.Wor
namespace Go.Run
open Go.Ab Go.Proofs Tryz Go.Hy Go.Gat Go.Nam Go.Hos Go.Con
def my(o:fQ):Bool:=mn o.config || (decide (100<o.host.length) || decide (100<o.path.length))
def mz(l:List fQ):Bool:=decide (40<l.length) || l.any my
def kD(s:fU):Bool:=mn s.first || decide (20<s.threads.length) || decide (5000<s.zJ.length) || s.threads.any mz
structure GG(s:fU):Prop where
 first:s.first.zc.length<4000000000000000000/\s.first.zO.length<4000000000000000000/\s.first.zo.length<4000000000000000000
 threads:s.threads.length<4000000000000000000
 ops:∀l∈s.threads,l.length<4000000000000000000
 cfg:∀l∈s.threads,∀o∈l,o.config.zc.length<4000000000000000000/\o.config.zO.length<4000000000000000000/\o.config.zo.length<4000000000000000000
def Ps(s:fU)(hs:GG s):tj 5 [] [.agg (w7 s)] (Bo (kD s)) []:=by
 have m1:(s.threads.map xy).length=s.threads.length:=gC ..;have m2:(s.zJ.map Go.Hy.encI).length=s.zJ.length:=gC ..;have hf:=hs.first;have ht:=hs.threads;refine ab func5 ?_;refine ah (Ho s.first hf.1 hf.2.1 hf.2.2) ?_;(refine⟨λa1=>?_,λa1=>?_⟩);(focus ((have e:kD s=true:=bw);(rw[e]);refine dd ?_;refine hZ ?_;exact uI));refine dd ?_
 rw[m1];(refine⟨λa2=>?_,λa2=>?_⟩);(focus ((have e:kD s=true:=bz);(rw[e]);refine dd ?_;refine hZ ?_;exact uI));refine dd ?_
 rw[m2];(refine⟨λa3=>?_,λa3=>?_⟩);(focus ((have e:kD s=true:=bA);(rw[e]);refine dd ?_;refine hZ ?_;exact uI));refine dd ?_
 refine hZ ?_
 have eW:kD s=s.threads.any mz:=by
  unfold kD;simp at a2 a3;rw[a1,rz aw,rz aw]
  rfl
 refine qg.seq s.threads.length (λk=>(.za::.ref 0 [] 5 0 0::Bo false::I k:: tY (jp (tY (tY (tY ([]))))))) (λk=>[oS s]) (λk=>∀j,(h:j<s.threads.length)->j<k->mz s.threads[j]=false) ?_ aj (λk hk hr=>?_) (λhr=>?_)
 .exact cC
 .obtain⟨v,hx⟩:∃v,v=s.threads[k]:=⟨_,rfl⟩;have hv:v∈s.threads:=by rw[hx];exact pt hk
  have hg:(s.threads.map xy)[k]?=some (xy v):=by rw[gy,gk hk,hx];rfl
  have mg:(v.map yW).length=v.length:=gC ..
  have bad:mz v=true->kD s=true:=λh=>by
   rw[eW];exact rh.2 ⟨v,hv,h⟩
  have bg:=hs.ops v hv;conv=>whnf
  rw[m1];refine zan ?_
  rw[mg];refine⟨λc2=>?_,λc2=>?_⟩
  .rw[bad (by unfold mz;rw[rT (by simp at c2;omega)];rfl)];refine dd ?_;refine zaw ?_
   exact uI
  refine dd ?_;refine qg.seq v.length (λj=>(.za::.ref 0 [] 5 0 0::Bo false::I k::I j:: .za::.za::.za::.za::.za::.za::.za::tY (jp (tY (tY ([])))))) (λj=>[oS s]) (λj=>∀i,(h:i<v.length)->i<j->my v[i]=false) ?_ aj (λj hj hrj=>?_) (λhrj=>?_)
  .exact cC
  .obtain⟨o,hxg⟩:∃o,o=v[j]:=⟨_,rfl⟩;have ho:o∈v:=by rw[hxg];exact pt hj
   have hgg:(v.map yW)[j]?=some (yW o):=by rw[gy,gk hj,hxg];rfl
   have hc:=hs.cfg v hv o ho
   have badg:my o=true->kD s=true:=λh=>bad (by
    have:v.any my=true:=rh.2 ⟨o,ho,h⟩;unfold mz;rw[this,ur])
   conv=>whnf
   (refine tc hg ?_)
   rw[mg];refine zan ?_
   (refine tc hgg ?_)
   refine ah (Ho o.config hc.1 hc.2.1 hc.2.2) ?_;refine⟨λc3=>?_,λc3=>?_⟩
   .rw[badg (by unfold my;rw[c3];rfl)];refine zad ?_
    refine zaw ?_
    (try (refine .inr ⟨aj,uH ?_⟩))
    exact uI
   refine dd ?_;refine⟨λc4=>?_,λc4=>?_⟩
   .rw[badg (by unfold my;rw[c3,rT (by simp at c4;omega)];rfl)];refine zad ?_
    refine zaw ?_
    (try (refine .inr ⟨aj,uH ?_⟩))
    exact uI
   refine dd ?_;refine⟨λc5=>?_,λc5=>?_⟩
   .rw[badg (by unfold my;rw[c3,rT (p:=100<o.path.length) (by simp at c5;omega)];simp)];refine zad ?_
    refine zaw ?_
    (try (refine .inr ⟨aj,uH ?_⟩))
    exact uI
   refine zad ?_
   refine .inl ⟨rfl,?_,λi hi hij=>?_⟩
   .exact du
   .by_cases e:i=j
    .subst e;rw[<-hxg];unfold my;rw[c3,rz (by simp at c4;omega),rz (by simp at c5;omega)]
     rfl
    .exact hrj i hi aw
  .have h0:v.any my=false:=by
    rw[pq];intro x hx;obtain⟨i,hi,rfl⟩:=pJ.1 hx;simp[hrj i hi hi]
   have no:mz v=false:=by unfold mz;rw[h0,rz (by simp at c2;omega)];rfl
   conv=>whnf
   (refine tc hg ?_)
   rw[mg];refine zaG ?_;refine .inl ⟨rfl,?_,λi hi hij=>?_⟩
   .exact du
   .by_cases e:i=k
    .subst e;rw[<-hx];exact no
    .exact hr i hi aw
 .have h0:s.threads.any mz=false:=by
   rw[pq];intro x hx;obtain⟨i,hi,rfl⟩:=pJ.1 hx;simp[hr i hi hi]
  rw[eW,h0];conv=>whnf
  rw[m1];refine zaG ?_;exact uI
end Go.Run
namespace Go.Run
open Go.Ab Go.Proofs Tryz Go.Gat Go.Nam Go.Hos Go.Con Go.Sna Go.Pla Go.Ply Go.Wor
open Go.Hy hiding encI
variable{t:Int}{o:fQ}
abbrev nH:fK:=[105,110]
abbrev Dz:iq:=⟨[nH],[⟨nH,[42],[47],[97]⟩],[⟨[97],1,1,[true]⟩]⟩
abbrev AM:fQ:=⟨1,nH,[120],[47],0,0,0,⟨[],[],[]⟩⟩
abbrev Mg(k:Nat):List Int:=(List.range k).map λi=>((i / 10:Nat):Int)
abbrev Vr(k:Nat):fU:=⟨Dz,[[AM,⟨2,[],[],[],0,0,0,⟨[],[],[]⟩⟩,AM],[⟨4,nH,[],[],0,0,0,⟨[],[],[]⟩⟩]],Mg k⟩
abbrev Bv:fU:=Vr 60
def GR(k:Int)(l h p:fK):List C:=[I k,Tx l,Tx h,Tx p,I 0,I 0,I 0,.fF 1 0 [],.fF 1 0 [],.fF 1 0 []]
def NH:List C:=[.fF 1 1 [[Tx nH]],.fF 1 4 [[Tx nH,Tx [42],Tx [47],Tx [97]]],.fF 1 4 [[Tx [97],I 1,I 1,.fF 1 1 [[Bo true]]]]]
def NY(p:C):List C:=NH++[.fF 1 1 [[.fF 1 10 [GR 1 nH [120] [47],GR 2 [] [] [],GR 1 nH [120] [47]]],[.fF 1 10 [GR 4 nH [] []]]],p]
def zxB{n:Nat}{w w':Wor}{m m':fD}(hb:tj 48 [] [I t,.agg (yW o),lA []] (.agg (mJ m)) [])(hg:nV n w m w' m')(hn:n<=3000):
  tj 35 [] [.agg (yC w),I t,.agg (yW o),lA []] (.fJ [.agg (yC w'),.agg (xx m'.answer),I n]) []:=by
 refine ab func35 ?_;refine ah hb ?_;refine qg.inv (λi t1 H1=>∃(k:Nat) (wk:Wor) (mk:fD),k+i=n/\nV i wk mk w' m'/\t1=(.za::.za::.za::.za::.ref 0 [] 8 0 0::.za::.ref 1 [] 10 0 0::.za::.ref 2 [] 8 0 0::.ref 3 [] 13 0 0::I 0::.ref 4 [] 44 0 0::.ref 5 [] 8 0 0::tY (.za::I k::tY (tY (tY ([])))))/\H1=[oW w,⟨1,58,10,[yW o],0⟩,⟨1,38,8,[oP],0⟩,⟨1,66,13,[xx ⟨0,0,0,0,0,0,0,⟨0,0,0,0,0,0⟩⟩],0⟩,oM mk,oW wk]) n ?_ ?_
 .exact⟨_,_,cC,0,w,m,aj,hg,rfl,rfl⟩
 rintro i _ _ ⟨k,wk,mk,hk,hg,rfl,rfl⟩;have hi:1<=i:=by cases hg <;> omega
 conv=>whnf
 refine uF ?_;cases hg with
 |last h he hd=>
  refine ah h ?_;refine⟨λh=>absurd h (aq he),λ_=>dd ?_⟩;refine .inl ⟨⟨false,[1],[7],[]⟩,au,uH ?_⟩;refine hU ?_
  refine⟨λ_=>dd ?_,λh=>absurd ((hd).symm.trans h:true=false) ar⟩;refine .inl ⟨⟨false,[2],[4],[]⟩,au,uH ?_⟩;refine hU ?_
  refine zaJ ?_;rw[zw aw,show k+1=n from aw];exact uI
 |more h he hd hg=>
  refine ah h ?_;refine⟨λh=>absurd h (aq he),λ_=>dd ?_⟩;refine .inl ⟨⟨false,[1],[7],[]⟩,au,uH ?_⟩;refine hU ?_
  exact za6
def zsv{w:Wor}{m m2:fD}{w2:Wor}{e:fG}(hb:tj 48 [] [I t,.agg (yW o),lA []] (.agg (mJ m)) [])(h:tj 49 [] [Sw w,Sm m] (Sr w2 m2 e) [])(he:e.access=0):
  tj 35 [] [.agg (yC w),I t,.agg (yW o),lA []] (.fJ [.agg (yC w),.agg (xx ⟨0,0,0,0,0,0,0,⟨0,0,0,0,0,0⟩⟩),I 0]) []:=by
 refine ab func35 ?_;refine ah hb ?_;refine Aw.BV 1 (LoopN.step ?_);conv=>whnf
 refine hZ ?_
 refine ah h ?_;refine⟨λ_=>dd ?_,λz=>absurd z (by simp[he])⟩;refine zaw ?_
 exact uI
def W3(w:Wor)(m:fD)(ok:iw w)(hl:i64 m.listen)(hpc:m.pc=0)(hs:z8 w m=false):tj 135 [] [Cw w,Cm m] (.fJ [Cw w,Cm m,Ce Ply.EV]) []:=by
 refine ab func135 ?_;refine zac ?_
 refine ah (zP w m ok hl) ?_;refine⟨λh=>absurd ((hs).symm.trans h:false=true) ar,λ_=>dd ?_⟩;refine hZ ?_
 refine za1 ?_
 exact uI
abbrev Fa:fU:=⟨⟨[],[],[]⟩,[],[]⟩
abbrev C9(c:iq):fQ:=⟨3,[],[],[],0,0,0,c⟩
def C8:v7 Bv:=by
 refine⟨⟨⟨⟨ar,ar⟩,⟨ar,ar⟩,⟨ar,ar⟩⟩,ar,ar,aj⟩,λ_=>⟨⟨ar,ar⟩,⟨ar,ar⟩,⟨ar,ar⟩⟩,?_,?_,?_,?_⟩
 .intro l hl o ho
  have:o.config=⟨[],[],[]⟩:=by
   have hl:l=[AM,⟨2,[],[],[],0,0,0,⟨[],[],[]⟩⟩,AM]\/l=[⟨4,nH,[],[],0,0,0,⟨[],[],[]⟩⟩]:=aq hl
   rcases hl with rfl|rfl
   .have ho:o=AM\/o=⟨2,[],[],[],0,0,0,⟨[],[],[]⟩⟩\/o=AM:=by simpa using ho
    rcases ho with rfl|rfl|rfl <;> rfl
   .have ho:o=⟨4,nH,[],[],0,0,0,⟨[],[],[]⟩⟩:=by simpa using ho
    rw[ho]
  rw[this];exact⟨⟨ar,ar⟩,⟨ar,ar⟩,⟨ar,ar⟩⟩
 .intro x hx;have e:xt Bv=[nH]:=by kernel_rfl
  rw[e]at hx;rw[gZ.1 hx]
  decide
 .intro l hl o ho;have hl:l=[AM,⟨2,[],[],[],0,0,0,⟨[],[],[]⟩⟩,AM]\/l=[⟨4,nH,[],[],0,0,0,⟨[],[],[]⟩⟩]:=by simpa using hl
  have k:o=AM\/o=⟨2,[],[],[],0,0,0,⟨[],[],[]⟩⟩\/o=⟨4,nH,[],[],0,0,0,⟨[],[],[]⟩⟩:=by
   rcases hl with rfl|rfl
   .have ho:o=AM\/o=⟨2,[],[],[],0,0,0,⟨[],[],[]⟩⟩\/o=AM:=by simpa using ho
    rcases ho with rfl|rfl|rfl
    .exact .inl V
    .exact .inr (.inl V)
    .exact .inl V
   .have ho:o=⟨4,nH,[],[],0,0,0,⟨[],[],[]⟩⟩:=by simpa using ho
    exact .inr (.inr ho)
  rcases k with rfl|rfl|rfl
  .exact⟨ar,ar,ar,ar,λh=>absurd h ar⟩
  .exact⟨ar,ar,ar,ar,λh=>absurd h ar⟩
  .exact⟨ar,ar,ar,ar,λh=>absurd h ar⟩
 .intro p hp;obtain⟨i,hi,rfl⟩:=gY.1 hp;have:=rG.1 hi;unfold i64;omega
def TU:v7 Fa:=by
 refine⟨⟨⟨⟨ar,ar⟩,⟨ar,ar⟩,⟨ar,ar⟩⟩,ar,ar,ar⟩,λ_=>⟨⟨ar,ar⟩,⟨ar,ar⟩,⟨ar,ar⟩⟩,λl hl=>(by cases hl),?_,λl hl=>(by cases hl),λp hp=>(by cases hp)⟩;intro x hx;have e:xt Fa=[]:=au
 rw[e]at hx;cases hx
end Go.Run
