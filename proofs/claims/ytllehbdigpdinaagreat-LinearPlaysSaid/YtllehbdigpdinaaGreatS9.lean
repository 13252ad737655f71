import Derived.Test.YtllehbdigpdinaaGreatS6
import Derived.Test.YtllehbdigpdinaaGreatS7
import Derived.Test.YtllehbdigpdinaaGreatS8
import Derived.Test.YtllehbdigpdinaaGreatS4
import Derived.Test.YtllehbdigpdinaaGreatS5
import Derived.Test.YtllehbdigpdinaaGreatSF
import Derived.Test.YtllehbdigpdinaaGreatS0
import Derived.Test.YtllehbdigpdinaaGreatS1
set_option linter.all false
set_option maxRecDepth 100000
set_option maxHeartbeats 4000000
namespace Go.Ply
open Go.Ab Go.Proofs Tryz Go.Hy Go.Wor
def Wz{X:List fp}{t i:Nat}(x:fp)(h:t≠i):vA (X.set t x) i=vA X i:=by
 unfold vA;rw[gV h]
def UF{X:List fp}{t:Nat}(x:fp)(h:t<X.length):vA (X.set t x) t=x.given:=by
 unfold vA;rw[gu h]
def Yd{X:List fp}{t:Nat}{x:fp}(h:X[t]?=some x):vA X t=x.given:=by
 unfold vA;rw[h]
def Zq(X:List fp)(t:Nat)(x:fp):(X.mapIdx (qn 1)).set t (qn 1 t x)=(X.set t x).mapIdx (qn 1):=by
 refine pI λi=>?_
 rw[pN,gG,gG,pN,List.length_mapIdx];by_cases h:t=i
 ·subst h;rw[gk O,gk O];split <;> rfl
 ·rw[gf h,gf h]
def Yo{X:List fp}{t:Nat}{x:fp}{o:fh}{w w':Wor}{m':eR}{e:eV}(hx:X[t]?=some x)(ho:x.ops[x.done]?=some o)(hX:X.length<=8)(hgn:x.given.length<=1000)(hdn:x.done<=1000)
 (hp:tn 49 [] [.agg (yt w),.agg (lJ (jF x t o))] (.fb [.agg (yt w'),.agg (lJ m'),.agg (j3 e)]) []):
  tn 20 (nN 1 X) [.ref 0 [] 48 t 0,.agg (yt w),I t] (.fb [.agg (yt w'),.agg (j3 (nT e x))]) (nN 1 (X.set t (jj x m'))):=by
 have htl:=(dY.1 hx).1;have ga:=Yd hx;have h8:t<8:=aw
 have res:nN 1 (X.set t (jj x m'))=mM X ⟨1,0,48,(X.mapIdx (qn 1)).set t (qn 1 t (jj x m')),0⟩ (oX (jj x m').given) [] t:=by
  have g:∀i,eX (X.set t (jj x m')) i=if t=i then oX (jj x m').given else eX X i:=λi=>by
   split
   ·rename_i e;subst e;show eX _ t=_;unfold eX;rw[UF _ htl]
   ·rename_i e;unfold eX;rw[Wz _ e]
  rw[Zq];unfold nN;rw[g 0,g 1,g 2,g 3,g 4,g 5,g 6,g 7];rcases eight h8 with rfl|rfl|rfl|rfl|rfl|rfl|rfl|rfl <;> rfl
 rw[XJ X h8,res,ga];obtain⟨ops,dn,on,m,given⟩:=x;cases on
 ·exact zyK h8 X ops dn m given w w' _ m' e o hx hX hgn hdn ho (Beg.He t o given (by have h:given.length<=1000:=hgn;omega)) hp
 ·exact zyL h8 X ops dn m given w w' m' e hx hX hgn hdn hp
end Go.Ply
namespace Go.Wor
open Go.Ab Go.Proofs Tryz Go.Gat Go.Nam Go.Hos Go.Con Go.Sna Go.Pla Go.Ply
open Go.Hy hiding encI
structure oH(s:fy):Prop where
 wk:GQ s
 cfg:km s.first=true->xn s.first
 P9:∀l∈s.threads,∀o∈l,xZ o.config
 names:∀x∈xr s,x.length<=reachBytes
 ops:∀l∈s.threads,∀o∈l,o.host.length<1000000000000000/\o.path.length<1000000000000000/\i64 o.d0/\i64 o.d1/\(o.kind=3->xZ o.config)
 zW:∀p∈s.zW,i64 p
def iD(s:fy):ij:=((qC s).1,s.threads.map iP,[])
def yv(s:fy):ij:=iv (iD s) s.zW s.zW.length
def qT(s:fy):List eV×Wor×Int:=if (qC s).2=0 then ((yv s).2.2,(yv s).1,0) else ([],⟨0,0,0,[],[],[],[],[]⟩,(qC s).2)
def xb{s:fy}(h:(qC s).2=0):iR s=true/\i7 (zT s.first).1 (xr s) s.threads.length=((qC s).1,0):=by
 unfold qC at h ⊢;split at h
 ·rename_i q;rw[gk q];exact⟨q,by rw[<-h]⟩
 ·exact absurd (show(1:Int)=0 from h) ar
def Wh{s:fy}(h:iR s=true):(xr s).length<=600:=by
 obtain⟨p1,p2,p3,p4,p5,p6⟩:=xI h;have a:=Fv [] (wG p1)
 have b:=DR wa 64 s.threads (kT [] s.first) λl hl o=>by
  have hl2:=(p5 l hl).1;exact HX o hl2
 have c:xr s=s.threads.foldl wa (kT [] s.first):=rfl;rw[c];simp at a;omega
def CD{s:fy}(ok:oH s)(h:(qC s).2=0):GI 600 0 (iD s).1 (iD s).2.1:=by
 obtain⟨q,hn⟩:=xb h;obtain⟨p1,p2,p3,p4,p5,p6⟩:=xI q
 exact zxr hn (E5 (ok.cfg p1)) (Wh q) ar ok.names O λl hl o ho=>by
  have a:=ok.ops l hl o ho;exact⟨(p5 l hl).2 o ho,a.1,a.2.1,a.2.2.1,a.2.2.2.1,a.2.2.2.2⟩
def Gm{s:fy}(ok:oH s)(h:(qC s).2=0)(k:Nat)(hk:k<=s.zW.length):GI (600+k) k (iv (iD s) s.zW k).1 (iv (iD s) s.zW k).2.1:=by
 obtain⟨q,_⟩:=xb h;obtain⟨_,_,_,p4,_,_⟩:=xI q;have:=CZ (CD ok h) s.zW k hk aw aw
 rwa [gI]at this
def Oe{N K:Nat}{w:Wor}{X:List fp}(gi:GI N K w X){t:Nat}{x:fp}(hx:X[t]?=some x):x.given.length=x.done/\x.done<=x.ops.length:=by
 obtain⟨os,hl,hti,_⟩:=gi.own;obtain⟨o,ho⟩:∃o,os[t]?=some o:=⟨_,dZ (by have:=(dY.1 hx).1;omega)⟩;have ti:=hti t x o hx ho;exact⟨ti.given,ti.le⟩
def OT(x:fp)(m:eR):(jj x m).ops=x.ops:=by unfold jj;split <;> rfl
def Jf{s:fy}(ok:oH s)(h:(qC s).2=0):∀k,k<=s.zW.length->(iv (iD s) s.zW k).2.1.map (·.ops)=s.threads
 |0,_=>by
  show(s.threads.map iP).map (·.ops)=s.threads;rw[rQ];exact List.map_id _
 |k+1,hk=>by
  have ih:=Jf ok h k aw;have gi:=Gm ok h k aw;obtain⟨q,_⟩:=xb h;obtain⟨_,_,_,p4,_,_⟩:=xI q;rw[wK (dZ aw)];rcases yI gi s.zW[k] aw aw with⟨_,e⟩|⟨t,x,o,r,_,hx,_,_,_,_,_,e,_⟩
  ·rw[e];exact ih
  ·rw[e];show(List.set _ t (jj x r.2.1)).map (·.ops)=_;rw[p9,OT,<-ih];exact yk _ _ (by rw[gj,hx];rfl)
def HG(s:fy)(ok:oH s):tn 6 [] [.agg (kV s)] (.fb [nh (qT s).1,.agg (yt (qT s).2.1),I (qT s).2.2]) []:=by
 have hb:=KJ s ok.wk ok.cfg ok.P9 λ_ x hx=>by have:=ok.names x hx;unfold reachBytes at this;omega
 have w:=Xh s (qC s) (λk=>iv (iD s) s.zW k) hb (λh=>by
   obtain⟨q,_⟩:=xb h;obtain⟨_,_,p3,p4,_,p6⟩:=xI q;exact⟨p3,p4,λp hp=>⟨p6 p hp,ok.zW p hp⟩⟩) O λh k p hp=>by
  have hk:=(dY.1 hp).1;have gi:=Gm ok h k aw;have ao:=Jf ok h k aw;obtain⟨q,_⟩:=xb h;obtain⟨_,_,p3,p4,p5,_⟩:=xI q;refine⟨?_⟩;(try dsimp only)
  rw[wK hp];rcases yI gi p aw aw with⟨ha,e⟩|⟨t,x,o,r,ht,hx,ho,hsu,htm,hst,_,e,_⟩
  ·exact .inl ⟨ha,e⟩
  ·right
   have tk:=Oe gi hx;have xo:x.ops∈s.threads:=by rw[<-ao];exact gZ.2 ⟨x,gh hx,rfl⟩
   have xl:=(p5 x.ops xo).1
   have hX:(iv (iD s) s.zW k).2.1.length<=8:=by
    have:=rz List.length ao;rw[gp]at this;omega
   rw[e];exact⟨t,x,nT r.2.2 x,ht,hx,by show(List.set _ _ _).length=_;rw[r4],rfl,Yo hx ho hX aw aw (Vi hsu gi.st.ty htm aw hst)⟩
 unfold qT;by_cases h:(qC s).2=0
 ·rw[gk h,gk h]at w;rw[gk h];rw[h]at w;exact w
 ·rw[gf h,gf h]at w;rw[gf h];exact w
end Go.Wor
namespace Go.Run
open Go.Ab Go.Proofs Tryz Go.Hy Go.Gat Go.Nam Go.Hos Go.Con
def oY(o:fh):Bool:=iU o.config || (decide (100<o.host.length) || decide (100<o.path.length))
def Aq(l:List fh):Bool:=decide (40<l.length) || l.any oY
def mI(s:fy):Bool:=iU s.first || decide (20<s.threads.length) || decide (5000<s.zW.length) || s.threads.any Aq
structure Kp(s:fy):Prop where
 first:s.first.zd.length<4000000000000000000/\s.first.zM.length<4000000000000000000/\s.first.zk.length<4000000000000000000
 threads:s.threads.length<4000000000000000000
 ops:∀l∈s.threads,l.length<4000000000000000000
 cfg:∀l∈s.threads,∀o∈l,o.config.zd.length<4000000000000000000/\o.config.zM.length<4000000000000000000/\o.config.zk.length<4000000000000000000
def TE(s:fy)(hs:Kp s):tn 5 [] [.agg (kV s)] (Bo (mI s)) []:=by
 have m1:(s.threads.map x4).length=s.threads.length:=gp ..;have m2:(s.zW.map Go.Hy.encI).length=s.zW.length:=gp ..;have hf:=hs.first;have ht:=hs.threads;refine ab func5 ?_;refine ah (M4 s.first hf.1 hf.2.1 hf.2.2) ?_;(refine⟨λa1=>?_,λa1=>?_⟩);(focus ((have e:mI s=true:=(by (try simp at a1);simp[mI];first|omega|(rw[a1];simp)));(rw[e]);refine dd ?_;refine tc ?_;exact uI));refine dd ?_
 rw[m1];(refine⟨λa2=>?_,λa2=>?_⟩);(focus ((have e:mI s=true:=(by (try simp at a2);simp[mI];first|omega|(rw[a2];simp)));(rw[e]);refine dd ?_;refine tc ?_;exact uI));refine dd ?_
 rw[m2];(refine⟨λa3=>?_,λa3=>?_⟩);(focus ((have e:mI s=true:=(by (try simp at a3);simp[mI];first|omega|(rw[a3];simp)));(rw[e]);refine dd ?_;refine tc ?_;exact uI));refine dd ?_
 refine tc ?_
 have eW:mI s=s.threads.any Aq:=by
  unfold mI;simp at a2 a3;rw[a1,rC aw,rC aw]
  rfl
 refine qa.seq s.threads.length (λk=>(.za::.ref 0 [] 5 0 0::Bo false::I k:: hU (jp (hU (hU (hU ([]))))))) (λk=>[oS s]) (λk=>∀j,(h:j<s.threads.length)->j<k->Aq s.threads[j]=false) ?_ aj (λk hk hr=>?_) (λhr=>?_)
 ·exact cC
 ·obtain⟨v,hx⟩:∃v,v=s.threads[k]:=⟨_,rfl⟩;have hv:v∈s.threads:=by rw[hx];exact gW hk
  have hg:(s.threads.map x4)[k]?=some (x4 v):=by rw[gj,dZ hk,hx];rfl
  have mg:(v.map y8).length=v.length:=gp ..
  have bad:Aq v=true->mI s=true:=λh=>by
   rw[eW];exact pZ.2 ⟨v,hv,h⟩
  have bg:=hs.ops v hv;conv=>whnf
  rw[m1];refine uF ?_;(refine td hg ?_)
  rw[mg];refine⟨λc2=>?_,λc2=>?_⟩
  ·rw[bad (by unfold Aq;rw[rY (by simp at c2;omega)];rfl)];refine dd ?_;(refine .inr ⟨aj,uH ?_⟩)
   exact uI
  refine dd ?_;refine qa.seq v.length (λj=>(.za::.ref 0 [] 5 0 0::Bo false::I k::I j:: .za::.za::.za::.za::.za::.za::.za::hU (jp (hU (hU ([])))))) (λj=>[oS s]) (λj=>∀i,(h:i<v.length)->i<j->oY v[i]=false) ?_ aj (λj hj hrj=>?_) (λhrj=>?_)
  ·exact cC
  ·obtain⟨o,hxg⟩:∃o,o=v[j]:=⟨_,rfl⟩;have ho:o∈v:=by rw[hxg];exact gW hj
   have hgg:(v.map y8)[j]?=some (y8 o):=by rw[gj,dZ hj,hxg];rfl
   have hc:=hs.cfg v hv o ho
   have badg:oY o=true->mI s=true:=λh=>bad (by
    have:v.any oY=true:=pZ.2 ⟨o,ho,h⟩;unfold Aq;rw[this,uf])
   conv=>whnf
   (refine td hg ?_)
   rw[mg];refine uF ?_;(refine td hg ?_)
   (refine td hgg ?_)
   refine ah (M4 o.config hc.1 hc.2.1 hc.2.2) ?_;refine⟨λc3=>?_,λc3=>?_⟩
   ·rw[badg (by unfold oY;rw[c3];rfl)];refine dd ?_;refine tc ?_
    (refine .inr ⟨aj,uH ?_⟩)
    (try (refine .inr ⟨aj,uH ?_⟩))
    exact uI
   refine dd ?_;refine⟨λc4=>?_,λc4=>?_⟩
   ·rw[badg (by unfold oY;rw[c3,rY (by simp at c4;omega)];rfl)];refine dd ?_;refine tc ?_
    (refine .inr ⟨aj,uH ?_⟩)
    (try (refine .inr ⟨aj,uH ?_⟩))
    exact uI
   refine dd ?_;refine⟨λc5=>?_,λc5=>?_⟩
   ·rw[badg (by unfold oY;rw[c3,rY (p:=100<o.path.length) (by simp at c5;omega)];simp)];refine dd ?_;refine tc ?_
    (refine .inr ⟨aj,uH ?_⟩)
    (try (refine .inr ⟨aj,uH ?_⟩))
    exact uI
   refine dd ?_;refine tc ?_
   refine .inl ⟨rfl,?_,λi hi hij=>?_⟩
   ·exact dG
   ·by_cases e:i=j
    ·subst e;rw[<-hxg];unfold oY;rw[c3,rC (by simp at c4;omega),rC (by simp at c5;omega)]
     rfl
    ·exact hrj i hi aw
  ·have h0:v.any oY=false:=by
    rw[pd];intro x hx;obtain⟨i,hi,rfl⟩:=pz.1 hx;simp[hrj i hi hi]
   have no:Aq v=false:=by unfold Aq;rw[h0,rC (by simp at c2;omega)];rfl
   conv=>whnf
   (refine td hg ?_)
   rw[mg];refine⟨λh=>absurd h aj,λ_=>dd ?_⟩;refine⟨aj,uH ?_⟩;refine .inl ⟨rfl,?_,λi hi hij=>?_⟩
   ·exact dG
   ·by_cases e:i=k
    ·subst e;rw[<-hx];exact no
    ·exact hr i hi aw
 ·have h0:s.threads.any Aq=false:=by
   rw[pd];intro x hx;obtain⟨i,hi,rfl⟩:=pz.1 hx;simp[hr i hi hi]
  rw[eW,h0];conv=>whnf
  rw[m1];refine⟨λh=>absurd h aj,λ_=>dd ?_⟩;refine⟨aj,uH ?_⟩;exact uI
end Go.Run
namespace Go.Run
open Go.Ab Go.Proofs Tryz Go.Gat Go.Nam Go.Hos Go.Con Go.Sna Go.Pla Go.Ply Go.Wor
open Go.Hy hiding encI
abbrev mC:eZ:=[105,110]
abbrev Ch:fD:=⟨[mC],[⟨mC,[42],[47],[97]⟩],[⟨[97],1,1,[true]⟩]⟩
abbrev oA:fh:=⟨1,mC,[120],[47],0,0,0,⟨[],[],[]⟩⟩
abbrev JG(k:Nat):List Int:=(List.range k).map λi=>((i / 10:Nat):Int)
abbrev zy8(k:Nat):fy:=⟨Ch,[[oA,⟨2,[],[],[],0,0,0,⟨[],[],[]⟩⟩,oA],[⟨4,mC,[],[],0,0,0,⟨[],[],[]⟩⟩]],JG k⟩
abbrev o9:fy:=zy8 60
def EV(k:Int)(l h p:eZ):List C:=[I k,Tx l,Tx h,Tx p,I 0,I 0,I 0,.eS 1 0 [],.eS 1 0 [],.eS 1 0 []]
def PY:List C:=[.eS 1 1 [[Tx mC]],.eS 1 4 [[Tx mC,Tx [42],Tx [47],Tx [97]]],.eS 1 4 [[Tx [97],I 1,I 1,.eS 1 1 [[Bo true]]]]]
def PX(p:C):List C:=PY++[.eS 1 1 [[.eS 1 10 [EV 1 mC [120] [47],EV 2 [] [] [],EV 1 mC [120] [47]]],[.eS 1 10 [EV 4 mC [] []]]],p]
def Yl{n:Nat}{w w':Wor}{m m':eR}{t:Int}{o:fh}(hb:tn 48 [] [I t,.agg (y8 o),lA []] (.agg (lJ m)) [])(hg:AT n w m w' m')(hn:n<=3000):
  tn 35 [] [.agg (yt w),I t,.agg (y8 o),lA []] (.fb [.agg (yt w'),.agg (x3 m'.answer),I n]) []:=by
 refine ab func35 ?_;refine ah hb ?_;refine qa.inv (λi t1 H1=>∃(k:Nat) (wk:Wor) (mk:eR),k+i=n/\AT i wk mk w' m'/\t1=(.za::.za::.za::.za::.ref 0 [] 8 0 0::.za::.ref 1 [] 10 0 0::.za::.ref 2 [] 8 0 0::.ref 3 [] 13 0 0::I 0::.ref 4 [] 44 0 0::.ref 5 [] 8 0 0::hU (.za::I k::hU (hU (hU ([])))))/\H1=[oW w,⟨1,58,10,[y8 o],0⟩,⟨1,38,8,[[I 0,I 0,I 0,.eS 1 0 [],.eS 1 0 [],.eS 1 0 [],.eS 1 0 [],.eS 1 0 []]],0⟩,⟨1,66,13,[x3 ⟨0,0,0,0,0,0,0,⟨0,0,0,0,0,0⟩⟩],0⟩,oM mk,oW wk]) n ?_ ?_
 ·exact⟨_,_,cC,0,w,m,aj,hg,rfl,rfl⟩
 rintro i _ _ ⟨k,wk,mk,hk,hg,rfl,rfl⟩;have hi:1<=i:=by cases hg <;> omega
 conv=>whnf
 refine uF ?_;cases hg with
 |last h he hd=>
  refine ah h ?_;refine⟨λh=>absurd h (aq he),λ_=>dd ?_⟩;refine .inl ⟨⟨false,[1],[7],[]⟩,au,uH ?_⟩;refine hZ ?_
  refine⟨λ_=>dd ?_,λh=>absurd ((hd).symm.trans h:true=false) ar⟩;refine .inl ⟨⟨false,[2],[4],[]⟩,au,uH ?_⟩;refine hZ ?_
  refine .inr ⟨aj,uH ?_⟩;rw[zw aw,show k+1=n from aw];exact uI
 |more h he hd hg=>
  refine ah h ?_;refine⟨λh=>absurd h (aq he),λ_=>dd ?_⟩;refine .inl ⟨⟨false,[1],[7],[]⟩,au,uH ?_⟩;refine hZ ?_
  refine⟨λh=>absurd ((hd).symm.trans h:false=true) ar,λ_=>dd ?_⟩;rw[zw aw];exact .inl ⟨rfl,_,_,_,Nat.lt_succ_self _,cE 6,k+1,_,_,aw,hg,rfl,rfl⟩
def VH{w:Wor}{m m2:eR}{w2:Wor}{e:eV}{t:Int}{o:fh}(hb:tn 48 [] [I t,.agg (y8 o),lA []] (.agg (lJ m)) [])(h:tn 49 [] [Sw w,Sm m] (Sr w2 m2 e) [])(he:e.access=0):
  tn 35 [] [.agg (yt w),I t,.agg (y8 o),lA []] (.fb [.agg (yt w),.agg (x3 ⟨0,0,0,0,0,0,0,⟨0,0,0,0,0,0⟩⟩),I 0]) []:=by
 refine ab func35 ?_;refine ah hb ?_;refine AK.Bc 1 (LoopN.step ?_);conv=>whnf
 refine tc ?_
 refine ah h ?_;refine⟨λ_=>dd ?_,λz=>absurd z (by simp[he])⟩;(refine .inr ⟨aj,uH ?_⟩)
 exact uI
def SS(w:Wor)(m:eR)(ok:fY w)(hl:i64 m.listen)(hpc:m.pc=0)(hs:zY w m=false):tn 135 [] [Cw w,Cm m] (.fb [Cw w,Cm m,Ce Ply.Dj]) []:=by
 refine ab func135 ?_;(repeat (first|refine uA ?_|refine uB ?_))
 refine ah (zO w m ok hl) ?_;refine⟨λh=>absurd ((hs).symm.trans h:false=true) ar,λ_=>dd ?_⟩;refine tc ?_
 refine .inl ⟨⟨false,[1],[1],[]⟩,au,uH ?_⟩;refine hZ ?_
 exact uI
abbrev n7:fy:=⟨⟨[],[],[]⟩,[],[]⟩
abbrev oB(c:fD):fh:=⟨3,[],[],[],0,0,0,c⟩
def BP:oH o9:=by
 refine⟨⟨⟨⟨ar,ar⟩,⟨ar,ar⟩,⟨ar,ar⟩⟩,ar,ar,aj⟩,λ_=>⟨⟨ar,ar⟩,⟨ar,ar⟩,⟨ar,ar⟩⟩,?_,?_,?_,?_⟩
 ·intro l hl o ho
  have:o.config=⟨[],[],[]⟩:=by
   have hl:l=[oA,⟨2,[],[],[],0,0,0,⟨[],[],[]⟩⟩,oA]\/l=[⟨4,mC,[],[],0,0,0,⟨[],[],[]⟩⟩]:=aq hl
   rcases hl with rfl|rfl
   ·have ho:o=oA\/o=⟨2,[],[],[],0,0,0,⟨[],[],[]⟩⟩\/o=oA:=by simpa using ho
    rcases ho with rfl|rfl|rfl <;> rfl
   ·have ho:o=⟨4,mC,[],[],0,0,0,⟨[],[],[]⟩⟩:=by simpa using ho
    rw[ho]
  rw[this];exact⟨⟨ar,ar⟩,⟨ar,ar⟩,⟨ar,ar⟩⟩
 ·intro x hx;have e:xr o9=[mC]:=by kernel_rfl
  rw[e]at hx;rw[gN.1 hx]
  decide
 ·intro l hl o ho;have hl:l=[oA,⟨2,[],[],[],0,0,0,⟨[],[],[]⟩⟩,oA]\/l=[⟨4,mC,[],[],0,0,0,⟨[],[],[]⟩⟩]:=by simpa using hl
  have k:o=oA\/o=⟨2,[],[],[],0,0,0,⟨[],[],[]⟩⟩\/o=⟨4,mC,[],[],0,0,0,⟨[],[],[]⟩⟩:=by
   rcases hl with rfl|rfl
   ·have ho:o=oA\/o=⟨2,[],[],[],0,0,0,⟨[],[],[]⟩⟩\/o=oA:=by simpa using ho
    rcases ho with rfl|rfl|rfl
    ·exact .inl O
    ·exact .inr (.inl O)
    ·exact .inl O
   ·have ho:o=⟨4,mC,[],[],0,0,0,⟨[],[],[]⟩⟩:=by simpa using ho
    exact .inr (.inr ho)
  rcases k with rfl|rfl|rfl
  ·exact⟨ar,ar,ar,ar,λh=>absurd h ar⟩
  ·exact⟨ar,ar,ar,ar,λh=>absurd h ar⟩
  ·exact⟨ar,ar,ar,ar,λh=>absurd h ar⟩
 ·intro p hp;obtain⟨i,hi,rfl⟩:=gZ.1 hp;have:=rp.1 hi;unfold i64;omega
def Qu:oH n7:=by
 refine⟨⟨⟨⟨ar,ar⟩,⟨ar,ar⟩,⟨ar,ar⟩⟩,ar,ar,ar⟩,λ_=>⟨⟨ar,ar⟩,⟨ar,ar⟩,⟨ar,ar⟩⟩,λl hl=>(by cases hl),?_,λl hl=>(by cases hl),λp hp=>(by cases hp)⟩;intro x hx;have e:xr n7=[]:=au
 rw[e]at hx;cases hx
end Go.Run
