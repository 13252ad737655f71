import Derived.Test.YtkbnjgogjccmfaaGreatR6
import Derived.Test.YtkbnjgogjccmfaaGreatR7
import Derived.Test.YtkbnjgogjccmfaaGreatR8
import Derived.Test.YtkbnjgogjccmfaaGreatR4
import Derived.Test.YtkbnjgogjccmfaaGreatR5
import Derived.Test.YtkbnjgogjccmfaaGreatRF
import Derived.Test.YtkbnjgogjccmfaaGreatR0
import Derived.Test.YtkbnjgogjccmfaaGreatR1
set_option linter.all false
set_option maxRecDepth 100000
set_option maxHeartbeats 4000000
namespace Go.Ply
open Go.Ab Go.Proofs Tryz Go.Hy Go.Wor
def Qc {X:List ed} {t i:Nat} (x:ed) (h:t≠i):yS (X.set t x) i=yS X i:=by
 unfold yS;rw [pa h]
def Oi {X:List ed} {t:Nat} (x:ed) (h:t < X.length):yS (X.set t x) t=x.given:=by
 unfold yS;rw [dQ h]
def Ss {X:List ed} {t:Nat} {x:ed} (h:X[t]?= some x):yS X t=x.given:=by
 unfold yS;rw [h]
def SU (X:List ed) (t:Nat) (x:ed):(X.mapIdx (qj 1)).set t (qj 1 t x)=(X.set t x).mapIdx (qj 1):=by
 refine gU fun i=>?_
 rw [gV,dW,dW,gV,List.length_mapIdx];by_cases h:t=i
 ·subst h;rw [dO rfl,dO rfl];split <;> rfl
 ·rw [dL h,dL h]
def S9 {X:List ed} {t:Nat} {x:ed} {o:ef} {w w':Wor} {m':uk} {e:uv} (hx:X[t]?= some x) (ho:x.ops[x.done]?= some o) (hX:X.length<=8) (hgn:x.given.length<=1000) (hdn:x.done<=1000)
  (hp:tn 47 [] [.agg (zJ w),.agg (zD (mQ x t o))] (.uo [.agg (zJ w'),.agg (zD m'),.agg (zR e)]) []):
  tn 19 (lW 1 X) [.ref 0 [] 48 t 0,.agg (zJ w),I t] (.uo [.agg (zJ w'),.agg (zR (AG e x))]) (lW 1 (X.set t (xh x m'))):=by
 have htl:=(dJ.1 hx).1;have ga:=Ss hx;have h8:t < 8:=aw
 have res:lW 1 (X.set t (xh x m'))=iR X ⟨1,0,48,(X.mapIdx (qj 1)).set t (qj 1 t (xh x m')),0⟩ (mP (xh x m').given) [] t:=by
  have g:∀ i,um (X.set t (xh x m')) i=if t=i then mP (xh x m').given else um X i:=fun i=>by
   split
   ·rename_i e;subst e;show um _ t=_;unfold um;rw [Oi _ htl]
   ·rename_i e;unfold um;rw [Qc _ e]
  rw [SU];unfold lW;rw [g 0,g 1,g 2,g 3,g 4,g 5,g 6,g 7];rcases eight h8 with rfl | rfl | rfl | rfl | rfl | rfl | rfl | rfl <;> rfl
 rw [RV X h8,res,ga];obtain ⟨ops,dn,on,m,given⟩:=x;cases on
 ·exact UD h8 X ops dn m given w w' _ m' e o hx hX hgn hdn ho (Beg.DW t o given (by have h:given.length<=1000:=hgn;omega)) hp
 ·exact UE h8 X ops dn m given w w' m' e hx hX hgn hdn hp
end Go.Ply
namespace Go.Wor
open Go.Ab Go.Proofs Tryz Go.Gat Go.Nam Go.Hos Go.Con Go.Sna Go.Pla Go.Ply
open Go.Hy hiding encI
structure wI (s:ez):Prop where
 wk:DM s
 cfg:wH s.first=true->xp s.first
 Gk:∀ l ∈ s.threads,∀ o ∈ l,kG o.config
 names:∀ x ∈ xM s,x.length<=reachBytes
 ops:∀ l ∈ s.threads,∀ o ∈ l,o.host.length < 1000000000000∧o.path.length < 1000000000000∧i64 o.d0∧i64 o.d1∧(o.kind=3->xp o.config)
 zV:∀ p ∈ s.zV,i64 p
def fp (s:ez):fD:=((qu s).1,s.threads.map fW,[])
def va (s:ez):fD:=ff (fp s) s.zV s.zV.length
def qp (s:ez):List uv × Wor × Int:=if (qu s).2=0 then ((va s).2.2,(va s).1,0) else ([],⟨0,0,0,[],[],[],[],[]⟩,(qu s).2)
def xc {s:ez} (h:(qu s).2=0):fG s=true∧iH (jo s.first).1 (xM s) s.threads.length=((qu s).1,0):=by
 unfold qu at h ⊢;split at h
 ·rename_i q;rw [dO q];exact ⟨q,by rw [<- h]⟩
 ·exact absurd (show (1:Int)=0 from h) ar
def P7 {s:ez} (h:fG s=true):(xM s).length<=600:=by
 obtain ⟨p1,p2,p3,p4,p5,p6⟩:=yu h;have a:=CE [] (kA p1)
 have b:=Bd vY 64 s.threads (kH [] s.first) fun l hl o=>by
  have hl2:=(p5 l hl).1;exact Ep o hl2
 have c:xM s=s.threads.foldl vY (kH [] s.first):=rfl;rw [c];simp at a;omega
def CF {s:ez} (ok:wI s) (h:(qu s).2=0):GI 600 0 (fp s).1 (fp s).2.1:=by
 obtain ⟨q,hn⟩:=xc h;obtain ⟨p1,p2,p3,p4,p5,p6⟩:=yu q
 exact Un hn (wx (ok.cfg p1)) (P7 q) ar ok.names rfl fun l hl o ho=>by
  have a:=ok.ops l hl o ho;exact ⟨(p5 l hl).2 o ho,a.1,a.2.1,a.2.2.1,a.2.2.2.1,a.2.2.2.2⟩
def BI {s:ez} (ok:wI s) (h:(qu s).2=0) (k:Nat) (hk:k<=s.zV.length):GI (600+k) k (ff (fp s) s.zV k).1 (ff (fp s) s.zV k).2.1:=by
 obtain ⟨q,_⟩:=xc h;obtain ⟨_,_,_,p4,_,_⟩:=yu q;have:=C5 (CF ok h) s.zV k hk aw aw
 rwa [gf] at this
def Kc {N K:Nat} {w:Wor} {X:List ed} (gi:GI N K w X) {t:Nat} {x:ed} (hx:X[t]?= some x):x.given.length=x.done∧x.done<=x.ops.length:=by
 obtain ⟨os,hl,hti,_⟩:=gi.own;obtain ⟨o,ho⟩:∃ o,os[t]?= some o:=⟨_,dK (by have:=(dJ.1 hx).1;omega)⟩;have ti:=hti t x o hx ho;exact ⟨ti.given,ti.le⟩
def Tn (x:ed) (m:uk):(xh x m).ops=x.ops:=by unfold xh;split <;> rfl
def FM {s:ez} (ok:wI s) (h:(qu s).2=0):∀ k,k<=s.zV.length->(ff (fp s) s.zV k).2.1.map (·.ops)=s.threads
 | 0,_=>by
  show (s.threads.map fW).map (·.ops)=s.threads;rw [pT];exact List.map_id _
 | k+1,hk=>by
  have ih:=FM ok h k aw;have gi:=BI ok h k aw;obtain ⟨q,_⟩:=xc h;obtain ⟨_,_,_,p4,_,_⟩:=yu q;rw [A3 (dK aw)];rcases kV gi s.zV[k] aw aw with ⟨_,e⟩ | ⟨t,x,o,r,_,hx,_,_,_,_,_,e,_⟩
  ·rw [e];exact ih
  ·rw [e];show (List.set _ t (xh x r.2.1)).map (·.ops)=_;rw [pH,Tn,<- ih];exact yp _ _ (by rw [dN,hx];rfl)
def Cd (s:ez) (ok:wI s):tn 7 [] [.agg (qy s)] (.uo [fR (qp s).1,.agg (zJ (qp s).2.1),I (qp s).2.2]) []:=by
 have hb:=G9 s ok.wk ok.cfg ok.Gk fun _ x hx=>by have:=ok.names x hx;unfold reachBytes at this;omega
 have w:=Rz s (qu s) (fun k=>ff (fp s) s.zV k) hb (fun h=>by
   obtain ⟨q,_⟩:=xc h;obtain ⟨_,_,p3,p4,_,p6⟩:=yu q;exact ⟨p3,p4,fun p hp=>⟨p6 p hp,ok.zV p hp⟩⟩) rfl fun h k p hp=>by
  have hk:=(dJ.1 hp).1;have gi:=BI ok h k aw;have ao:=FM ok h k aw;obtain ⟨q,_⟩:=xc h;obtain ⟨_,_,p3,p4,p5,_⟩:=yu q;refine ⟨?_⟩;(try dsimp only)
  rw [A3 hp];rcases kV gi p aw aw with ⟨ha,e⟩ | ⟨t,x,o,r,ht,hx,ho,hsu,htm,hst,_,e,_⟩
  ·exact .inl ⟨ha,e⟩
  ·right
   have tk:=Kc gi hx;have xo:x.ops ∈ s.threads:=by rw [<- ao];exact gC.2 ⟨x,dM hx,rfl⟩
   have xl:=(p5 x.ops xo).1
   have hX:(ff (fp s) s.zV k).2.1.length<=8:=by
    have:=pX List.length ao;rw [dP] at this;omega
   rw [e];exact ⟨t,x,AG r.2.2 x,ht,hx,by show (List.set _ _ _).length=_;rw [rq],rfl,S9 hx ho hX aw aw (Pl hsu gi.st.ty htm aw hst)⟩
 unfold qp;by_cases h:(qu s).2=0
 ·rw [dO h,dO h] at w;rw [dO h];rw [h] at w;exact w
 ·rw [dL h,dL h] at w;rw [dL h];exact w
end Go.Wor
namespace Go.Run
open Go.Ab Go.Proofs Tryz Go.Hy Go.Gat Go.Nam Go.Hos Go.Con
def mJ (o:ef):Bool:=fO o.config || (decide (100 < o.host.length) || decide (100 < o.path.length))
def na (l:List ef):Bool:=decide (40 < l.length) || l.any mJ
def iV (s:ez):Bool:=fO s.first || decide (20 < s.threads.length) || decide (5000 < s.zV.length) || s.threads.any na
structure GJ (s:ez):Prop where
 first:s.first.zd.length < 4000000000000000000∧s.first.zQ.length < 4000000000000000000∧s.first.zk.length < 4000000000000000000
 threads:s.threads.length < 4000000000000000000
 ops:∀ l ∈ s.threads,l.length < 4000000000000000000
 cfg:∀ l ∈ s.threads,∀ o ∈ l,o.config.zd.length < 4000000000000000000∧o.config.zQ.length < 4000000000000000000∧o.config.zk.length < 4000000000000000000
def Ol (s:ez) (hs:GJ s):tn 8 [] [.agg (qy s)] (Bo (iV s)) []:=by
 have m1:(s.threads.map yj).length=s.threads.length:=dP ..;have m2:(s.zV.map Go.Hy.encI).length=s.zV.length:=dP ..;have hf:=hs.first;have ht:=hs.threads;refine ab func8 ?_;refine ah (I2 s.first hf.1 hf.2.1 hf.2.2) ?_;(refine ⟨fun a1=>?_,fun a1=>?_⟩);(focus ((have e:iV s=true:=(by (try simp at a1);simp [iV];first | omega | (rw [a1];simp)));(rw [e]);refine dd ?_;refine tc ?_;exact uI));refine dd ?_
 rw [m1];(refine ⟨fun a2=>?_,fun a2=>?_⟩);(focus ((have e:iV s=true:=(by (try simp at a2);simp [iV];first | omega | (rw [a2];simp)));(rw [e]);refine dd ?_;refine tc ?_;exact uI));refine dd ?_
 rw [m2];(refine ⟨fun a3=>?_,fun a3=>?_⟩);(focus ((have e:iV s=true:=(by (try simp at a3);simp [iV];first | omega | (rw [a3];simp)));(rw [e]);refine dd ?_;refine tc ?_;exact uI));refine dd ?_
 refine tc ?_
 have eW:iV s=s.threads.any na:=by
  unfold iV;simp at a2 a3;rw [a1,pG aw,pG aw]
  rfl
 refine z5.seq s.threads.length (fun k=>(.za::.ref 0 [] 5 0 0::Bo false::I k:: tZ (tZ (tZ (tZ (tZ (tZ (tZ (tZ ([])))))))))) (fun k=>[⟨1,30,5,[qy s],0⟩]) (fun k=>∀ j,(h:j < s.threads.length)->j < k->na s.threads[j]=false) ?_ aj (fun k hk hr=>?_) (fun hr=>?_)
 ·exact cC
 ·obtain ⟨v,hx⟩:∃ v,v=s.threads[k]:=⟨_,rfl⟩;have hv:v ∈ s.threads:=by rw [hx];exact dF
  have hg:(s.threads.map yj)[k]?= some (yj v):=by rw [dN,dK hk,hx];rfl
  have mg:(v.map y8).length=v.length:=dP ..
  have bad:na v=true->iV s=true:=fun h=>by
   rw [eW];exact pI.2 ⟨v,hv,h⟩
  have bg:=hs.ops v hv;conv=>whnf
  rw [m1];refine uF ?_;(refine td hg ?_)
  rw [mg];refine ⟨fun c2=>?_,fun c2=>?_⟩
  ·rw [bad (by unfold na;rw [rk (by simp at c2;omega)];rfl)];refine dd ?_;(refine .inr ⟨aj,uH ?_⟩)
   exact uI
  refine dd ?_;refine z5.seq v.length (fun j=>(.za::.ref 0 [] 5 0 0::Bo false::I k::I j:: .za::.za::.za::.za::.za::.za::.za::tZ (tZ (tZ (tZ (tZ (tZ (tZ ([]))))))))) (fun j=>[⟨1,30,5,[qy s],0⟩]) (fun j=>∀ i,(h:i < v.length)->i < j->mJ v[i]=false) ?_ aj (fun j hj hrj=>?_) (fun hrj=>?_)
  ·exact cC
  ·obtain ⟨o,hxg⟩:∃ o,o=v[j]:=⟨_,rfl⟩;have ho:o ∈ v:=by rw [hxg];exact gH hj
   have hgg:(v.map y8)[j]?= some (y8 o):=by rw [dN,dK hj,hxg];rfl
   have hc:=hs.cfg v hv o ho
   have badg:mJ o=true->iV s=true:=fun h=>bad (by
    have:v.any mJ=true:=pI.2 ⟨o,ho,h⟩;unfold na;rw [this,sA])
   conv=>whnf
   (refine td hg ?_)
   rw [mg];refine uF ?_;(refine td hg ?_)
   (refine td hgg ?_)
   refine ah (I2 o.config hc.1 hc.2.1 hc.2.2) ?_;refine ⟨fun c3=>?_,fun c3=>?_⟩
   ·rw [badg (by unfold mJ;rw [c3];rfl)];refine dd ?_;refine tc ?_
    (refine .inr ⟨aj,uH ?_⟩)
    (try (refine .inr ⟨aj,uH ?_⟩))
    exact uI
   refine dd ?_;refine ⟨fun c4=>?_,fun c4=>?_⟩
   ·rw [badg (by unfold mJ;rw [c3,rk (by simp at c4;omega)];rfl)];refine dd ?_;refine tc ?_
    (refine .inr ⟨aj,uH ?_⟩)
    (try (refine .inr ⟨aj,uH ?_⟩))
    exact uI
   refine dd ?_;refine ⟨fun c5=>?_,fun c5=>?_⟩
   ·rw [badg (by unfold mJ;rw [c3,rk (p:=100 < o.path.length) (by simp at c5;omega)];simp)];refine dd ?_;refine tc ?_
    (refine .inr ⟨aj,uH ?_⟩)
    (try (refine .inr ⟨aj,uH ?_⟩))
    exact uI
   refine dd ?_;refine tc ?_
   refine .inl ⟨rfl,?_,fun i hi hij=>?_⟩
   ·exact dp
   ·by_cases e:i=j
    ·subst e;rw [<- hxg];unfold mJ;rw [c3,pG (by simp at c4;omega),pG (by simp at c5;omega)]
     rfl
    ·exact hrj i hi aw
  ·have h0:v.any mJ=false:=by
    rw [gI];intro x hx;obtain ⟨i,hi,rfl⟩:=gX.1 hx;simp [hrj i hi hi]
   have no:na v=false:=by unfold na;rw [h0,pG (by simp at c2;omega)];rfl
   conv=>whnf
   (refine td hg ?_)
   rw [mg];refine ⟨fun h=>absurd h aj,fun _=>dd ?_⟩;refine ⟨aj,uH ?_⟩;refine .inl ⟨rfl,?_,fun i hi hij=>?_⟩
   ·exact dp
   ·by_cases e:i=k
    ·subst e;rw [<- hx];exact no
    ·exact hr i hi aw
 ·have h0:s.threads.any na=false:=by
   rw [gI];intro x hx;obtain ⟨i,hi,rfl⟩:=gX.1 hx;simp [hr i hi hi]
  rw [eW,h0];conv=>whnf
  rw [m1];exact cY
def NW (l:List uv) (hl:l.length < 4000000000000000000):tn 13 [] [fR l,fR l] (Bo true) []:=by
 have m1:(l.map zR).length=l.length:=dP ..;refine ab func13 ?_;refine ⟨fun h=>absurd h aj,fun _=>dd ?_⟩;refine z5.seq l.length (fun k=>((fR l)::(fR l)::.za::.za::Bo false::I k::tZ (tZ ([.za,.za,.za,.za])))) (fun k=>[]) (fun _=>True) ?_ trivial (fun k hk _=>?_) (fun _=>?_)
 ·exact cC
 ·have hg:(l.map zR)[k]?= some (zR l[k]):=by rw [dN,dK hk];rfl
  conv=>whnf
  rw [m1];refine uF ?_;refine uE ?_;(refine td hg ?_)
  (refine td hg ?_)
  refine ⟨au,dd ?_⟩;refine ⟨fun h=>absurd h aj,fun _=>dd ?_⟩;exact dD
 ·conv=>whnf
  rw [m1];exact cY
end Go.Run
namespace Go.Run
open Go.Ab Go.Proofs Tryz Go.Gat Go.Nam Go.Hos Go.Con Go.Sna Go.Pla Go.Ply Go.Wor
open Go.Hy hiding encI
abbrev fK:uu:=[105,110]
abbrev nQ:eG:=⟨[fK],[⟨fK,[42],[47],[97]⟩],[⟨[97],1,1,[true]⟩]⟩
abbrev mz:ef:=⟨1,fK,[120],[47],0,0,0,⟨[],[],[]⟩⟩
abbrev yX (k:Nat):List Int:=(List.range k).map fun i=>((i / 10:Nat):Int)
abbrev Vw (k:Nat):ez:=⟨nQ,[[mz,⟨2,[],[],[],0,0,0,⟨[],[],[]⟩⟩,mz],[⟨4,fK,[],[],0,0,0,⟨[],[],[]⟩⟩]],yX k⟩
abbrev jX:ez:=Vw 60
def AY (k:Int) (l h p:uu):List C:=[I k,Tx l,Tx h,Tx p,I 0,I 0,I 0,.ui 1 0 [],.ui 1 0 [],.ui 1 0 []]
def DC:List C:=[.ui 1 1 [[Tx fK]],.ui 1 4 [[Tx fK,Tx [42],Tx [47],Tx [97]]],.ui 1 4 [[Tx [97],I 1,I 1,.ui 1 1 [[Bo true]]]]]
def AQ (p:C):List C:=DC++[.ui 1 1 [[.ui 1 10 [AY 1 fK [120] [47],AY 2 [] [] [],AY 1 fK [120] [47]]],[.ui 1 10 [AY 4 fK [] []]]],p]
def NR (k:Nat):yX (k+1)=yX k++[((k / 10:Nat):Int)]:=by
 unfold yX;rw [ue,pw]
 rfl
def D4:tn 21 [] [] (.agg (AQ (lI (yX 60)))) []:=by
 refine ab func21 ?_;refine z5.seq 60 (fun k=>(.ref 0 [] 5 0 0::.za::.za::.ref 3 [] 5 0 0::I k::tZ (tZ (tZ ([.za,.za,.za,.za,.za]))))) (fun k=>[⟨1,30,5,[[.ui 1 0 [],.ui 1 0 [],.ui 1 0 [],.ui 1 0 [],.ui 1 0 []]],0⟩,⟨1,26,3,[DC],0⟩,⟨1,67,10,[AY 1 fK [120] [47]],0⟩,⟨1,30,5,[AQ (.gl 4 1 ((yX k).map Go.Hy.encI))],0⟩,⟨4,3,1,(yX k).map Go.Hy.encI,0⟩]) (fun _=>True) ?_ trivial (fun k hk _=>?_) (fun _=>?_)
 ·exact (zo.mV 3 4 3 1 rfl rfl (.inl rfl) rfl rfl).trans (cC)
 ·have mp:((yX k).map Go.Hy.encI).length=k:=by simp
  conv=>whnf
  refine uF ?_;refine ⟨rfl,.inr rfl,by rw [mp];simp [maxLen];omega,by rw [mp];show _ * 8<=_;simp;omega,dd ?_⟩;refine .inl ⟨rfl,?_,trivial⟩
  have e:IntKind.i64.wrap ((k:Int).tdiv 10)=((k / 10:Nat):Int):=by
   have:(k:Int).tdiv 10=((k / 10:Nat):Int):=rfl;rw [this,qZ aw aw]
  have e2:(yX k).map Go.Hy.encI++[[I ((k / 10:Nat):Int)]]=(yX (k+1)).map Go.Hy.encI:=by rw [NR,pw];rfl
  rw [zu aw,e,e2];exact cC
 ·refine uD ?_;exact uI
def SS {n:Nat} {w w':Wor} {m m':uk} {t:Int} {o:ef} (hb:tn 46 [] [I t,.agg (y8 o),lA []] (.agg (zD m)) []) (hg:nS n w m w' m') (hn:n<=3000):
  tn 22 [] [.agg (zJ w),I t,.agg (y8 o),lA []] (.uo [.agg (zJ w'),.agg (xm m'.answer),I n]) []:=by
 refine ab func22 ?_;refine ah hb ?_;refine z5.inv (fun i t1 H1=>∃ (k:Nat) (wk:Wor) (mk:uk),k+i=n∧nS i wk mk w' m'∧t1=(.za::.za::.za::.za::.ref 0 [] 8 0 0::.za::.ref 1 [] 10 0 0::.za::.ref 2 [] 8 0 0::.ref 3 [] 13 0 0::I 0::.ref 4 [] 44 0 0::.ref 5 [] 8 0 0::tZ (.za::I k::tZ (tZ (tZ ([])))))∧H1=[⟨1,37,8,[zJ (w)],0⟩,⟨1,67,10,[y8 o],0⟩,⟨1,37,8,[[I 0,I 0,I 0,.ui 1 0 [],.ui 1 0 [],.ui 1 0 [],.ui 1 0 [],.ui 1 0 []]],0⟩,⟨1,46,13,[xm ⟨0,0,0,0,0,0,0,⟨0,0,0,0,0,0⟩⟩],0⟩,⟨1,69,44,[zD (mk)],0⟩,⟨1,37,8,[zJ (wk)],0⟩]) n ?_ ?_
 ·exact ⟨_,_,cC,0,w,m,aj,hg,rfl,rfl⟩
 rintro i _ _ ⟨k,wk,mk,hk,hg,rfl,rfl⟩;have hi:1<=i:=by cases hg <;> omega
 conv=>whnf
 refine uF ?_;cases hg with
 | last h he hd=>
  refine ah h ?_;refine ⟨fun h=>absurd h (aq he),fun _=>dd ?_⟩;refine .inl ⟨⟨false,[1],[7],[]⟩,au,uH ?_⟩;refine hZ ?_
  refine ⟨fun _=>dd ?_,fun h=>absurd ((hd).symm.trans h:true=false) ar⟩;refine .inl ⟨⟨false,[2],[4],[]⟩,au,uH ?_⟩;refine hZ ?_
  refine .inr ⟨aj,uH ?_⟩;rw [zu aw,show k+1=n from aw];exact uI
 | more h he hd hg=>
  refine ah h ?_;refine ⟨fun h=>absurd h (aq he),fun _=>dd ?_⟩;refine .inl ⟨⟨false,[1],[7],[]⟩,au,uH ?_⟩;refine hZ ?_
  refine ⟨fun h=>absurd ((hd).symm.trans h:false=true) ar,fun _=>dd ?_⟩;rw [zu aw];exact .inl ⟨rfl,_,_,_,Nat.lt_succ_self _,cE 6,k+1,_,_,aw,hg,rfl,rfl⟩
def QC {w:Wor} {m m2:uk} {w2:Wor} {e:uv} {t:Int} {o:ef} (hb:tn 46 [] [I t,.agg (y8 o),lA []] (.agg (zD m)) []) (h:tn 47 [] [Sw w,Sm m] (Sr w2 m2 e) []) (he:e.access=0):
  tn 22 [] [.agg (zJ w),I t,.agg (y8 o),lA []] (.uo [.agg (zJ w),.agg (xm ⟨0,0,0,0,0,0,0,⟨0,0,0,0,0,0⟩⟩),I 0]) []:=by
 refine ab func22 ?_;refine ah hb ?_;refine nG.B8 1 (LoopN.step ?_);conv=>whnf
 refine tc ?_
 refine ah h ?_;refine ⟨fun _=>dd ?_,fun z=>absurd z (by simp [he])⟩;(refine .inr ⟨aj,uH ?_⟩)
 exact uI
def Nk (w:Wor) (m:uk) (ok:eR w) (hl:i64 m.listen) (hpc:m.pc=0) (hs:zY w m=false):tn 98 [] [Cw w,Cm m] (.uo [Cw w,Cm m,Ce Ply.AM]) []:=by
 refine ab func98 ?_;(repeat (first | refine uA ?_ | refine uB ?_))
 refine ah (zO w m ok hl) ?_;refine ⟨fun h=>absurd ((hs).symm.trans h:false=true) ar,fun _=>dd ?_⟩;refine tc ?_
 refine .inl ⟨⟨false,[1],[1],[]⟩,au,uH ?_⟩;refine hZ ?_
 exact uI
abbrev nT:ez:=⟨⟨[],[],[]⟩,[],[]⟩
abbrev oI (c:eG):ef:=⟨3,[],[],[],0,0,0,c⟩
def NS {l:List uv} {w b x zw:Wor} {c0 c1 c2 c3:Cal} (hP:tn 7 [] [.agg (AQ (lI (yX 60)))] (.uo [fR l,.agg (zJ w),I 0]) []) (hl:l.length=30) (hC:tn 11 [] [fR l] (.uo [AJ [c0,c1,c2,c3],I 0]) [])
  (hE:tn 7 [] [.agg [.ui 1 0 [],.ui 1 0 [],.ui 1 0 [],.ui 1 0 [],.ui 1 0 []]] (.uo [fR [],.agg (zJ zw),I 1]) []) (hB:tn 16 [] [.agg (AQ (lI (yX 60)))] (.uo [.agg (zJ b),I 0]) [])
  (hA:tn 22 [] [.agg (zJ b),I 0,.agg ([I 3,Tx [],Tx [],Tx [],I 0,I 0,I 0]++DC),.ui 1 0 []] (.uo [.agg (zJ x),.agg (xm ⟨8,1,0,0,0,0,0,⟨0,0,0,0,0,0⟩⟩),I (3:Nat)]) [])
  (hN:tn 22 [] [.agg (zJ b),I 9,.agg [I 3,Tx [],Tx [],Tx [],I 0,I 0,I 0,.ui 1 0 [],.ui 1 0 [],.ui 1 0 []],.ui 1 0 []] (.uo [.agg (zJ b),.agg (xm ⟨0,0,0,0,0,0,0,⟨0,0,0,0,0,0⟩⟩),I 0]) [])
  (hH:tn 23 [] [.agg (zJ w)] (I (0:Nat)) []) (k0:c0.answer.kind=1) (k1:c1.answer.kind=10) (t1:c1.zj=1) (k2:c2.answer.kind=6) (k3:c3.answer.kind=5) (hw:w.zd=[⟨fK,true,0,false⟩]) (hb:b.pins.length=2) (hx:x.current=1):
  tn 9 [] [] (Bo true) []:=by
 have ml:(l.map zR).length=30:=(dP ..).trans hl;obtain ⟨w1,w2,w3,w4,w5,w6,w7,w8⟩:=w;have hw:w6=[⟨fK,true,0,false⟩]:=hw;subst hw;obtain ⟨x1,x2,x3,x4,x5,x6,x7,x8⟩:=x;have hx:x2=1:=hx;subst hx;have mb:(b.pins.map Go.Hy.encI).length=2:=(dP ..).trans hb;obtain ⟨d1,d2,d3,d4,d5,⟨a1,a2,a3,a4,a5,a6,a7,a8⟩⟩:=c0;obtain ⟨f1,f2,f3,f4,f5,⟨g1,g2,g3,g4,g5,g6,g7,g8⟩⟩:=c1;obtain ⟨h1,h2,h3,h4,h5,⟨i1,i2,i3,i4,i5,i6,i7,i8⟩⟩:=c2;obtain ⟨j1,j2,j3,j4,j5,⟨p1,p2,p3,p4,p5,p6,p7,p8⟩⟩:=c3;have k0:a1=1:=k0;have k1:g1=10:=k1;have t1:f1=1:=t1;have k2:i1=6:=k2;have k3:p1=5:=k3;subst k0 k1 t1 k2 k3;refine ab func9 ?_;refine ah D4 ?_;refine ah hP ?_;refine ah hC ?_;refine ah hE ?_;refine ah D4 ?_;refine ah hB ?_;refine .inr ⟨⟨[0,1,4],[2],false⟩,au,fun h=>absurd h ar,fun t1 H1=>(t1=(.za::fR l:: .ref 0 [] 8 0 0::I 0::AJ [⟨d1,d2,d3,d4,d5,⟨1,a2,a3,a4,a5,a6,a7,a8⟩⟩,⟨1,f2,f3,f4,f5,⟨10,g2,g3,g4,g5,g6,g7,g8⟩⟩,⟨h1,h2,h3,h4,h5,⟨6,i2,i3,i4,i5,i6,i7,i8⟩⟩,⟨j1,j2,j3,j4,j5,⟨5,p2,p3,p4,p5,p6,p7,p8⟩⟩]::I 0:: .za::.za::I 1:: .ref 2 [] 8 0 0::I 0:: .ref 3 [] 8 0 0:: .ref 4 [] 13 0 0::I (3:Nat):: .za::.za::tZ (tZ (tZ (tZ (tZ (tZ (tZ (tZ (tZ (tZ (tZ (tZ (tZ (tZ (tZ (tZ (tZ (tZ (tZ ([]))))))))))))))))))))∧H1=[⟨1,37,8,[zJ ⟨w1,w2,w3,w4,w5,[⟨fK,true,0,false⟩],w7,w8⟩],0⟩,⟨1,37,8,[zJ (zw)],0⟩,⟨1,37,8,[zJ (b)],0⟩,⟨1,37,8,[zJ ⟨x1,1,x3,x4,x5,x6,x7,x8⟩],0⟩,⟨1,46,13,[xm (⟨8,1,0,0,0,0,0,⟨0,0,0,0,0,0⟩⟩)],0⟩])∨(t1=(.za::fR l:: .ref 0 [] 8 0 0::I 0::AJ [⟨d1,d2,d3,d4,d5,⟨1,a2,a3,a4,a5,a6,a7,a8⟩⟩,⟨1,f2,f3,f4,f5,⟨10,g2,g3,g4,g5,g6,g7,g8⟩⟩,⟨h1,h2,h3,h4,h5,⟨6,i2,i3,i4,i5,i6,i7,i8⟩⟩,⟨j1,j2,j3,j4,j5,⟨5,p2,p3,p4,p5,p6,p7,p8⟩⟩]::I 0:: .za::.za::I 1:: .ref 2 [] 8 0 0::I 0:: .ref 4 [] 8 0 0:: .ref 3 [] 13 0 0::I (3:Nat):: .za::.za::tZ (tZ (tZ (tZ (tZ (tZ (tZ (tZ (tZ (tZ (tZ (tZ (tZ (tZ (tZ (tZ (tZ (tZ (tZ ([]))))))))))))))))))))∧H1=[⟨1,37,8,[zJ ⟨w1,w2,w3,w4,w5,[⟨fK,true,0,false⟩],w7,w8⟩],0⟩,⟨1,37,8,[zJ (zw)],0⟩,⟨1,37,8,[zJ (b)],0⟩,⟨1,46,13,[xm (⟨8,1,0,0,0,0,0,⟨0,0,0,0,0,0⟩⟩)],0⟩,⟨1,37,8,[zJ ⟨x1,1,x3,x4,x5,x6,x7,x8⟩],0⟩]),?_,?_⟩
 ·conv=>whnf
  repeat' (first | (exact trivial) | (refine ⟨rfl,uH ?_⟩) | (refine ⟨_,fun H2 _=>D4.frame rfl H2,uH ?_⟩) | (refine ⟨_,fun H2 _=>(show zb _ _ _ _ _ _ from hA).frame rfl H2,uH ?_⟩) | (exact ⟨_,_,cC,.inl ⟨rfl,rfl⟩⟩) | (exact ⟨_,_,cC,.inr ⟨rfl,rfl⟩⟩) | (refine And.intro ?_ ?_ <;> (conv=>whnf)))
 rintro _ _ (⟨rfl,rfl⟩ | ⟨rfl,rfl⟩)
 ·conv=>whnf
  refine ah hN ?_;(repeat (first | ((refine ya (dd ?_))) | ((refine yb (dd ?_))) | (rw [ml]) | (rw [mb]) | (refine ⟨ar,_,rfl,dd ?_⟩) | (refine ah hH ?_) | (refine ⟨au,dd ?_⟩)))
  exact uI
 ·conv=>whnf
  refine ah hN ?_;(repeat (first | ((refine ya (dd ?_))) | ((refine yb (dd ?_))) | (rw [ml]) | (rw [mb]) | (refine ⟨ar,_,rfl,dd ?_⟩) | (refine ah hH ?_) | (refine ⟨au,dd ?_⟩)))
  exact uI
def nY:wI jX:=by
 refine ⟨⟨⟨⟨ar,ar⟩,⟨ar,ar⟩,⟨ar,ar⟩⟩,ar,ar,aj⟩,fun _=>⟨⟨ar,ar⟩,⟨ar,ar⟩,⟨ar,ar⟩⟩,?_,?_,?_,?_⟩
 ·intro l hl o ho
  have:o.config=⟨[],[],[]⟩:=by
   have hl:l=[mz,⟨2,[],[],[],0,0,0,⟨[],[],[]⟩⟩,mz]∨l=[⟨4,fK,[],[],0,0,0,⟨[],[],[]⟩⟩]:=aq hl
   rcases hl with rfl | rfl
   ·have ho:o=mz∨o=⟨2,[],[],[],0,0,0,⟨[],[],[]⟩⟩∨o=mz:=by simpa using ho
    rcases ho with rfl | rfl | rfl <;> rfl
   ·have ho:o=⟨4,fK,[],[],0,0,0,⟨[],[],[]⟩⟩:=by simpa using ho
    rw [ho]
  rw [this];exact ⟨⟨ar,ar⟩,⟨ar,ar⟩,⟨ar,ar⟩⟩
 ·intro x hx;have e:xM jX=[fK]:=by kernel_rfl
  rw [e] at hx;rw [gF.1 hx]
  decide
 ·intro l hl o ho;have hl:l=[mz,⟨2,[],[],[],0,0,0,⟨[],[],[]⟩⟩,mz]∨l=[⟨4,fK,[],[],0,0,0,⟨[],[],[]⟩⟩]:=by simpa using hl
  have k:o=mz∨o=⟨2,[],[],[],0,0,0,⟨[],[],[]⟩⟩∨o=⟨4,fK,[],[],0,0,0,⟨[],[],[]⟩⟩:=by
   rcases hl with rfl | rfl
   ·have ho:o=mz∨o=⟨2,[],[],[],0,0,0,⟨[],[],[]⟩⟩∨o=mz:=by simpa using ho
    rcases ho with rfl | rfl | rfl
    ·exact .inl rfl
    ·exact .inr (.inl rfl)
    ·exact .inl rfl
   ·have ho:o=⟨4,fK,[],[],0,0,0,⟨[],[],[]⟩⟩:=by simpa using ho
    exact .inr (.inr ho)
  rcases k with rfl | rfl | rfl
  ·exact ⟨ar,ar,ar,ar,fun h=>absurd h ar⟩
  ·exact ⟨ar,ar,ar,ar,fun h=>absurd h ar⟩
  ·exact ⟨ar,ar,ar,ar,fun h=>absurd h ar⟩
 ·intro p hp;obtain ⟨i,hi,rfl⟩:=gC.1 hp;have:=pD.1 hi;unfold i64;omega
def LM:wI nT:=by
 refine ⟨⟨⟨⟨ar,ar⟩,⟨ar,ar⟩,⟨ar,ar⟩⟩,ar,ar,ar⟩,fun _=>⟨⟨ar,ar⟩,⟨ar,ar⟩,⟨ar,ar⟩⟩,fun l hl=>(by cases hl),?_,fun l hl=>(by cases hl),fun p hp=>(by cases hp)⟩;intro x hx;have e:xM nT=[]:=au
 rw [e] at hx;cases hx
end Go.Run
