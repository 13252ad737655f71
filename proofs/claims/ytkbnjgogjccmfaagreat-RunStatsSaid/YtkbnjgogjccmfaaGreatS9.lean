import Derived.Test.YtkbnjgogjccmfaaGreatS6
import Derived.Test.YtkbnjgogjccmfaaGreatS7
import Derived.Test.YtkbnjgogjccmfaaGreatS8
import Derived.Test.YtkbnjgogjccmfaaGreatS4
import Derived.Test.YtkbnjgogjccmfaaGreatS5
import Derived.Test.YtkbnjgogjccmfaaGreatSF
import Derived.Test.YtkbnjgogjccmfaaGreatS0
import Derived.Test.YtkbnjgogjccmfaaGreatS1
set_option linter.all false
set_option maxRecDepth 100000
set_option maxHeartbeats 4000000
namespace Go.Ply
open Go.Ab Go.Proofs Tryz Go.Hy Go.Wor
def SA {X:List eE} {t i:Nat} (x:eE) (h:t≠i):ve (X.set t x) i=ve X i:=by
 unfold ve;rw [gZ h]
def PN {X:List eE} {t:Nat} (x:eE) (h:t < X.length):ve (X.set t x) t=x.given:=by
 unfold ve;rw [dW h]
def Ua {X:List eE} {t:Nat} {x:eE} (h:X[t]?= some x):ve X t=x.given:=by
 unfold ve;rw [h]
def Uf (X:List eE) (t:Nat) (x:eE):(X.mapIdx (qm 1)).set t (qm 1 t x)=(X.set t x).mapIdx (qm 1):=by
 refine pq fun i=>?_
 rw [pw,gj,gj,pw,List.length_mapIdx];by_cases h:t=i
 ·subst h;rw [dU rfl,dU rfl];split <;> rfl
 ·rw [dR h,dR h]
def Um {X:List eE} {t:Nat} {x:eE} {o:eK} {w w':Wor} {m':u3} {e:u6} (hx:X[t]?= some x) (ho:x.ops[x.done]?= some o) (hX:X.length<=8) (hgn:x.given.length<=1000) (hdn:x.done<=1000)
  (hp:to 47 [] [.agg (zJ w),.agg (zD (yr x t o))] (.u7 [.agg (zJ w'),.agg (zD m'),.agg (zP e)]) []):
  to 19 (mG 1 X) [.ref 0 [] 48 t 0,.agg (zJ w),I t] (.u7 [.agg (zJ w'),.agg (zP (w9 e x))]) (mG 1 (X.set t (jE x m'))):=by
 have htl:=(dP.1 hx).1;have ga:=Ua hx;have h8:t < 8:=aw
 have res:mG 1 (X.set t (jE x m'))=lH X ⟨1,0,48,(X.mapIdx (qm 1)).set t (qm 1 t (jE x m')),0⟩ (nq (jE x m').given) [] t:=by
  have g:∀ i,u5 (X.set t (jE x m')) i=if t=i then nq (jE x m').given else u5 X i:=fun i=>by
   split
   ·rename_i e;subst e;show u5 _ t=_;unfold u5;rw [PN _ htl]
   ·rename_i e;unfold u5;rw [SA _ e]
  rw [Uf];unfold mG;rw [g 0,g 1,g 2,g 3,g 4,g 5,g 6,g 7];rcases eight h8 with rfl | rfl | rfl | rfl | rfl | rfl | rfl | rfl <;> rfl
 rw [TF X h8,res,ga];obtain ⟨ops,dn,on,m,given⟩:=x;cases on
 ·exact Xm h8 X ops dn m given w w' _ m' e o hx hX hgn hdn ho (Beg.Fb t o given (by have h:given.length<=1000:=hgn;omega)) hp
 ·exact Xn h8 X ops dn m given w w' m' e hx hX hgn hdn hp
end Go.Ply
namespace Go.Wor
open Go.Ab Go.Proofs Tryz Go.Gat Go.Nam Go.Hos Go.Con Go.Sna Go.Pla Go.Ply
open Go.Hy hiding encI
structure kE (s:eP):Prop where
 wk:EL s
 cfg:nH s.first=true->xD s.first
 HN:∀ l ∈ s.threads,∀ o ∈ l,wb o.config
 names:∀ x ∈ yd s,x.length<=reachBytes
 ops:∀ l ∈ s.threads,∀ o ∈ l,o.host.length < 1000000000000∧o.path.length < 1000000000000∧i64 o.d0∧i64 o.d1∧(o.kind=3->xD o.config)
 zS:∀ p ∈ s.zS,i64 p
def fH (s:eP):fJ:=((qp s).1,s.threads.map wG,[])
def xe (s:eP):fJ:=fD (fH s) s.zS s.zS.length
def z7 (s:eP):List u6 × Wor × Int:=if (qp s).2=0 then ((xe s).2.2,(xe s).1,0) else ([],⟨0,0,0,[],[],[],[],[]⟩,(qp s).2)
def jT {s:eP} (h:(qp s).2=0):fY s=true∧ir (jz s.first).1 (yd s) s.threads.length=((qp s).1,0):=by
 unfold qp at h ⊢;split at h
 ·rename_i q;rw [dU q];exact ⟨q,by rw [<- h]⟩
 ·exact absurd (show (1:Int)=0 from h) ar
def R9 {s:eP} (h:fY s=true):(yd s).length<=600:=by
 obtain ⟨p1,p2,p3,p4,p5,p6⟩:=xI h;have a:=DF [] (kY p1)
 have b:=B4 kF 64 s.threads (wc [] s.first) fun l hl o=>by
  have hl2:=(p5 l hl).1;exact FK o hl2
 have c:yd s=s.threads.foldl kF (wc [] s.first):=rfl;rw [c];simp at a;omega
def AU {s:eP} (ok:kE s) (h:(qp s).2=0):GI 600 0 (fH s).1 (fH s).2.1:=by
 obtain ⟨q,hn⟩:=jT h;obtain ⟨p1,p2,p3,p4,p5,p6⟩:=xI q
 exact VM hn (wY (ok.cfg p1)) (R9 q) ar ok.names rfl fun l hl o ho=>by
  have a:=ok.ops l hl o ho;exact ⟨(p5 l hl).2 o ho,a.1,a.2.1,a.2.2.1,a.2.2.2.1,a.2.2.2.2⟩
def Bw {s:eP} (ok:kE s) (h:(qp s).2=0) (k:Nat) (hk:k<=s.zS.length):GI (600+k) k (fD (fH s) s.zS k).1 (fD (fH s) s.zS k).2.1:=by
 obtain ⟨q,_⟩:=jT h;obtain ⟨_,_,_,p4,_,_⟩:=xI q;have:=Bl (AU ok h) s.zS k hk aw aw
 rwa [gz] at this
def Ld {N K:Nat} {w:Wor} {X:List eE} (gi:GI N K w X) {t:Nat} {x:eE} (hx:X[t]?= some x):x.given.length=x.done∧x.done<=x.ops.length:=by
 obtain ⟨os,hl,hti,_⟩:=gi.own;obtain ⟨o,ho⟩:∃ o,os[t]?= some o:=⟨_,dQ (by have:=(dP.1 hx).1;omega)⟩;have ti:=hti t x o hx ho;exact ⟨ti.given,ti.le⟩
def Vc (x:eE) (m:u3):(jE x m).ops=x.ops:=by unfold jE;split <;> rfl
def GV {s:eP} (ok:kE s) (h:(qp s).2=0):∀ k,k<=s.zS.length->(fD (fH s) s.zS k).2.1.map (·.ops)=s.threads
 | 0,_=>by
  show (s.threads.map wG).map (·.ops)=s.threads;rw [pX];exact List.map_id _
 | k+1,hk=>by
  have ih:=GV ok h k aw;have gi:=Bw ok h k aw;obtain ⟨q,_⟩:=jT h;obtain ⟨_,_,_,p4,_,_⟩:=xI q;rw [we (dQ aw)];rcases yG gi s.zS[k] aw aw with ⟨_,e⟩ | ⟨t,x,o,r,_,hx,_,_,_,_,_,e,_⟩
  ·rw [e];exact ih
  ·rw [e];show (List.set _ t (jE x r.2.1)).map (·.ops)=_;rw [pL,Vc,<- ih];exact yI _ _ (by rw [dT,hx];rfl)
def vH (s:eP) (ok:kE s):to 7 [] [.agg (qi s)] (.u7 [fZ (z7 s).1,.agg (zJ (z7 s).2.1),I (z7 s).2.2]) []:=by
 have hb:=Ij s ok.wk ok.cfg ok.HN fun _ x hx=>by have:=ok.names x hx;unfold reachBytes at this;omega
 have w:=S8 s (qp s) (fun k=>fD (fH s) s.zS k) hb (fun h=>by
   obtain ⟨q,_⟩:=jT h;obtain ⟨_,_,p3,p4,_,p6⟩:=xI q;exact ⟨p3,p4,fun p hp=>⟨p6 p hp,ok.zS p hp⟩⟩) rfl fun h k p hp=>by
  have hk:=(dP.1 hp).1;have gi:=Bw ok h k aw;have ao:=GV ok h k aw;obtain ⟨q,_⟩:=jT h;obtain ⟨_,_,p3,p4,p5,_⟩:=xI q;refine ⟨?_⟩;(try dsimp only)
  rw [we hp];rcases yG gi p aw aw with ⟨ha,e⟩ | ⟨t,x,o,r,ht,hx,ho,hsu,htm,hst,_,e,_⟩
  ·exact .inl ⟨ha,e⟩
  ·right
   have tk:=Ld gi hx;have xo:x.ops ∈ s.threads:=by rw [<- ao];exact gL.2 ⟨x,dS hx,rfl⟩
   have xl:=(p5 x.ops xo).1
   have hX:(fD (fH s) s.zS k).2.1.length<=8:=by
    have:=pS List.length ao;rw [dV] at this;omega
   rw [e];exact ⟨t,x,w9 r.2.2 x,ht,hx,by show (List.set _ _ _).length=_;rw [rF],rfl,Um hx ho hX aw aw (QP hsu gi.st.ty htm aw hst)⟩
 unfold z7;by_cases h:(qp s).2=0
 ·rw [dU h,dU h] at w;rw [dU h];rw [h] at w;exact w
 ·rw [dR h,dR h] at w;rw [dR h];exact w
end Go.Wor
namespace Go.Run
open Go.Ab Go.Proofs Tryz Go.Hy Go.Gat Go.Nam Go.Hos Go.Con
def ns (o:eK):Bool:=iv o.config || (decide (100 < o.host.length) || decide (100 < o.path.length))
def nW (l:List eK):Bool:=decide (40 < l.length) || l.any ns
def lX (s:eP):Bool:=iv s.first || decide (20 < s.threads.length) || decide (5000 < s.zS.length) || s.threads.any nW
structure H5 (s:eP):Prop where
 first:s.first.zd.length < 4000000000000000000∧s.first.zR.length < 4000000000000000000∧s.first.zk.length < 4000000000000000000
 threads:s.threads.length < 4000000000000000000
 ops:∀ l ∈ s.threads,l.length < 4000000000000000000
 cfg:∀ l ∈ s.threads,∀ o ∈ l,o.config.zd.length < 4000000000000000000∧o.config.zR.length < 4000000000000000000∧o.config.zk.length < 4000000000000000000
def Fk (s:eP) (hs:H5 s):to 8 [] [.agg (qi s)] (Bo (lX s)) []:=by
 have m1:(s.threads.map yC).length=s.threads.length:=dV ..;have m2:(s.zS.map Go.Hy.encI).length=s.zS.length:=dV ..;have hf:=hs.first;have ht:=hs.threads;refine ab func8 ?_;refine ah (Kz s.first hf.1 hf.2.1 hf.2.2) ?_;(refine ⟨fun a1=>?_,fun a1=>?_⟩);(focus ((have e:lX s=true:=(by (try simp at a1);simp [lX];first | omega | (rw [a1];simp)));(rw [e]);refine dd ?_;refine td ?_;exact uI));refine dd ?_
 rw [m1];(refine ⟨fun a2=>?_,fun a2=>?_⟩);(focus ((have e:lX s=true:=(by (try simp at a2);simp [lX];first | omega | (rw [a2];simp)));(rw [e]);refine dd ?_;refine td ?_;exact uI));refine dd ?_
 rw [m2];(refine ⟨fun a3=>?_,fun a3=>?_⟩);(focus ((have e:lX s=true:=(by (try simp at a3);simp [lX];first | omega | (rw [a3];simp)));(rw [e]);refine dd ?_;refine td ?_;exact uI));refine dd ?_
 refine td ?_
 have eW:lX s=s.threads.any nW:=by
  unfold lX;simp at a2 a3;rw [a1,pP aw,pP aw]
  rfl
 refine zW.seq s.threads.length (fun k=>(.za::.ref 0 [] 5 0 0::Bo false::I k:: hZ (hZ (hZ (hZ (hZ (hZ (hZ (hZ ([])))))))))) (fun k=>[⟨1,30,5,[qi s],0⟩]) (fun k=>∀ j,(h:j < s.threads.length)->j < k->nW s.threads[j]=false) ?_ aj (fun k hk hr=>?_) (fun hr=>?_)
 ·exact cC
 ·obtain ⟨v,hx⟩:∃ v,v=s.threads[k]:=⟨_,rfl⟩;have hv:v ∈ s.threads:=by rw [hx];exact dL
  have hg:(s.threads.map yC)[k]?= some (yC v):=by rw [dT,dQ hk,hx];rfl
  have mg:(v.map vt).length=v.length:=dV ..
  have bad:nW v=true->lX s=true:=fun h=>by
   rw [eW];exact pQ.2 ⟨v,hv,h⟩
  have bg:=hs.ops v hv;conv=>whnf
  rw [m1];refine uF ?_;(refine tf hg ?_)
  rw [mg];refine ⟨fun c2=>?_,fun c2=>?_⟩
  ·rw [bad (by unfold nW;rw [rC (by simp at c2;omega)];rfl)];refine dd ?_;(refine .inr ⟨aj,uH ?_⟩)
   exact uI
  refine dd ?_;refine zW.seq v.length (fun j=>(.za::.ref 0 [] 5 0 0::Bo false::I k::I j:: .za::.za::.za::.za::.za::.za::.za::hZ (hZ (hZ (hZ (hZ (hZ (hZ ([]))))))))) (fun j=>[⟨1,30,5,[qi s],0⟩]) (fun j=>∀ i,(h:i < v.length)->i < j->ns v[i]=false) ?_ aj (fun j hj hrj=>?_) (fun hrj=>?_)
  ·exact cC
  ·obtain ⟨o,hxg⟩:∃ o,o=v[j]:=⟨_,rfl⟩;have ho:o ∈ v:=by rw [hxg];exact gS hj
   have hgg:(v.map vt)[j]?= some (vt o):=by rw [dT,dQ hj,hxg];rfl
   have hc:=hs.cfg v hv o ho
   have badg:ns o=true->lX s=true:=fun h=>bad (by
    have:v.any ns=true:=pQ.2 ⟨o,ho,h⟩;unfold nW;rw [this,sN])
   conv=>whnf
   (refine tf hg ?_)
   rw [mg];refine uF ?_;(refine tf hg ?_)
   (refine tf hgg ?_)
   refine ah (Kz o.config hc.1 hc.2.1 hc.2.2) ?_;refine ⟨fun c3=>?_,fun c3=>?_⟩
   ·rw [badg (by unfold ns;rw [c3];rfl)];refine dd ?_;refine td ?_
    (refine .inr ⟨aj,uH ?_⟩)
    (try (refine .inr ⟨aj,uH ?_⟩))
    exact uI
   refine dd ?_;refine ⟨fun c4=>?_,fun c4=>?_⟩
   ·rw [badg (by unfold ns;rw [c3,rC (by simp at c4;omega)];rfl)];refine dd ?_;refine td ?_
    (refine .inr ⟨aj,uH ?_⟩)
    (try (refine .inr ⟨aj,uH ?_⟩))
    exact uI
   refine dd ?_;refine ⟨fun c5=>?_,fun c5=>?_⟩
   ·rw [badg (by unfold ns;rw [c3,rC (p:=100 < o.path.length) (by simp at c5;omega)];simp)];refine dd ?_;refine td ?_
    (refine .inr ⟨aj,uH ?_⟩)
    (try (refine .inr ⟨aj,uH ?_⟩))
    exact uI
   refine dd ?_;refine td ?_
   refine .inl ⟨rfl,?_,fun i hi hij=>?_⟩
   ·exact dg
   ·by_cases e:i=j
    ·subst e;rw [<- hxg];unfold ns;rw [c3,pP (by simp at c4;omega),pP (by simp at c5;omega)]
     rfl
    ·exact hrj i hi aw
  ·have h0:v.any ns=false:=by
    rw [gU];intro x hx;obtain ⟨i,hi,rfl⟩:=pt.1 hx;simp [hrj i hi hi]
   have no:nW v=false:=by unfold nW;rw [h0,pP (by simp at c2;omega)];rfl
   conv=>whnf
   (refine tf hg ?_)
   rw [mg];refine ⟨fun h=>absurd h aj,fun _=>dd ?_⟩;refine ⟨aj,uH ?_⟩;refine .inl ⟨rfl,?_,fun i hi hij=>?_⟩
   ·exact dg
   ·by_cases e:i=k
    ·subst e;rw [<- hx];exact no
    ·exact hr i hi aw
 ·have h0:s.threads.any nW=false:=by
   rw [gU];intro x hx;obtain ⟨i,hi,rfl⟩:=pt.1 hx;simp [hr i hi hi]
  rw [eW,h0];conv=>whnf
  rw [m1];exact c8
def Ps (l:List u6) (hl:l.length < 4000000000000000000):to 13 [] [fZ l,fZ l] (Bo true) []:=by
 have m1:(l.map zP).length=l.length:=dV ..;refine ab func13 ?_;refine ⟨fun h=>absurd h aj,fun _=>dd ?_⟩;refine zW.seq l.length (fun k=>((fZ l)::(fZ l)::.za::.za::Bo false::I k::hZ (hZ ([.za,.za,.za,.za])))) (fun k=>[]) (fun _=>True) ?_ trivial (fun k hk _=>?_) (fun _=>?_)
 ·exact cC
 ·have hg:(l.map zP)[k]?= some (zP l[k]):=by rw [dT,dQ hk];rfl
  conv=>whnf
  rw [m1];refine uF ?_;refine uE ?_;(refine tf hg ?_)
  (refine tf hg ?_)
  refine ⟨au,dd ?_⟩;refine ⟨fun h=>absurd h aj,fun _=>dd ?_⟩;exact dI
 ·conv=>whnf
  rw [m1];exact c8
end Go.Run
namespace Go.Run
open Go.Ab Go.Proofs Tryz Go.Gat Go.Nam Go.Hos Go.Con Go.Sna Go.Pla Go.Ply Go.Wor
open Go.Hy hiding encI
abbrev ic:ec:=[105,110]
abbrev oH:fb:=⟨[ic],[⟨ic,[42],[47],[97]⟩],[⟨[97],1,1,[true]⟩]⟩
abbrev m7:eK:=⟨1,ic,[120],[47],0,0,0,⟨[],[],[]⟩⟩
abbrev vm (k:Nat):List Int:=(List.range k).map fun i=>((i / 10:Nat):Int)
abbrev W8 (k:Nat):eP:=⟨oH,[[m7,⟨2,[],[],[],0,0,0,⟨[],[],[]⟩⟩,m7],[⟨4,ic,[],[],0,0,0,⟨[],[],[]⟩⟩]],vm k⟩
abbrev xd:eP:=W8 60
def BN (k:Int) (l h p:ec):List C:=[I k,Tx l,Tx h,Tx p,I 0,I 0,I 0,.u1 1 0 [],.u1 1 0 [],.u1 1 0 []]
def EE:List C:=[.u1 1 1 [[Tx ic]],.u1 1 4 [[Tx ic,Tx [42],Tx [47],Tx [97]]],.u1 1 4 [[Tx [97],I 1,I 1,.u1 1 1 [[Bo true]]]]]
def BF (p:C):List C:=EE++[.u1 1 1 [[.u1 1 10 [BN 1 ic [120] [47],BN 2 [] [] [],BN 1 ic [120] [47]]],[.u1 1 10 [BN 4 ic [] []]]],p]
def PL (k:Nat):vm (k+1)=vm k++[((k / 10:Nat):Int)]:=by
 unfold vm;rw [uw,pb]
 rfl
def Fa:to 21 [] [] (.agg (BF (lI (vm 60)))) []:=by
 refine ab func21 ?_;refine zW.seq 60 (fun k=>(.ref 0 [] 5 0 0::.za::.za::.ref 3 [] 5 0 0::I k::hZ (hZ (hZ ([.za,.za,.za,.za,.za]))))) (fun k=>[⟨1,30,5,[[.u1 1 0 [],.u1 1 0 [],.u1 1 0 [],.u1 1 0 [],.u1 1 0 []]],0⟩,⟨1,26,3,[EE],0⟩,⟨1,67,10,[BN 1 ic [120] [47]],0⟩,⟨1,30,5,[BF (.gl 4 1 ((vm k).map Go.Hy.encI))],0⟩,⟨4,3,1,(vm k).map Go.Hy.encI,0⟩]) (fun _=>True) ?_ trivial (fun k hk _=>?_) (fun _=>?_)
 ·exact (zp.nK 3 4 3 1 rfl rfl (.inl rfl) rfl rfl).trans (cC)
 ·have mp:((vm k).map Go.Hy.encI).length=k:=by simp
  conv=>whnf
  refine uF ?_;refine ⟨rfl,.inr rfl,by rw [mp];simp [maxLen];omega,by rw [mp];show _ * 8<=_;simp;omega,dd ?_⟩;refine .inl ⟨rfl,?_,trivial⟩
  have e:IntKind.i64.wrap ((k:Int).tdiv 10)=((k / 10:Nat):Int):=by
   have:(k:Int).tdiv 10=((k / 10:Nat):Int):=rfl;rw [this,jc aw aw]
  have e2:(vm k).map Go.Hy.encI++[[I ((k / 10:Nat):Int)]]=(vm (k+1)).map Go.Hy.encI:=by rw [PL,pb];rfl
  rw [zu aw,e,e2];exact cC
 ·refine uD ?_;exact uI
def Ue {n:Nat} {w w':Wor} {m m':u3} {t:Int} {o:eK} (hb:to 46 [] [I t,.agg (vt o),lA []] (.agg (zD m)) []) (hg:oF n w m w' m') (hn:n<=3000):
  to 22 [] [.agg (zJ w),I t,.agg (vt o),lA []] (.u7 [.agg (zJ w'),.agg (xB m'.answer),I n]) []:=by
 refine ab func22 ?_;refine ah hb ?_;refine zW.inv (fun i t1 H1=>∃ (k:Nat) (wk:Wor) (mk:u3),k+i=n∧oF i wk mk w' m'∧t1=(.za::.za::.za::.za::.ref 0 [] 8 0 0::.za::.ref 1 [] 10 0 0::.za::.ref 2 [] 8 0 0::.ref 3 [] 13 0 0::I 0::.ref 4 [] 44 0 0::.ref 5 [] 8 0 0::hZ (.za::I k::hZ (hZ (hZ ([])))))∧H1=[⟨1,37,8,[zJ (w)],0⟩,⟨1,67,10,[vt o],0⟩,⟨1,37,8,[[I 0,I 0,I 0,.u1 1 0 [],.u1 1 0 [],.u1 1 0 [],.u1 1 0 [],.u1 1 0 []]],0⟩,⟨1,46,13,[xB ⟨0,0,0,0,0,0,0,⟨0,0,0,0,0,0⟩⟩],0⟩,⟨1,69,44,[zD (mk)],0⟩,⟨1,37,8,[zJ (wk)],0⟩]) n ?_ ?_
 ·exact ⟨_,_,cC,0,w,m,aj,hg,rfl,rfl⟩
 rintro i _ _ ⟨k,wk,mk,hk,hg,rfl,rfl⟩;have hi:1<=i:=by cases hg <;> omega
 conv=>whnf
 refine uF ?_;cases hg with
 | last h he hd=>
  refine ah h ?_;refine ⟨fun h=>absurd h (aq he),fun _=>dd ?_⟩;refine .inl ⟨⟨false,[1],[7],[]⟩,au,uH ?_⟩;refine tc ?_
  refine ⟨fun _=>dd ?_,fun h=>absurd ((hd).symm.trans h:true=false) ar⟩;refine .inl ⟨⟨false,[2],[4],[]⟩,au,uH ?_⟩;refine tc ?_
  refine .inr ⟨aj,uH ?_⟩;rw [zu aw,show k+1=n from aw];exact uI
 | more h he hd hg=>
  refine ah h ?_;refine ⟨fun h=>absurd h (aq he),fun _=>dd ?_⟩;refine .inl ⟨⟨false,[1],[7],[]⟩,au,uH ?_⟩;refine tc ?_
  refine ⟨fun h=>absurd ((hd).symm.trans h:false=true) ar,fun _=>dd ?_⟩;rw [zu aw];exact .inl ⟨rfl,_,_,_,Nat.lt_succ_self _,cE 6,k+1,_,_,aw,hg,rfl,rfl⟩
def Ro {w:Wor} {m m2:u3} {w2:Wor} {e:u6} {t:Int} {o:eK} (hb:to 46 [] [I t,.agg (vt o),lA []] (.agg (zD m)) []) (h:to 47 [] [Sw w,Sm m] (Sr w2 m2 e) []) (he:e.access=0):
  to 22 [] [.agg (zJ w),I t,.agg (vt o),lA []] (.u7 [.agg (zJ w),.agg (xB ⟨0,0,0,0,0,0,0,⟨0,0,0,0,0,0⟩⟩),I 0]) []:=by
 refine ab func22 ?_;refine ah hb ?_;refine nn.AM 1 (LoopN.step ?_);conv=>whnf
 refine td ?_
 refine ah h ?_;refine ⟨fun _=>dd ?_,fun z=>absurd z (by simp [he])⟩;(refine .inr ⟨aj,uH ?_⟩)
 exact uI
def Pd (w:Wor) (m:u3) (ok:fm w) (hl:i64 m.listen) (hpc:m.pc=0) (hs:z6 w m=false):to 98 [] [Cw w,Cm m] (.u7 [Cw w,Cm m,Ce Ply.BC]) []:=by
 refine ab func98 ?_;(repeat (first | refine uA ?_ | refine uB ?_))
 refine ah (zO w m ok hl) ?_;refine ⟨fun h=>absurd ((hs).symm.trans h:false=true) ar,fun _=>dd ?_⟩;refine td ?_
 refine .inl ⟨⟨false,[1],[1],[]⟩,au,uH ?_⟩;refine tc ?_
 exact uI
abbrev oI:eP:=⟨⟨[],[],[]⟩,[],[]⟩
abbrev Aj (c:fb):eK:=⟨3,[],[],[],0,0,0,c⟩
def Po {l:List u6} {w b x zw:Wor} {c0 c1 c2 c3:Cal} (hP:to 7 [] [.agg (BF (lI (vm 60)))] (.u7 [fZ l,.agg (zJ w),I 0]) []) (hl:l.length=30) (hC:to 11 [] [fZ l] (.u7 [oB [c0,c1,c2,c3],I 0]) [])
  (hE:to 7 [] [.agg [.u1 1 0 [],.u1 1 0 [],.u1 1 0 [],.u1 1 0 [],.u1 1 0 []]] (.u7 [fZ [],.agg (zJ zw),I 1]) []) (hB:to 16 [] [.agg (BF (lI (vm 60)))] (.u7 [.agg (zJ b),I 0]) [])
  (hA:to 22 [] [.agg (zJ b),I 0,.agg ([I 3,Tx [],Tx [],Tx [],I 0,I 0,I 0]++EE),.u1 1 0 []] (.u7 [.agg (zJ x),.agg (xB ⟨8,1,0,0,0,0,0,⟨0,0,0,0,0,0⟩⟩),I (3:Nat)]) [])
  (hN:to 22 [] [.agg (zJ b),I 9,.agg [I 3,Tx [],Tx [],Tx [],I 0,I 0,I 0,.u1 1 0 [],.u1 1 0 [],.u1 1 0 []],.u1 1 0 []] (.u7 [.agg (zJ b),.agg (xB ⟨0,0,0,0,0,0,0,⟨0,0,0,0,0,0⟩⟩),I 0]) [])
  (hH:to 23 [] [.agg (zJ w)] (I (0:Nat)) []) (k0:c0.answer.kind=1) (k1:c1.answer.kind=10) (t1:c1.zg=1) (k2:c2.answer.kind=6) (k3:c3.answer.kind=5) (hw:w.zd=[⟨ic,true,0,false⟩]) (hb:b.pins.length=2) (hx:x.current=1):
  to 9 [] [] (Bo true) []:=by
 have ml:(l.map zP).length=30:=(dV ..).trans hl;obtain ⟨w1,w2,w3,w4,w5,w6,w7,w8⟩:=w;have hw:w6=[⟨ic,true,0,false⟩]:=hw;subst hw;obtain ⟨x1,x2,x3,x4,x5,x6,x7,x8⟩:=x;have hx:x2=1:=hx;subst hx;have mb:(b.pins.map Go.Hy.encI).length=2:=(dV ..).trans hb;obtain ⟨d1,d2,d3,d4,d5,⟨a1,a2,a3,a4,a5,a6,a7,a8⟩⟩:=c0;obtain ⟨f1,f2,f3,f4,f5,⟨g1,g2,g3,g4,g5,g6,g7,g8⟩⟩:=c1;obtain ⟨h1,h2,h3,h4,h5,⟨i1,i2,i3,i4,i5,i6,i7,i8⟩⟩:=c2;obtain ⟨j1,j2,j3,j4,j5,⟨p1,p2,p3,p4,p5,p6,p7,p8⟩⟩:=c3;have k0:a1=1:=k0;have k1:g1=10:=k1;have t1:f1=1:=t1;have k2:i1=6:=k2;have k3:p1=5:=k3;subst k0 k1 t1 k2 k3;refine ab func9 ?_;refine ah Fa ?_;refine ah hP ?_;refine ah hC ?_;refine ah hE ?_;refine ah Fa ?_;refine ah hB ?_;refine .inr ⟨⟨[0,1,4],[2],false⟩,au,fun h=>absurd h ar,fun t1 H1=>(t1=(.za::fZ l:: .ref 0 [] 8 0 0::I 0::oB [⟨d1,d2,d3,d4,d5,⟨1,a2,a3,a4,a5,a6,a7,a8⟩⟩,⟨1,f2,f3,f4,f5,⟨10,g2,g3,g4,g5,g6,g7,g8⟩⟩,⟨h1,h2,h3,h4,h5,⟨6,i2,i3,i4,i5,i6,i7,i8⟩⟩,⟨j1,j2,j3,j4,j5,⟨5,p2,p3,p4,p5,p6,p7,p8⟩⟩]::I 0:: .za::.za::I 1:: .ref 2 [] 8 0 0::I 0:: .ref 3 [] 8 0 0:: .ref 4 [] 13 0 0::I (3:Nat):: .za::.za::hZ (hZ (hZ (hZ (hZ (hZ (hZ (hZ (hZ (hZ (hZ (hZ (hZ (hZ (hZ (hZ (hZ (hZ (hZ ([]))))))))))))))))))))∧H1=[⟨1,37,8,[zJ ⟨w1,w2,w3,w4,w5,[⟨ic,true,0,false⟩],w7,w8⟩],0⟩,⟨1,37,8,[zJ (zw)],0⟩,⟨1,37,8,[zJ (b)],0⟩,⟨1,37,8,[zJ ⟨x1,1,x3,x4,x5,x6,x7,x8⟩],0⟩,⟨1,46,13,[xB (⟨8,1,0,0,0,0,0,⟨0,0,0,0,0,0⟩⟩)],0⟩])∨(t1=(.za::fZ l:: .ref 0 [] 8 0 0::I 0::oB [⟨d1,d2,d3,d4,d5,⟨1,a2,a3,a4,a5,a6,a7,a8⟩⟩,⟨1,f2,f3,f4,f5,⟨10,g2,g3,g4,g5,g6,g7,g8⟩⟩,⟨h1,h2,h3,h4,h5,⟨6,i2,i3,i4,i5,i6,i7,i8⟩⟩,⟨j1,j2,j3,j4,j5,⟨5,p2,p3,p4,p5,p6,p7,p8⟩⟩]::I 0:: .za::.za::I 1:: .ref 2 [] 8 0 0::I 0:: .ref 4 [] 8 0 0:: .ref 3 [] 13 0 0::I (3:Nat):: .za::.za::hZ (hZ (hZ (hZ (hZ (hZ (hZ (hZ (hZ (hZ (hZ (hZ (hZ (hZ (hZ (hZ (hZ (hZ (hZ ([]))))))))))))))))))))∧H1=[⟨1,37,8,[zJ ⟨w1,w2,w3,w4,w5,[⟨ic,true,0,false⟩],w7,w8⟩],0⟩,⟨1,37,8,[zJ (zw)],0⟩,⟨1,37,8,[zJ (b)],0⟩,⟨1,46,13,[xB (⟨8,1,0,0,0,0,0,⟨0,0,0,0,0,0⟩⟩)],0⟩,⟨1,37,8,[zJ ⟨x1,1,x3,x4,x5,x6,x7,x8⟩],0⟩]),?_,?_⟩
 ·conv=>whnf
  repeat' (first | (exact trivial) | (refine ⟨rfl,uH ?_⟩) | (refine ⟨_,fun H2 _=>Fa.frame rfl H2,uH ?_⟩) | (refine ⟨_,fun H2 _=>(show zb _ _ _ _ _ _ from hA).frame rfl H2,uH ?_⟩) | (exact ⟨_,_,cC,.inl ⟨rfl,rfl⟩⟩) | (exact ⟨_,_,cC,.inr ⟨rfl,rfl⟩⟩) | (refine And.intro ?_ ?_ <;> (conv=>whnf)))
 rintro _ _ (⟨rfl,rfl⟩ | ⟨rfl,rfl⟩)
 ·conv=>whnf
  refine ah hN ?_;(repeat (first | ((refine ya (dd ?_))) | ((refine yb (dd ?_))) | (rw [ml]) | (rw [mb]) | (refine ⟨ar,_,rfl,dd ?_⟩) | (refine ah hH ?_) | (refine ⟨au,dd ?_⟩)))
  exact uI
 ·conv=>whnf
  refine ah hN ?_;(repeat (first | ((refine ya (dd ?_))) | ((refine yb (dd ?_))) | (rw [ml]) | (rw [mb]) | (refine ⟨ar,_,rfl,dd ?_⟩) | (refine ah hH ?_) | (refine ⟨au,dd ?_⟩)))
  exact uI
def oP:kE xd:=by
 refine ⟨⟨⟨⟨ar,ar⟩,⟨ar,ar⟩,⟨ar,ar⟩⟩,ar,ar,aj⟩,fun _=>⟨⟨ar,ar⟩,⟨ar,ar⟩,⟨ar,ar⟩⟩,?_,?_,?_,?_⟩
 ·intro l hl o ho
  have:o.config=⟨[],[],[]⟩:=by
   have hl:l=[m7,⟨2,[],[],[],0,0,0,⟨[],[],[]⟩⟩,m7]∨l=[⟨4,ic,[],[],0,0,0,⟨[],[],[]⟩⟩]:=aq hl
   rcases hl with rfl | rfl
   ·have ho:o=m7∨o=⟨2,[],[],[],0,0,0,⟨[],[],[]⟩⟩∨o=m7:=by simpa using ho
    rcases ho with rfl | rfl | rfl <;> rfl
   ·have ho:o=⟨4,ic,[],[],0,0,0,⟨[],[],[]⟩⟩:=by simpa using ho
    rw [ho]
  rw [this];exact ⟨⟨ar,ar⟩,⟨ar,ar⟩,⟨ar,ar⟩⟩
 ·intro x hx;have e:yd xd=[ic]:=by kernel_rfl
  rw [e] at hx;rw [gM.1 hx]
  decide
 ·intro l hl o ho;have hl:l=[m7,⟨2,[],[],[],0,0,0,⟨[],[],[]⟩⟩,m7]∨l=[⟨4,ic,[],[],0,0,0,⟨[],[],[]⟩⟩]:=by simpa using hl
  have k:o=m7∨o=⟨2,[],[],[],0,0,0,⟨[],[],[]⟩⟩∨o=⟨4,ic,[],[],0,0,0,⟨[],[],[]⟩⟩:=by
   rcases hl with rfl | rfl
   ·have ho:o=m7∨o=⟨2,[],[],[],0,0,0,⟨[],[],[]⟩⟩∨o=m7:=by simpa using ho
    rcases ho with rfl | rfl | rfl
    ·exact .inl rfl
    ·exact .inr (.inl rfl)
    ·exact .inl rfl
   ·have ho:o=⟨4,ic,[],[],0,0,0,⟨[],[],[]⟩⟩:=by simpa using ho
    exact .inr (.inr ho)
  rcases k with rfl | rfl | rfl
  ·exact ⟨ar,ar,ar,ar,fun h=>absurd h ar⟩
  ·exact ⟨ar,ar,ar,ar,fun h=>absurd h ar⟩
  ·exact ⟨ar,ar,ar,ar,fun h=>absurd h ar⟩
 ·intro p hp;obtain ⟨i,hi,rfl⟩:=gL.1 hp;have:=pN.1 hi;unfold i64;omega
def Nk:kE oI:=by
 refine ⟨⟨⟨⟨ar,ar⟩,⟨ar,ar⟩,⟨ar,ar⟩⟩,ar,ar,ar⟩,fun _=>⟨⟨ar,ar⟩,⟨ar,ar⟩,⟨ar,ar⟩⟩,fun l hl=>(by cases hl),?_,fun l hl=>(by cases hl),fun p hp=>(by cases hp)⟩;intro x hx;have e:yd oI=[]:=au
 rw [e] at hx;cases hx
end Go.Run
