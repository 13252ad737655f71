import Derived.Test.YtkbnjgogjccmfaaGreatT3
import Derived.Test.YtkbnjgogjccmfaaGreatT1
import Derived.Test.YtkbnjgogjccmfaaGreatT2
set_option linter.all false
set_option maxRecDepth 100000
set_option maxHeartbeats 4000000
namespace Go.Wor
open Go.Ab Go.Proofs Tryz Go.Gat Go.Nam Go.Hos Go.Con Go.Sna
open Go.Hy hiding encI
section
variable {N K:Nat} {w:Wor} {m:uw} {v:u3} {g:Gr} {e:En}
def JM (hat:fc w m v g e) (ow:∀ x,jY m x<=Has w x) {p:Nat} (h:ph m=p) (hp:p=2∨p=3):0<=m.slot∧m.slot < e.next.length∧m.slot ∉ (Slp.qz e).1:=by
 have:=B6 ow h (.slot m.version m.zi m.end_ m.slot) (by simp [qe,hp]);rw [FF hat] at this;unfold fG at this;split at this
 ·assumption
 ·omega
def TO (hat:fc w m v g e) (ow:∀ x,jY m x<=Has w x) {p:Nat} (h:ph m=p) (hp:p=3∨p=4):1<=e.zg:=by
 have:=B6 ow h (.act m.version m.zi m.end_) (by simp [qe,hp]);rw [LB hat] at this;omega
def Q5 (st:St N K w) (tg:Tg N w) (su:qF w m v g e) (tm:eU m) (lo:Eu w m v g e) (hk:m.op.kind=2) (hN:N<=100000000) (hK:K<=1099511627776) (ow:∀ x,jY m x<=Has w x):∃ r,yp w m v g e=some r∧Nc N K w m Eu HF r:=by
 obtain ⟨f1,f2,f3,f4,f5,f6,f7⟩:=vy st su;have st1:St (N+1) (K+1) w:=st.mono aw aw;have tg1:=tg.mono (pC N);have te:=Bc tg su.at_;have hs:=PU f1 f2;have pc:=lo.pc;unfold yp;rcases (by omega:m.pc=0∨m.pc=1∨m.pc=2∨m.pc=3∨m.pc=4∨m.pc=9) with p | p | p | p | p | p
 ·have l0:=lo.ec aw;rw [dQ p];exact zM rfl ⟨uW,st1,tg1,⟨tm.listen,f6.1,tm.link,tm.host,tm.path,tm.d0,tm.d1,tm.cfg,tm.iF⟩,rfl,rfl,jT.refl w _,qi w (Bg (p:=3) (fX su.done hk uM) (fX su.done hk uM) rfl rfl rfl rfl rfl),.inr ⟨v,g,e,uQ,⟨uL,fun _=>l0,fun _=>⟨gk _,hs⟩,uK⟩⟩⟩
 ·have l0:=lo.ec aw;have lt:=lo.tag (.inl p);obtain ⟨h0,h1,h2⟩:=JM su.at_ ow (p:=3) (fX su.done hk uM) (.inr rfl);have hw: -1<=zC m.word:=by show -1<=m.word % 4294967296 - 1;omega
  obtain ⟨b1,b2⟩:=Slp.RF (v:=zC m.word) f1 h0 h2;have hlen:(vg m e).next.length=e.next.length:=rA
  have hok:(vg m e).ok:=⟨f6.1,⟨fun x hx=>by
   rcases mem_set hx with hx | rfl
   ·exact f6.2.1.1 x hx
   ·unfold i64;omega,by rw [hlen];exact f6.2.1.2⟩,f6.2.2⟩
  have st2:=st1.iM su.at_ (e':=qt (vg m e) e.head e.zg) (tk:=g.zt) b2 hlen hok f7 aN;rw [dN aw,dQ p]
  exact zM rfl ⟨tI,st2,AT tg1 su.at_ (e':=qt (vg m e) e.head e.zg) ⟨by have:=te.1;show iL e<=_;omega,fun x hx=>by
    rcases mem_set hx with hx | rfl
    ·exact te.2 x hx
    ·exact ⟨hw,lt.2⟩⟩,uO,rfl,rfl,kS su.at_ (e':=qt (vg m e) e.head e.zg) ⟨hlen,gk _,fun _=>rfl,fun s s0 hso=>by
    show (e.next.set m.slot.toNat _)[s.toNat]?= _;rw [gJ];intro hc;have hc:s=m.slot:=aw
    rw [hc,jt (p:=3) (fX su.done hk uM)] at hso;simp [qe] at hso⟩,Le su.at_ (e':=qt (vg m e) e.head e.zg) hlen (by rw [show Slp.qz (qt (vg m e) e.head e.zg)=Slp.qz e from b1]) rfl (Bg (p:=3) (fX su.done hk uM) (fX su.done hk uM) rfl rfl rfl rfl rfl),
   .inr ⟨_,_,_,wA (e':=qt (vg m e) e.head e.zg) (m':={ m with pc:=2 }) su hlen st2.jq rfl su.done rfl rfl rfl rfl rfl rfl rfl rfl,⟨uL,fun _=>l0,fun _=>lt,fun _=>by
    show (e.next.set m.slot.toNat _)[m.slot.toNat]?= _;rw [dS aw]⟩⟩⟩
 ·have l0:=lo.ec aw;obtain ⟨h0,h1,h2⟩:=JM su.at_ ow (p:=3) (fX su.done hk uM) (.inr rfl);rw [dN aw,dN aw,dQ p];by_cases q:e.head=m.word
  ·rw [dQ q];have hx:=lo.next p;have hh:zC m.word=Slp.zC e:=by rw [<- q];rfl
   rw [hh] at hx;obtain ⟨c1,c2,c3⟩:=RB f6 f1 h0 h1 h2;rw [yD _ _ hx,q] at c1 c2 c3;have nt:=K7 (i:=m.slot) te.1 f6.1 hN aw aw;rw [q] at nt;have st2:=st1.iM su.at_ (e':=qt e (Slp.qV m.word m.slot) e.zg) (tk:=g.zt) c1 rfl c2 f7 aN;have ta:iL (qt e (Slp.qV m.word m.slot) e.zg)=iL e+1:=by unfold iL;rw [q];exact nt
   exact zM rfl ⟨aO,st2,AT tg1 su.at_ (e':=qt e (Slp.qV m.word m.slot) e.zg) ⟨by have:=te.1;omega,te.2⟩,uO,rfl,rfl,kS su.at_ (e':=qt e (Slp.qV m.word m.slot) e.zg) ⟨rfl,aw,fun h=>by omega,fun _ _ _=>rfl⟩,
    mX (p:=3) (p':=4) (fX su.done hk uM) (fX su.done hk uM) (U9 su.at_ (e':=qt e (Slp.qV m.word m.slot) e.zg) rfl h0 h1 c3 h2 rfl m.listen),.inr ⟨_,_,_,wA (e':=qt e (Slp.qV m.word m.slot) e.zg) (m':={ m with pc:=3 }) su rfl st2.jq rfl su.done rfl rfl rfl rfl rfl rfl rfl rfl,
    ⟨uL,fun _=>l0,uK,uK⟩⟩⟩
  ·rw [dN q];exact zM rfl ⟨aP,st1,tg1,uO,rfl,rfl,jT.refl w _,qi w (Bg (p:=3) (fX su.done hk uM) (fX su.done hk uM) rfl rfl rfl rfl rfl),.inr ⟨v,g,e,uQ,⟨uL,fun _=>l0,uK,uK⟩⟩⟩
 ·have l0:=lo.ec aw;have a1:=TO su.at_ ow (p:=4) (fX su.done hk uM) (.inr rfl);have hw:IntKind.i64.wrap (e.zg - 1)=e.zg - 1:=q9 aw aw;have st2:=st1.iM su.at_ (e':=qt e e.head (e.zg - 1)) (tk:=g.zt) (LD f1 _ aw) rfl ⟨f6.1,f6.2.1,by show i64 (e.zg - 1);unfold i64;omega⟩ f7 (by show e.zg - 1<=_;omega);rw [dN aw,dN aw,dN aw,dQ p,hw]
  exact zM rfl ⟨tM,st2,AT tg1 su.at_ (e':=qt e e.head (e.zg - 1)) (show oA (N+1) e from Bc tg1 su.at_),uO,rfl,rfl,kS su.at_ (e':=qt e e.head (e.zg - 1)) ⟨rfl,gk _,fun _=>rfl,fun _ _ _=>rfl⟩,
   mX (p:=4) (p':=1) (fX su.done hk uM) (fX su.done hk uM) (U6 su.at_ (e':=qt e e.head (e.zg - 1)) rfl rfl a1 rfl m.slot m.listen),.inr ⟨_,_,_,wA (e':=qt e e.head (e.zg - 1)) (m':={ m with pc:=4 }) su rfl st2.jq rfl su.done rfl rfl rfl rfl rfl rfl rfl rfl,
   ⟨uL,fun _=>l0,uK,uK⟩⟩⟩
 ·have l0:=lo.ec aw;have p1:ph m=1:=(fX su.done hk uM);obtain ⟨_,x,hx,x1⟩:=KK ow p1 ar;have ca:=st.fB.ec x (dO hx);have hw:IntKind.i64.wrap (x.zg - 1)=x.zg - 1:=q9 aw aw;have st2:=Gi st su hx (x.zg - 1) aw aw hK;unfold iy;rw [dN aw,dN aw,dN aw,dN aw,dQ p,dN aw,hx,dX];unfold oS;rw [hw];exact zM rfl ⟨tM,st2,tg1,uP,rfl,rfl,BV hx rfl id,mX (p:=1) (p':=0) p1 (yG rfl (fun h=>absurd (hk.symm.trans h.1) ar)) (K5 l0 hx x1 rfl _ _ _ _ _ _ _ _ _),.inl ⟨rfl,.inl ⟨rfl,p⟩⟩⟩
 ·rw [dN aw,dN aw,dN aw,dN aw,dN aw,dQ p];exact zM rfl ⟨uW,st1,tg1,uP,rfl,rfl,jT.refl w _,qi w (kf (fX su.done hk uM) (yG rfl (fun h=>absurd (hk.symm.trans h.1) ar))),.inl ⟨rfl,.inr ⟨rfl,p⟩⟩⟩
def TP (ow:∀ x,jY m x<=Has w x) (h:ph m=5):m.version≠w.current∧∀ r ∈ w.zr,r.version≠m.version:=by
 have:=B6 ow h (.eJ m.version) (by simp [qe]);simp only [Has] at this;split at this
 ·rename_i q;exact ⟨q.2.2.1,q.2.2.2⟩
 ·omega
def KB (w:Wor) (n:Int) {x:u3} (hx:∀ g ∈ x.zm,∀ e ∈ g.ends,e.zg=0∧∀ s,fG e s=0) (i j k:Int):
  wY { w with current := n, ze := w.ze ++ [x] } i j k = wY w i j k ∨ (wY w i j k = none ∧ ∃ e, wY { w with current := n, ze := w.ze ++ [x] } i j k = some e ∧ e.zg = 0 ∧ ∀ s, fG e s = 0) := by
 unfold wY wc;dsimp only;by_cases q:0<=i∧0<=j∧0<=k
 ·rw [dQ q,dQ q];by_cases h:i.toNat < w.ze.length
  ·rw [dT h];exact .inl rfl
  ·rw [gj aw,pw (show w.ze.length<=i.toNat by omega),sU];cases hv:[x][i.toNat - w.ze.length]? with
   | none=>exact .inl rfl
   | some y=>
    have:y=x:=gI.1 (dO hv);subst this;rw [gz];cases hg:y.zm[j.toNat]? with
    | none=>exact .inl rfl
    | some g=>
     rw [gz];cases he:g.ends[k.toNat]? with
     | none=>exact .inl rfl
     | some e=>exact .inr ⟨rfl,e,rfl,hx g (dO hg) e (dO he)⟩
 ·rw [dN q,dN q];exact .inl rfl
def QX (gw:jC w) {x:u3} (hx:∀ g ∈ x.zm,∀ e ∈ g.ends,e.zg=0∧∀ s,fG e s=0) (a b c d l a' b' c' l':Int):Mv w { w with current:=w.ze.length,ze:=w.ze++[x] } (qe 0 d a b c l) (qe 5 w.current a' b' c' l'):=fun y=>by
 have cu:=gw.current;rw [ku];cases y with
 | slot i j k s=>
  have:qe 5 w.current a' b' c' l' (.slot i j k s)=0:=by simp [qe]
  rw [this];rcases KB w w.ze.length hx i j k with q | ⟨q,e,q1,q2,q3⟩
  ·simp only [Has,q]
  ·simp only [Has,q,q1,q3]
 | act i j k=>
  have:qe 5 w.current a' b' c' l' (.act i j k)=0:=by simp [qe]
  rw [this];rcases KB w w.ze.length hx i j k with q | ⟨q,e,q1,q2,q3⟩
  ·simp only [Has,q]
  ·simp only [Has,q,q1,q2];rfl
 | ec i=>simp [Has,qe]
 | lock=>simp [Has,qe]
 | eJ i=>
  have la:∀ r ∈ w.zr,r.version≠w.current∧r.version < w.ze.length:=fun r hr=>by
   obtain ⟨i,hi⟩:=gm.1 hr;have:=AN gw hi;exact ⟨this.2.2.2.2,this.2.2.2.1⟩
  simp only [Has,qe,sT,gR,p9];by_cases q:w.current=i
  ·rw [dQ (show 0<=i∧_∧_∧_ from ⟨aw,aw,aw,fun r hr=>by have:=la r hr;omega⟩),dN aw,dQ q]
  ·rw [dN q];by_cases q2:0<=i∧i < w.ze.length∧i≠w.current∧∀ r ∈ w.zr,r.version≠i
   ·rw [dQ q2,dQ ⟨q2.1,aw,aw,q2.2.2.2⟩]
   ·rw [dN q2,dN (fun z=>q2 ⟨z.1,aw,aw,z.2.2.2⟩)]
def RL {x:eC} (h0:0<=x.version∧x.version < w.ze.length) (h1:x.version≠w.current) (h2:∀ r ∈ w.zr,r.version≠x.version) (a b c a' b' c' d' l l':Int):Mv w { w with zr:=w.zr++[x] } (qe 5 x.version a b c l) (qe 0 d' a' b' c' l'):=fun y=>by
 rw [ku];cases y with
 | slot i j k s=>simp [Has,qe];rfl
 | act i j k=>simp [Has,qe];rfl
 | ec i=>simp [Has,qe]
 | lock=>simp [Has,qe]
 | eJ i=>
  simp only [Has,qe,sT];by_cases q:x.version=i
  ·rw [dN (fun z=>z.2.2.2 x aj q),dQ q,dQ (q ▸ ⟨h0.1,h0.2,h1,h2⟩)]
  ·rw [dN q];by_cases q2:0<=i∧i < w.ze.length∧i≠w.current∧∀ r ∈ w.zr,r.version≠i
   ·rw [dQ q2,dQ ⟨q2.1,q2.2.1,q2.2.2.1,fun r hr=>by
     rcases gH.1 hr with hr | hr
     ·exact q2.2.2.2 r hr
     ·rw [gI.1 hr];exact q⟩]
   ·rw [dN q2,dN (fun z=>q2 ⟨z.1,z.2.1,z.2.2.1,fun r hr=>z.2.2.2 r (gH.2 (.inl hr))⟩)]
def UC {x:eM} (h:D7 x) (n:Nat):oA n (xE x)∧∀ s,fG (xE x) s=0:=by
 have hs:=h.xL;unfold xE;have:x.xL=1∨x.xL=2∨x.xL=3∨x.xL=4:=aw
 rcases this with e | e | e | e <;> rw [e]
 ·refine ⟨⟨aQ,ar⟩,fun s=>?_⟩;unfold fG;rw [dN];rintro ⟨h1,h2,h3⟩;have h2:s < 1:=h2;have:s=0:=by omega
  subst this;exact dJ
 ·refine ⟨⟨aQ,ar⟩,fun s=>?_⟩;unfold fG;rw [dN];rintro ⟨h1,h2,h3⟩;have h2:s < 2:=h2;have:s=0∨s=1:=by omega
  rcases this with rfl | rfl
  ·exact dJ
  ·exact dJ
 ·refine ⟨⟨aQ,ar⟩,fun s=>?_⟩;unfold fG;rw [dN];rintro ⟨h1,h2,h3⟩;have h2:s < 3:=h2;have:s=0∨s=1∨s=2:=by omega
  rcases this with rfl | rfl | rfl
  ·exact dJ
  ·exact dJ
  ·exact dJ
 ·refine ⟨⟨aQ,ar⟩,fun s=>?_⟩;unfold fG;rw [dN];rintro ⟨h1,h2,h3⟩;have h2:s < 4:=h2;have:s=0∨s=1∨s=2∨s=3:=by omega
  rcases this with rfl | rfl | rfl | rfl
  ·exact dJ
  ·exact dJ
  ·exact dJ
  ·exact dJ
def Ko {s:Sna} (h:vj s=true) (n:Nat):∀ g ∈ (qO s).1.zm,∀ e ∈ g.ends,oA n e∧e.zg=0∧∀ t,fG e t=0:=fun g hg e he=>by
 unfold qO at hg;rw [dQ h] at hg;obtain ⟨x,hx,rfl⟩:=gG.1 (show g ∈ s.zk.map im from hg);rw [gS (show e ∈ List.replicate x.zL.length (xE x) from he)];have gc:=(jx h).all x hx;have f:=vY gc;have q:=UC gc n;exact ⟨q.1,f.2.2.1,q.2⟩
def Tq (st:St N K w) (tg:Tg N w) (su:qF w m v g e) (tm:eU m) (lo:Ew w m v g e) (hk:m.op.kind=3) (ow:∀ x,jY m x<=Has w x):∃ r,y5 w m=some r∧Nc N K w m Ew o5 r:=by
 have gw:=st.jq;have st1:St (N+1) (K+1) w:=st.mono aw aw;have tg1:=tg.mono (pC N);have pc:=lo.pc;have cu:=gw.current;unfold y5;rcases (by omega:m.pc=0∨m.pc=1∨m.pc=2) with p | p | p
 ·rw [dQ p];by_cases q:lQ m.op.config=0
  ·rw [dQ q];have hc:(qN m.op.config).1=0:=by rw [<- km];exact q
   have st2:=st.Lj hc (tm.cfg hk);have fr:=Ko (C4 hc);obtain ⟨v',hv'⟩:∃ v',w.ze[w.current.toNat]?= some v':=⟨_,dM aw⟩;have gv:=(gw.eJ _ v' hv').1;have h0:0 < v'.zm.length:=aE
   obtain ⟨g',e',hg,he,l1,l2⟩:=vW gv h0
   exact zM rfl ⟨(by show (6:Int)≠0;decide),st2,fun v2 hv g2 hg e2 he=>by
     rcases gH.1 hv with hv | hv
     ·exact tg1 v2 hv g2 hg e2 he
     ·rw [gI.1 hv] at hg;exact (fr (N+1) g2 hg e2 he).1,uO,rfl,rfl,RE,mX (p:=0) (p':=5) (nS su.done hk uM) (nS su.done hk uM) (QX gw (fun g hg e he=>(fr 0 g hg e he).2) _ _ _ _ _ _ _ _ _),.inr ⟨v',g',e',⟨qh.2 st2.jq,su.zf,su.done,⟨cu.1,aR⟩,
    by show (w.ze++[y4 m.op.config])[w.current.toNat]?= some v';rw [dT aw];exact hv',⟨gk _,aK⟩,hg,⟨gk _,aK⟩,he,⟨gk _,aK⟩,⟨gk _,aK⟩,su.listen,by show (0:Int)<=(w.ze.length:Nat);omega,su.k⟩,
    ⟨uL,uK⟩⟩⟩
  ·rw [dN q];exact zM rfl ⟨uW,st1,tg1,uP,rfl,rfl,jT.refl w _,qi w (kf (nS su.done hk uM) (yG rfl (fun h=>absurd (hk.symm.trans h.1) ar))),.inl ⟨rfl,by show (7:Int)<=9∧(9:Int)<=13;decide⟩⟩
 ·have ep:=(qa.1 gw.ground).zn;rw [dN aw,dQ p];exact zM rfl ⟨uW,st1,tg1,uO,rfl,rfl,jT.refl w _,qi w (Wd (nS su.done hk uM) (nS su.done hk uM) rfl),.inr ⟨v,g,e,uQ,⟨uL,fun _=>⟨ep.1,gk _⟩⟩⟩⟩
 ·have p5:ph m=5:=(nS su.done hk uM);have vf:=TP ow p5;have ep:=lo.ep p;have sv:=su.version
  have nl:wo w m=false:=by
   unfold wo;simp only [pn,gP,gT,beq_eq_false_iff_ne,gZ];exact ⟨⟨⟨fun r hr=>vf.2 r hr,vf.1⟩,aw⟩,aw⟩
  have st2:=st.LQ (x:=⟨m.version,m.zn,false⟩) sv.1 sv.2 vf.1 ep.1 ep.2 rfl vf.2;rw [dN aw,dN aw,dQ p,nl];exact zM rfl ⟨tI,st2,tg1,uP,rfl,rfl,TT,mX (p:=5) (p':=0) p5 (yG rfl (fun h=>absurd (hk.symm.trans h.1) ar)) (RL (x:=⟨m.version,m.zn,false⟩) sv vf.1 vf.2 _ _ _ _ _ _ _ _ _),.inl ⟨rfl,by show (7:Int)<=8∧(8:Int)<=13;decide⟩⟩
def Ru (st:St N K w) (tg:Tg N w) (su:qF w m v g e) (tm:eU m) (lo:m.pc=0) (hk:m.op.kind=4) (hN:N<=100000000):∃ r,wa w m=some r∧Nc N K w m (fun _ m _ _ _=>m.pc=0) o5 r:=by
 have gw:=st.jq;have st1:St (N+1) (K+1) w:=st.mono aw aw;have tg1:=tg.mono (pC N);have pr:=ER w.zd m.op.listen;have hl:=st.ty.ec;have p0:ph m=0:=Cb su.done aw aw aw aw;unfold wa;rw [dQ lo];by_cases q:zS w.zd m.op.listen < 0
 ·rw [dQ q];exact zM rfl ⟨uW,st1,tg1,uP,rfl,rfl,jT.refl w _,qi w (kf p0 (yG rfl (fun h=>absurd (hk.symm.trans h.1) ar))),.inl ⟨rfl,by show (7:Int)<=7∧(7:Int)<=13;decide⟩⟩
 ·rw [dN q];obtain ⟨x,hx⟩:∃ x,w.zd[(zS w.zd m.op.listen).toNat]?= some x:=⟨_,dM aw⟩;have li:=DD (gw.ec _ x hx).1;have lk:=st.ty.lq x (dO hx);have ca:=st.fB.ec x (dO hx);rw [hx,dX];have st2:=st1.B8 hx (y:=Go.Gat.wX x) rfl (Ds li.1 li.2.1 rfl) lk.2 (by show x.zg<=_;omega);exact zM rfl ⟨tI,st2,tg1,⟨aJ,tm.word,tm.link,tm.host,tm.path,tm.d0,tm.d1,tm.cfg,(fun h=>absurd ((show m.op.kind=6 from h).symm.trans hk) ar)⟩,rfl,rfl,BV hx rfl (fun _=>rfl),Jd (y:=Go.Gat.wX x) aw hx rfl (kf p0 (yG rfl (fun h=>absurd (hk.symm.trans h.1) ar))),.inl ⟨rfl,by show (7:Int)<=10∧(10:Int)<=13;decide⟩⟩
def Rv (st:St N K w) (tg:Tg N w) (su:qF w m v g e) (tm:eU m) (lo:BA w m v g e) (hk:m.op.kind=6):∃ r,vJ w m=some r∧Nc N K w m BA o5 r:=by
 have st1:St (N+1) (K+1) w:=st.mono aw aw;have tg1:=tg.mono (pC N);have i0:=su.i;have k0:=su.k;have ik:=lo.i;have kk:=lo.k;have ux:m.i.toNat < w.counts.length:=aw
 have hl:=(qa.1 st.jq.ground).counts.2 _ (gQ ux);have p0:ph m=0:=Cb su.done aw aw aw aw;unfold vJ;rw [dQ ⟨lo.pc,lo.k⟩,dM ux,gz,dM (show m.k.toNat < (w.counts[m.i.toNat]).length by omega),dX];generalize (w.counts[m.i.toNat])[m.k.toNat]'aw=n;by_cases h6:m.k+1=6
 ·by_cases h7:m.i+1=w.counts.length
  ·have e3:=Gu (n:=n) h6 h7
   exact zM rfl ⟨uW,st1,tg1,by
     show eU (jg w m n);rw [e3];exact ⟨tm.listen,tm.word,tm.link,tm.host,tm.path,tm.d0,tm.d1,tm.cfg,fun _ h=>aS⟩,by show (jg w m n).op=m.op;rw [e3],by show (jg w m n).zf=m.zf;rw [e3],jT.refl w _,qi w (kf p0 (by show ph (jg w m n)=0;rw [e3];exact yG rfl (fun h=>absurd (hk.symm.trans h.1) ar))),.inl (by
     show (jg w m n).done=true∧o5 (jg w m n);rw [e3];exact ⟨rfl,by show (7:Int)<=13∧(13:Int)<=13;decide⟩)⟩
  ·have e2:=Gt (n:=n) h6 h7
   exact zM rfl ⟨uW,st1,tg1,by
     show eU (jg w m n);rw [e2];exact uO,by show (jg w m n).op=m.op;rw [e2],by show (jg w m n).zf=m.zf;rw [e2],jT.refl w _,qi w (kf p0 (by show ph (jg w m n)=0;rw [e2];exact Cb su.done (by show m.op.kind≠1;omega) (by show m.op.kind≠2;omega) (by show m.op.kind≠3;omega) (by show m.op.kind≠5;omega))),.inr ⟨v,g,e,by
     show qF w (jg w m n) v g e;rw [e2];exact ⟨su.world,su.zf,su.done,su.version,su.eQ,su.zi,su.ey,su.end_,su.eL,su.other,su.slot,su.listen,by show 0<=m.i+1;omega,gk _⟩,by
     show BA w (jg w m n) v g e;rw [e2];exact ⟨lo.pc,by show (0:Int) < 6;decide,by show m.i+1 < _;omega⟩⟩⟩
 ·have e1:=Gs (w:=w) (n:=n) h6 aw
  exact zM rfl ⟨uW,st1,tg1,by
    show eU (jg w m n);rw [e1];exact uO,by show (jg w m n).op=m.op;rw [e1],by show (jg w m n).zf=m.zf;rw [e1],jT.refl w _,qi w (kf p0 (by show ph (jg w m n)=0;rw [e1];exact Cb su.done (by show m.op.kind≠1;omega) (by show m.op.kind≠2;omega) (by show m.op.kind≠3;omega) (by show m.op.kind≠5;omega))),.inr ⟨v,g,e,by
    show qF w (jg w m n) v g e;rw [e1];exact ⟨su.world,su.zf,su.done,su.version,su.eQ,su.zi,su.ey,su.end_,su.eL,su.other,su.slot,su.listen,su.i,by show 0<=m.k+1;omega⟩,by
    show BA w (jg w m n) v g e;rw [e1];exact ⟨lo.pc,by show m.k+1 < 6;omega,lo.i⟩⟩⟩
end
def U7 {w:Wor} (h:w.lock=0) (a b c d l a' b' c' d' l':Int):Mv w { w with lock:=1 } (qe 0 a b c d l) (qe 6 a' b' c' d' l'):=fun y=>by
 rw [ku];cases y with
 | slot i j k s=>simp [Has,qe];rfl
 | act i j k=>simp [Has,qe];rfl
 | ec i=>simp [Has,qe]
 | eJ i=>simp [Has,qe]
 | lock=>simp [Has,qe,h]
def RM {w:Wor} (h:w.lock=1) (a b c d l a' b' c' d' l':Int):Mv w { w with lock:=0 } (qe 6 a' b' c' d' l') (qe 0 a b c d l):=fun y=>by
 rw [ku];cases y with
 | slot i j k s=>simp [Has,qe];rfl
 | act i j k=>simp [Has,qe];rfl
 | ec i=>simp [Has,qe]
 | eJ i=>simp [Has,qe]
 | lock=>simp [Has,qe,h]
def Th {w:Wor} {i k:Nat} {v:u3} {x:eC} {a b:Key->Nat} (hv:w.ze[k]?= some v) (hx:w.zr[i]?= some x) (h:a=b):Mv w { w with ze:=w.ze.set k (nX v),zr:=w.zr.set i (wj x) } a b:=fun y=>by
 rw [h]
 have en:∀ p q r,wY { w with ze:=w.ze.set k (nX v),zr:=w.zr.set i (wj x) } p q r=wY w p q r:=fun p q r=>by
  unfold wY wc;dsimp only;by_cases z:k=p.toNat
  ·subst z;rw [dS (dL.1 hv).1,hv,gz,gz]
  ·rw [gJ z]
 cases y with
 | slot p q r s=>simp only [Has,en]
 | act p q r=>simp only [Has,en]
 | ec p=>rfl
 | lock=>rfl
 | eJ p=>
  have ml:(∀ r ∈ w.zr.set i (wj x),r.version≠p)↔∀ r ∈ w.zr,r.version≠p:=by
   constructor
   ·intro z r hr;obtain ⟨j,hj⟩:=gm.1 hr;by_cases e:i=j
    ·subst e;rw [hx] at hj;cases hj
     exact z (wj x) (gm.2 ⟨i,dS (dL.1 hx).1⟩)
    ·exact z r (gm.2 ⟨j,by rw [gJ e];exact hj⟩)
   ·intro z r hr;rcases mem_set hr with hr | rfl
    ·exact z r hr
    ·exact z x (dO hx)
  simp only [Has,rA,ml]
section
variable {N K:Nat} {w:Wor} {m:uw} {v:u3} {g:Gr} {e:En}
def UB {i k:Nat} {x:eC} (tg:Tg N w) (hv:w.ze[k]?= some v):Tg N { w with ze:=w.ze.set k (nX v),zr:=w.zr.set i (wj x) }:=fun v2 hv2 g hg e he=>by
 rcases mem_set hv2 with hv2 | rfl
 ·exact tg v2 hv2 g hg e he
 ·exact tg v (dO hv) g hg e he
def Sl (ow:∀ x,jY m x<=Has w x) (gw:jC w) (h:ph m=6):w.lock=1:=by
 have:=B6 ow h .lock (by simp [qe]);have l:=(qa.1 gw.ground).lock;simp only [Has] at this;omega
def LX {m1:uw} (st:St N K w) (tg:Tg N w) (su:qF w m1 v g e) (tm:eU m1) (hk:m1.op.kind=5) (hN:N<=100000000) (hpc:m1.pc=8) (ho:m1.op=m.op) (ht:m1.zf=m.zf) (p6:ph m=6) (lk:w.lock=1):Nc N K w m CT o5 (mq w m1):=by
 have st1:St (N+1) (K+1) w:=st.mono aw aw;have tg1:=tg.mono (pC N);have i0:=su.i;have hl:=st.ty.ec;unfold mq;cases hx:w.zd[m1.i.toNat]? with
 | none=>
  have st2:=st1.CV (n:=0) (.inl rfl);exact ⟨tI,st2,tg1,⟨tm.listen,tm.word,tm.link,tm.host,tm.path,tm.d0,tm.d1,tm.cfg,fun h=>absurd ((show m1.op.kind=6 from h).symm.trans hk) ar⟩,ho,ht,xY (gk _) rfl rfl rfl rfl rfl,mX (p:=6) (p':=0) p6 (yG rfl (fun h=>absurd (hk.symm.trans h.1) ar)) (RM lk _ _ _ _ _ _ _ _ _ _),.inl ⟨rfl,by show (7:Int)<=11∧(11:Int)<=13;decide⟩⟩
 | some l=>
  have ux:=(dL.1 hx).1;have hw:IntKind.i64.wrap (m1.i+1)=m1.i+1:=q9 aw aw;dsimp only;by_cases q:l.drain=true∧l.closed=false
  ·unfold o6;rw [dQ q];exact ⟨uW,st1,tg1,uO,ho,ht,jT.refl w _,qi w (kh p6 (fR su.done hk uM)),.inr ⟨v,g,e,uQ,⟨uL,uK,uK,uK,fun _=>⟨l,hx,q.1⟩⟩⟩⟩
  ·unfold o6;rw [dN q,hw];exact ⟨uW,st1,tg1,uO,ho,ht,jT.refl w _,qi w (kh p6 (fR su.done hk uM)),.inr ⟨v,g,e,⟨su.world,su.zf,su.done,su.version,su.eQ,su.zi,su.ey,su.end_,su.eL,su.other,su.slot,su.listen,(by show 0<=m1.i+1;omega),su.k⟩,⟨by show _∨(8<=m1.pc∧m1.pc<=10);omega,uK,uK,uK,uK⟩⟩⟩
def Pj (st:St N K w) (tg:Tg N w) (su:qF w m v g e) (tm:eU m) (lo:CT w m v g e) (hk:m.op.kind=5) (hN:N<=100000000) (ow:∀ x,jY m x<=Has w x):∃ r,yu w m=some r∧Nc N K w m CT o5 r:=by
 have gw:=st.jq;have st1:St (N+1) (K+1) w:=st.mono aw aw;have tg1:=tg.mono (pC N);have i0:=su.i;have k0:=su.k;have gr:=qa.1 gw.ground;have lT:=st.ty.ec;have lL:=st.ty.fQ;have pc:=lo.pc;have pcs:m.pc=0∨m.pc=1∨m.pc=2∨m.pc=3∨m.pc=4∨m.pc=5∨m.pc=6∨m.pc=8∨m.pc=9∨m.pc=10:=aw
 unfold yu;by_cases p:m.pc=0
 ·rw [dQ p];by_cases q:w.lock=0
  ·rw [dQ q];have st2:=st1.CV (n:=1) (.inr rfl);exact zM rfl ⟨aO,st2,tg1,uO,rfl,rfl,xY (gk _) rfl rfl rfl rfl rfl,mX (p:=0) (p':=6) (fR su.done hk uM) (fR su.done hk uM) (U7 q _ _ _ _ _ _ _ _ _ _),.inr ⟨v,g,e,⟨qh.2 st2.jq,su.zf,su.done,su.version,su.eQ,su.zi,su.ey,su.end_,su.eL,su.other,su.slot,su.listen,su.i,su.k⟩,⟨uL,uK,uK,uK,uK⟩⟩⟩
  ·rw [dN q];exact zM rfl ⟨aP,st1,tg1,uP,rfl,rfl,jT.refl w _,qi w (kf (fR su.done hk uM) (yG rfl (fun h=>absurd (hk.symm.trans h.1) ar))),.inl ⟨rfl,by show (7:Int)<=12∧(12:Int)<=13;decide⟩⟩
 replace pcs:=pcs.resolve_left p
 have p6:ph m=6:=(fR su.done hk uM);have lk:=Sl ow gw p6;have kl:jY m .lock=1:=by rw [jt p6];simp [qe]
 rw [dN p];clear p
 by_cases p:m.pc=1
 ·rw [dQ p];exact zM rfl ⟨uW,st1,tg1,uO,rfl,rfl,jT.refl w _,qi w (kh p6 (fR su.done hk uM)),.inr ⟨v,g,e,uS,⟨uL,fun _=>by show (0:Int) < (w.pins.length:Nat);have:=gr.pins.1;omega,uK,uK,uK⟩⟩⟩
 replace pcs:=pcs.resolve_left p
 rw [dN p];clear p
 by_cases p:m.pc=2
 ·rw [dQ p];have hi:=lo.lu p;obtain ⟨x,hx⟩:∃ x,w.pins[m.i.toNat]?= some x:=⟨_,dM aw⟩;have hw:IntKind.i64.wrap (m.i+1)=m.i+1:=q9 aw (by have:=gr.pins.2;omega);rw [hx,dX];unfold nR;rw [hw];by_cases q:x≠0∧x≠IntKind.i64.wrap (m.zn+1)
  ·rw [dQ q];exact zM rfl ⟨uW,st1,tg1,uO,rfl,rfl,jT.refl w _,qi w (kh p6 (fR su.done hk uM)),.inr ⟨v,g,e,uS,⟨uL,uK,uK,uK,uK⟩⟩⟩
  rw [dN q];by_cases q2:m.i+1 < w.pins.length
  ·rw [dQ q2];exact zM rfl ⟨uW,st1,tg1,uO,rfl,rfl,jT.refl w _,qi w (kh p6 (fR su.done hk uM)),.inr ⟨v,g,e,uR,⟨aT,fun _=>q2,uK,uK,uK⟩⟩⟩
  ·rw [dN q2];exact dq
 replace pcs:=pcs.resolve_left p
 rw [dN p];clear p
 by_cases p:m.pc=3
 ·rw [dQ p];by_cases q:w.zn=m.zn∧w.zn < 1000000000000
  ·have hw:IntKind.i64.wrap (w.zn+1)=w.zn+1:=q9 (by have:=gr.zn;omega) aw;rw [dQ q,hw];have st2:=st1.EE (n:=w.zn+1) aw aw;exact zM rfl ⟨aO,st2,tg1,uO,rfl,rfl,xY (by show w.zn<=w.zn+1;omega) rfl rfl rfl rfl rfl,AB rfl rfl rfl rfl rfl (kh p6 (fR su.done hk uM)),.inr ⟨v,g,e,⟨qh.2 st2.jq,su.zf,su.done,su.version,su.eQ,su.zi,su.ey,su.end_,su.eL,su.other,su.slot,su.listen,gk _,su.k⟩,⟨uL,uK,uK,uK,uK⟩⟩⟩
  ·rw [dN q];exact zM rfl ⟨aP,st1,tg1,uO,rfl,rfl,jT.refl w _,qi w (kh p6 (fR su.done hk uM)),.inr ⟨v,g,e,uS,⟨uL,uK,uK,uK,uK⟩⟩⟩
 replace pcs:=pcs.resolve_left p
 rw [dN p];clear p
 by_cases p:m.pc=4
 ·rw [dQ p];cases hx:w.zr[m.i.toNat]? with
  | none=>exact zM rfl (LX st tg (m1:=fD m 8 0) uS uO hk hN rfl rfl rfl p6 lk)
  | some r=>
   have ux:=(dL.1 hx).1;have hw:IntKind.i64.wrap (m.i+1)=m.i+1:=q9 aw aw;have la:=AN gw hx;dsimp only;unfold nQ;rw [hw];by_cases q:r.gone=true∨Go.Lim.oV r.at_ m.zn=false
   ·rw [dQ q];exact zM rfl ⟨uW,st1,tg1,uO,rfl,rfl,jT.refl w _,qi w (kh p6 (fR su.done hk uM)),.inr ⟨v,g,e,uR,⟨aT,uK,uK,uK,uK⟩⟩⟩
   ·rw [dN q];obtain ⟨v',hv'⟩:∃ v',w.ze[r.version.toNat]?= some v':=⟨_,dM aw⟩;have gv:=(gw.eJ _ v' hv').1;have h0:0 < v'.zm.length:=by have:=(jx gv.snap).zk.1;have:=gv.len;omega
    obtain ⟨g',e',hg,he,l1,l2⟩:=vW gv h0;have el:=KC gv
    exact zM rfl ⟨uW,st1,tg1,uO,rfl,rfl,jT.refl w _,qi w (kh p6 (fR su.done hk uM)),.inr ⟨v',g',e',⟨su.world,su.zf,su.done,⟨la.2.2.1,la.2.2.2.1⟩,hv',⟨gk _,aK⟩,hg,⟨gk _,aK⟩,he,⟨gk _,aK⟩,⟨gk _,aK⟩,su.listen,su.i,gk _⟩,
     ⟨uL,uK,fun _=>⟨r,hx,rfl,by cases hgo:r.gone with | false=>rfl | true=>exact absurd (.inl hgo) q⟩,fun _=>by show (0:Int) < _;omega,uK⟩⟩⟩
 replace pcs:=pcs.resolve_left p
 rw [dN p];clear p
 by_cases p:m.pc=5
 ·rw [dQ p];obtain ⟨r,hr,hrv,hrg⟩:=lo.fQ (.inl p);have ux:=(dL.1 hr).1;have hk2:=lo.act p;have gv:=(gw.eJ _ v su.eQ).1;have el:=KC gv;have hw:IntKind.i64.wrap (m.i+1)=m.i+1:=q9 aw aw;have hwk:IntKind.i64.wrap (m.k+1)=m.k+1:=q9 aw aw;obtain ⟨x,hx⟩:∃ x,(yo v)[m.k.toNat]?= some x:=⟨_,dM aw⟩;rw [su.eQ,gz,hx,dX];unfold oC;rw [hw,hwk];by_cases q:x.zg≠0
  ·rw [dQ q];exact dq
  rw [dN q];by_cases q2:m.k+1 < (yo v).length
  ·rw [dQ q2];exact zM rfl ⟨uW,st1,tg1,uO,rfl,rfl,jT.refl w _,qi w (kh p6 (fR su.done hk uM)),.inr ⟨v,g,e,⟨su.world,su.zf,su.done,su.version,su.eQ,su.zi,su.ey,su.end_,su.eL,su.other,su.slot,su.listen,su.i,(by show 0<=m.k+1;omega)⟩,⟨aT,uK,fun _=>⟨r,hr,hrv,hrg⟩,fun _=>q2,uK⟩⟩⟩
  ·rw [dN q2];exact zM rfl ⟨uW,st1,tg1,uO,rfl,rfl,jT.refl w _,qi w (kh p6 (fR su.done hk uM)),.inr ⟨v,g,e,⟨su.world,su.zf,su.done,su.version,su.eQ,su.zi,su.ey,su.end_,su.eL,su.other,su.slot,su.listen,su.i,(by show 0<=m.k+1;omega)⟩,⟨uL,uK,fun _=>⟨r,hr,hrv,hrg⟩,uK,uK⟩⟩⟩
 replace pcs:=pcs.resolve_left p
 rw [dN p];clear p
 by_cases p:m.pc=6
 ·rw [dQ p];obtain ⟨r,hr,hrv,hrg⟩:=lo.fQ (.inr p);have ux:=(dL.1 hr).1;have hw:IntKind.i64.wrap (m.i+1)=m.i+1:=q9 aw aw;have st2:=st.qm su.version.1 su.eQ hr hrv;have s1:=(dL.1 su.eQ).1;rw [su.eQ,gz,hr,gz,dQ ⟨hrv,hrg⟩];unfold BB;rw [hw]
  exact zM rfl ⟨tI,st2,UB tg1 su.eQ,uP,rfl,rfl,QK kl su.eQ hr,Th su.eQ hr (kh p6 (fR su.done hk uM)),.inr ⟨nX v,g,e,⟨qh.2 st2.jq,su.zf,su.done,aq su.version,dS s1,su.zi,su.ey,su.end_,su.eL,su.other,su.slot,su.listen,by show 0<=m.i+1;omega,su.k⟩,
   ⟨uL,uK,uK,uK,uK⟩⟩⟩
 replace pcs:=pcs.resolve_left p
 rw [dN p];clear p
 by_cases p:m.pc=8
 ·rw [dQ p];exact zM rfl (LX st tg su tm hk hN p rfl rfl p6 lk)
 replace pcs:=pcs.resolve_left p
 rw [dN p];clear p
 by_cases p:m.pc=9
 ·rw [dQ p];obtain ⟨l,hl,hd⟩:=lo.ec (.inl p);have ux:=(dL.1 hl).1;have hw:IntKind.i64.wrap (m.i+1)=m.i+1:=q9 aw aw;rw [hl,dX,hw];by_cases q:l.zg=0
  ·rw [dQ q];exact zM rfl ⟨uW,st1,tg1,uO,rfl,rfl,jT.refl w _,qi w (kh p6 (fR su.done hk uM)),.inr ⟨v,g,e,uQ,⟨uL,uK,uK,uK,fun _=>⟨l,hl,hd⟩⟩⟩⟩
  ·rw [dN q];exact dq
 rw [dN p];have p:m.pc=10:=pcs.resolve_left p;obtain ⟨l,hl,hd⟩:=lo.ec (.inr p);have ux:=(dL.1 hl).1;have hw:IntKind.i64.wrap (m.i+1)=m.i+1:=q9 aw aw;have li:=DD (gw.ec _ l hl).1;have st2:=st1.B8 hl (y:=CD l) rfl (Ds li.1 li.2.1 (by show (l.drain || !true)=true;rw [hd];rfl)) (st.ty.lq l (dO hl)).2 (by have:=st.fB.ec l (dO hl);show l.zg<=_;omega);rw [dQ p,hl,gz,dQ hd,hw];exact zM rfl ⟨tI,st2,tg1,uO,rfl,rfl,BV hl rfl id,Jd (y:=CD l) i0 hl rfl (kh p6 (fR su.done hk uM)),.inr ⟨v,g,e,⟨qh.2 st2.jq,su.zf,su.done,su.version,su.eQ,su.zi,su.ey,su.end_,su.eL,su.other,su.slot,aq su.listen,by show 0<=m.i+1;omega,su.k⟩,⟨uL,uK,uK,uK,uK⟩⟩⟩
end
def wi {α:Type} {l l':List α} {i:Nat} {x:α} (h:l[i]?= some x) (hl:l.length<=l'.length):∃ y,l'[i]?= some y:=
 ⟨_,dM (by have:=(dL.1 h).1;omega)⟩
def Kl:∀ {l l':List Gr},l'.length=l.length->(∀ (j:Nat) g g',l[j]?= some g->l'[j]?= some g'->g'.ends.length=g.ends.length)->(l'.flatMap (·.ends)).length=(l.flatMap (·.ends)).length
 | [],[],_,_=>rfl
 | g::l,g'::l',h,hh=>by
  have ih:=Kl (l:=l) (l':=l') (aq h) fun j a b ha hb=>hh (j+1) a b (aq ha) (aq hb)
  have h0:=hh 0 g g' rfl rfl;simp only [ud,gR];omega
 | [],_::_,h,_=>by simp at h
 | _::_,[],h,_=>by simp at h
def Sk {e:En} (h:Slp.eu e=true) (h0:0<=Slp.zC e):Slp.zC e ∈ (Slp.qz e).1:=by
 have ok:=(Slp.oI h).1;rw [Slp.Ac ok,(Slp.E6 ok aw).2.2];exact pz ..
def L0 (e:En) (s:Int):fG e s<=1:=by unfold fG;split <;> omega
def T2 {w w':Wor} {m:uw} {v:u3} {g:Gr} {e:En} {o:Key->Nat} (su:qF w m v g e) (lc:Lc w m v g e) (gw:jC w) (gw':jC w') (kp:jT w w' o) (ow:∀ x,o x+jY m x<=Has w x):
  ∃ v' g' e',qF w' m v' g' e'∧Lc w' m v' g' e':=by
 have hv:=su.version;have hg:=su.zi;have he:=su.end_;obtain ⟨v',av⟩:=wi su.eQ kp.iu;have kv:=kp.eJ _ v v' su.eQ av;obtain ⟨g',ag⟩:=wi su.ey (r7 kv.len.symm);have kg:=kv.nO _ g g' su.ey ag;obtain ⟨e',ae⟩:=wi su.eL (r7 kg.len.symm);have ke:=kg.ends _ e e' su.eL ae;rw [pP hv.1,pP hg.1,pP he.1] at ke;have l1:=kp.iu;have l2:=kv.len;have l3:=kg.len;have l4:=ke.len;have l5:=kp.pins;have l6:=kp.ec;have su':qF w' m v' g' e':=⟨qh.2 gw',by have:=su.zf;omega,su.done,aw,av,aw,ag,aw,ae,by have:=su.other;omega,by have:=su.slot;omega,by have:=su.listen;omega,su.i,su.k⟩;refine ⟨v',g',e',su',?_⟩;have isv:=(((gw.eJ _ v su.eQ).1.fO.2 g (dO su.ey)).2.2 e (dO su.eL)).1;have hsl:=FF su.at_ m.slot;have s0:=su.slot;have slo:=ow (.slot m.version m.zi m.end_ m.slot);rw [hsl] at slo;have sle:=L0 e m.slot;rcases lc with ⟨hk,lo⟩ | ⟨hk,lo⟩ | ⟨hk,lo⟩ | ⟨hk,lo⟩ | ⟨hk,lo⟩ | ⟨hk,lo⟩
 ·refine .inl ⟨hk,⟨lo.pc,fun h=>?_,lo.ec,lo.early,lo.oE,fun h=>?_,fun h=>?_,fun h h2=>?_,lo.iF,lo.kind⟩⟩
  ·have:=lo.ep h;have:=kp.zn;omega
  ·obtain ⟨c,h1,h2⟩:=lo.draw h;exact ⟨c,by rw [kv.snap];exact h1,h2⟩
  ·have:=lo.slot h;have:=ke.tag;exact ⟨(lo.slot h).1,aw⟩
  ·have q:=lo.slot (.inr h);have t1:=ke.tag;have t2:iL e'=m.word / 4294967296:=by unfold iL;rw [h2]
   have hh:=ke.head aw;have hm:e.head=m.word:=by rw [<- hh];exact h2
   have hs:Slp.zC e=m.slot:=by rw [q.1,<- hm];rfl
   have fr:=Sk isv aw
   have z:fG e m.slot=0:=by
    unfold fG;rw [dN (fun z=>z.2.2 (hs ▸ fr))]
   rw [ke.next m.slot s0.1 (by show o _=0;omega)];exact lo.link h hm
 ·refine .inr (.inl ⟨hk,⟨lo.pc,lo.ec,fun h=>?_,fun h=>?_⟩⟩)
  ·have:=lo.tag h;have:=ke.tag;omega
  ·have p3:ph m=3:=fX su.done hk (by rw [dQ aw]);have:jY m (.slot m.version m.zi m.end_ m.slot)=1:=by rw [jt p3];simp [qe]
   rw [ke.next m.slot s0.1 (by show o _=0;omega)];exact lo.next h
 ·refine .inr (.inr (.inl ⟨hk,⟨lo.pc,fun h=>?_⟩⟩));have:=lo.ep h;have:=kp.zn;omega
 ·exact .inr (.inr (.inr (.inl ⟨hk,lo⟩)))
 ·refine .inr (.inr (.inr (.inr (.inl ⟨hk,⟨lo.pc,fun h=>?_,fun h=>?_,fun h=>?_,fun h=>?_⟩⟩))))
  ·have:=lo.lu h;omega
  ·obtain ⟨r,h1,h2,h3⟩:=lo.fQ h;obtain ⟨r',h4⟩:=wi h1 kp.fQ;have q:=kp.zr _ r r' h1 h4;have p6:ph m=6:=fR su.done hk (by rw [dQ aw]);have k1:jY m .lock=1:=by rw [jt p6];simp [qe]
   have lk:=(qa.1 gw.ground).lock;have k2:=ow .lock;have k3:Has w .lock=w.lock.toNat:=rfl;exact ⟨r',h4,by rw [q.1];exact h2,by rw [q.2.2 aw];exact h3⟩
  ·have:=lo.act h;have fl:(yo v').length=(yo v).length:=Kl l2 fun j a b ha hb=>(kv.nO j a b ha hb).len
   omega
  ·obtain ⟨l,h1,h2⟩:=lo.ec h;obtain ⟨l',h3⟩:=wi h1 (r7 l6.symm);exact ⟨l',h3,(kp.wP _ l l' h1 h3).2 h2⟩
 ·exact .inr (.inr (.inr (.inr (.inr ⟨hk,⟨lo.pc,lo.k,by have:=lo.i;have:=kp.counts;omega⟩⟩))))
def Vm {N K:Nat} {w:Wor} {m:uw} {v:u3} {g:Gr} {e:En} (st:St N K w) (tg:Tg N w) (su:qF w m v g e) (tm:eU m) (lo:Lc w m v g e) (hN:N<=100000000) (hK:K<=1099511627776) (ow:∀ x,jY m x<=Has w x):∃ r,kC w m=some r∧Nc N K w m Lc Et r:=by
 have up:∀ {L:Wor->uw->u3->Gr->En->Prop} {F:uw->Prop} {r:Wor × uw × uz},Nc N K w m L F r->(∀ w' m' v g e,m'.op=m.op->L w' m' v g e->Lc w' m' v g e)->(∀ m',m'.op=m.op->F m'->Et m')->Nc N K w m Lc Et r:=fun h hL hF=>
  ⟨h.ev,h.st,h.tg,h.tm,h.op,h.th,h.keep,h.mv,h.go.imp (fun z=>⟨z.1,hF _ h.op z.2⟩) (fun ⟨v,g,e,z1,z2⟩=>⟨v,g,e,z1,hL _ _ _ _ _ h.op z2⟩)⟩
 rw [show kC w m=if m.op.kind=1 then qf w m v g e else if m.op.kind=2 then yp w m v g e else if m.op.kind=3 then y5 w m else if m.op.kind=4 then wa w m
  else if m.op.kind=5 then yu w m else if m.op.kind=6 then vJ w m else none by
   unfold kC;rw [su.eQ];dsimp only;rw [su.ey];dsimp only;rw [su.eL]]
 rcases lo with ⟨hk,lo⟩ | ⟨hk,lo⟩ | ⟨hk,lo⟩ | ⟨hk,lo⟩ | ⟨hk,lo⟩ | ⟨hk,lo⟩
 ·rw [dQ hk];obtain ⟨r,h1,h2⟩:=Qp st tg su tm lo hk hN hK ow;exact ⟨r,h1,up h2 (fun _ m' _ _ _ ho z=>.inl ⟨aU,z⟩) fun m' ho z=>.inl ⟨aU,z⟩⟩
 ·rw [dN aw,dQ hk];obtain ⟨r,h1,h2⟩:=Q5 st tg su tm lo hk hN hK ow;exact ⟨r,h1,up h2 (fun _ m' _ _ _ ho z=>.inr (.inl ⟨aU,z⟩)) fun m' ho z=>.inr (.inl ⟨aU,z⟩)⟩
 ·rw [dN aw,dN aw,dQ hk];obtain ⟨r,h1,h2⟩:=Tq st tg su tm lo hk ow;exact ⟨r,h1,up h2 (fun _ m' _ _ _ ho z=>.inr (.inr (.inl ⟨aU,z⟩))) fun m' ho z=>.inr (.inr ⟨aV,aV,z⟩)⟩
 ·rw [dN aw,dN aw,dN aw,dQ hk];obtain ⟨r,h1,h2⟩:=Ru st tg su tm lo hk hN;exact ⟨r,h1,up h2 (fun _ m' _ _ _ ho z=>.inr (.inr (.inr (.inl ⟨aU,z⟩)))) fun m' ho z=>.inr (.inr ⟨aV,aV,z⟩)⟩
 ·rw [dN aw,dN aw,dN aw,dN aw,dQ hk];obtain ⟨r,h1,h2⟩:=Pj st tg su tm lo hk hN ow;exact ⟨r,h1,up h2 (fun _ m' _ _ _ ho z=>.inr (.inr (.inr (.inr (.inl ⟨aU,z⟩))))) fun m' ho z=>.inr (.inr ⟨aV,aV,z⟩)⟩
 ·rw [dN aw,dN aw,dN aw,dN aw,dN aw,dQ hk];obtain ⟨r,h1,h2⟩:=Rv st tg su tm lo hk;exact ⟨r,h1,up h2 (fun _ m' _ _ _ ho z=>.inr (.inr (.inr (.inr (.inr ⟨aU,z⟩))))) fun m' ho z=>.inr (.inr ⟨aV,aV,z⟩)⟩
end Go.Wor
namespace Go.Pla
open Go.Ab Go.Proofs Tryz Go.Hy
def kD.at_ {given L1 L2:List ef} {b:ef} (h:kD given (L1++b::L2)):∃ l1 i l2,jB given=l1++i::l2∧l1.map (fun i=>given[i]?)=L1.map some∧given[i]?= some b∧l2.map (fun i=>given[i]?)=L2.map some:=by
 unfold kD at h;rw [pB,pI] at h;obtain ⟨l1,l',h1,h2,h3⟩:=List.map_eq_append_iff.1 h;obtain ⟨i,l2,h4,h5,h6⟩:=rO.1 h3;exact ⟨l1,i,l2,by rw [h1,h4],h2,h5,h6⟩
def kD.Up {given L1 L2:List ef} {b f:ef} (h:kD given (L1++b::L2)) (he:we f b=true) (hn:∀ x ∈ L1,we f x=false):kD (given++[f]) (L1++L2):=by
 have ux:∀ n ∈ jB given,n < given.length:=kb given given.length (dW _)
 have h6:f.kind=6:=by
  unfold we at he;simp only [dU,gh] at he;exact he.1
 obtain ⟨l1,i,l2,h1,h2,h3,h4⟩:=h.at_
 have a1:∀ n ∈ l1,fq given f n=false:=fun n hm=>by
  have:given[n]? ∈ l1.map (fun i=>given[i]?):=gG.2 ⟨n,hm,rfl⟩;rw [h2] at this;obtain ⟨x,hx,e⟩:=gG.1 this;unfold fq;rw [<- e];exact hn x hx
 have e:(jB given).findIdx? (fq given f)=some l1.length:=by
  rw [h1,sg,gC.2 a1,pS];have:fq given f i=true:=by unfold fq;rw [h3];exact he
  rw [dQ this];simp
 unfold kD;rw [Fk,dN aw,e,h1];dsimp only
 rw [List.eraseIdx_append_of_length_le (dW _),rb,List.eraseIdx_cons_zero,FJ given f _ (fun n hn=>ux n (by
  rw [h1];rcases gH.1 hn with hn | hn
  ·exact gH.2 (.inl hn)
  ·exact gH.2 (.inr (pj _ hn)))),pB,h2,h4,pB]
end Go.Pla
namespace Go.Beg
open Go.Ab Go.Proofs Tryz Go.Hy Go.Pla
def UA {o:eD} {given L:List ef} (h:kD given L) (h0:0<=o.n) (h1:o.n < L.length):∃ a,L[o.n.toNat]?= some a∧Ak o given=a:=by
 obtain ⟨i,a,h2,h3,h4⟩:=K1 h0 (by rw [h.len];exact h1);refine ⟨a,?_,h4⟩;have:=pW (fun l=>l[o.n.toNat]?) h;simp only [dP,h2,dX,h3] at this;cases hl:L[o.n.toNat]? with
 | none=>rw [hl] at this;cases this
 | some b=>rw [hl] at this;simp only [dX,gu] at this;rw [this]
def Qg {o:eD} {given L:List ef} (h:kD given L) (h1:¬(0<=o.n∧o.n < L.length)):Ak o given=ko:=Fs (by rw [h.len];exact h1)
end Go.Beg
namespace Go.Wor
open Go.Ab Go.Proofs Tryz Go.Gat Go.Nam Go.Hos Go.Con Go.Sna Go.Pla
open Go.Hy hiding encI
def yA (x:ej) (t:Int) (o:eD):uw:=if x.on then x.m else Beg.xb t o x.given
def wE (L:List ef) (x:Key):Nat:=(L.map fun a=>iI a x).sum
def BZ (L L':List ef) (x:Key):wE (L++L') x=wE L x+wE L' x:=by unfold wE;rw [pB,um]
def De (a:ef) (L:List ef) (x:Key):wE (a::L) x=iI a x+wE L x:=by unfold wE;rw [pI,pR]
def To (a:ef) (x:Key):wE [a] x=iI a x:=by rw [De];rfl
structure HH (w:Wor) (t:Int) (x:ej) (m:uw) (L:List ef) (o:Key->Nat):Prop where
 at_:x.ops[x.done]?= some m.op
 th:m.zf=t
 tm:eU m
 lc:∃ v g e,qF w m v g e∧Lc w m v g e
 own:(((m.op.kind≠2∨m.pc=9)∧∀ k,o k=wE L k+jY m k)∨(m.op.kind=2∧m.pc<=4∧∃ L1 a L2,L=L1++a::L2∧a.version=m.version∧a.zi=m.zi∧a.end_=m.end_∧a.slot=m.slot∧a.listen=m.listen∧(∀ b ∈ L1,¬G0 b a)∧∀ k,o k=wE (L1++L2) k+jY m k))
structure TI (w:Wor) (t:Int) (x:ej) (o:Key->Nat):Prop where
 le:x.done<=x.ops.length
 given:x.given.length=x.done
 open_ : ∃ L, kD x.given L ∧ (∀ a ∈ L, a.kind = 1 ∧ 0 <= a.listen) ∧ ((x.on = false ∧ ∀ k, o k = wE L k) ∨ (x.on = true ∧ HH w t x x.m L o))
def Lf {L:List ef} {a:ef} (h:a ∈ L) (k:Key):iI a k<=wE L k:=by
 obtain ⟨L1,L2,rfl⟩:=List.append_of_mem h;rw [BZ,De];omega
def Uq {w:Wor} {a:ef} (h:∀ k,iI a k<=Has w k):nI w a:=by
 have h1:=h (.slot a.version a.zi a.end_ a.slot);have h2:=h (.ec a.listen);have e1:iI a (.slot a.version a.zi a.end_ a.slot)=1:=by simp [iI,qe]
 have e2:iI a (.ec a.listen)=1:=by simp [iI,qe]
 rw [e1] at h1;rw [e2] at h2;simp only [Has] at h1 h2;split at h1
 ·rename_i e he;unfold wY at he;split at he
  ·rename_i q;unfold fG at h1;split at h1
   ·rename_i z;split at h2
    ·rename_i l0;split at h2
     ·rename_i l hl;have:=(dL.1 hl).1;exact ⟨⟨q.1,q.2.1,q.2.2,z.1⟩,⟨l0,aw⟩,e,he,z.2⟩
     ·omega
    ·omega
   ·omega
  ·cases he
 ·omega
def VA (w:Wor) (i j k s:Int):Has w (.slot i j k s)<=1:=by
 simp only [Has];split
 ·exact L0 _ _
 ·omega
def Fi {t:Int} {o:eD} {given:List ef} (h:o.kind≠2):Beg.xb t o given=⟨o,t,0,0,0, -1,0,0,0,0,0,0,0,0,0,false,Beg.ko,fY⟩:=by
 unfold Beg.xb;rw [dN h]
structure Hu (o:eD):Prop where
 kind:1<=o.kind∧o.kind<=6
 host:o.host.length < 1000000000000000
 path:o.path.length < 1000000000000000
 d0:i64 o.d0
 d1:i64 o.d1
 cfg:o.kind=3->xB o.config
def Q7 {N K:Nat} {w:Wor} {t:Int} {x:ej} {o:Key->Nat} {p:eD} (st:St N K w) (tg:Tg N w) (ht:0<=t∧t < w.pins.length) (ti:TI w t x o) (hoff:x.on=false) (hp:x.ops[x.done]?= some p) (po:Hu p) (hN:N<=100000000) (ow:∀ k,o k<=Has w k):
  TI w t ⟨x.ops,x.done,true,Beg.xb t p x.given,x.given⟩ o:=by
 obtain ⟨hle,hgl,L,hL,hk,hon⟩:=ti
 have hon:∀ k,o k=wE L k:=by
  rcases hon with ⟨_,h⟩ | ⟨h,_⟩
  ·exact h
  ·rw [hoff] at h;cases h
 refine ⟨hle,hgl,L,hL,hk,.inr ⟨rfl,?_⟩⟩;have pk:=po.kind;have gr:=qa.1 st.jq.ground
 have idle:∀ {pc:Int} {op:eD},op=p->(pc=0∨pc=9)->eU ⟨op,t,pc,0,0, -1,0,0,0,0,0,0,0,0,0,false,Beg.ko,fY⟩∧∃ v g e,qF w ⟨op,t,pc,0,0, -1,0,0,0,0,0,0,0,0,0,false,Beg.ko,fY⟩ v g e:=fun e _=>by
  subst e;exact ⟨⟨(by decide:i64 (-1)),(by decide:u64 0),(by decide:(-1:Int)<=0∧(0:Int)<=2147483646),po.host,po.path,po.d0,po.d1,po.cfg,fun _ _=>rfl⟩,IK st.jq ht rfl rfl rfl rfl rfl rfl rfl rfl rfl⟩
 by_cases k2:p.kind=2
 ·by_cases hn:0<=p.n∧p.n < L.length
  ·obtain ⟨a,ha,hta⟩:=Beg.UA hL hn.1 hn.2;have am:=dO ha;obtain ⟨ak,al⟩:=hk a am;have fa:nI w a:=Uq fun k=>gW (Lf am k) (by rw [<- hon k];exact ow k)
   obtain ⟨⟨p1,p2,p3,p4⟩,⟨l0,l1⟩,e,hat,hs,hf⟩:=fa;obtain ⟨v,g,a1,a2,a3⟩:=Md hat;have s1:=(dL.1 a1).1;have s2:=(dL.1 a2).1;have s3:=(dL.1 a3).1
   have eb:Beg.xb t p x.given=⟨p,t,0,0,a.version,a.listen,a.zi,a.end_,0,a.slot,0,0,0,0,0,false,Beg.ko,fY⟩:=by
    unfold Beg.xb;rw [dQ k2,hta];unfold Beg.wL;rw [dQ ak,dQ ak]
   rw [eb];have lN:=st.ty.ec
   obtain ⟨L1,L2,hsp,hln⟩:∃ L1 L2,L=L1++a::L2∧L1.length=p.n.toNat:=⟨L.take p.n.toNat,L.drop (p.n.toNat+1),by
    have ux:=(dL.1 ha).1;have he:=(dL.1 ha).2;rw [<- he,List.getElem_cons_drop,r6],aA⟩
   have nS:ph ⟨p,t,0,0,a.version,a.listen,a.zi,a.end_,0,a.slot,0,0,0,0,0,false,Beg.ko,fY⟩=3:=fX rfl k2 rfl
   refine ⟨hp,rfl,⟨by show i64 a.listen;unfold i64;omega,(by decide:u64 0),(by decide:(-1:Int)<=0∧(0:Int)<=2147483646),po.host,po.path,po.d0,po.d1,po.cfg,fun _ _=>rfl⟩,
    ⟨v,g,e,⟨qh.2 st.jq,ht,rfl,⟨p1,by show a.version < _;omega⟩,a1,⟨p2,by show a.zi < _;omega⟩,a2,⟨p3,by show a.end_ < _;omega⟩,a3,⟨gk _,aK⟩,⟨p4,hs⟩,⟨by show -1<=a.listen;omega,l1⟩,gk _,gk _⟩,
     .inr (.inl ⟨k2,⟨.inl ⟨gk _,by show (0:Int)<=4;decide⟩,fun _=>l0,(fun h=>by dsimp only at h;omega),fun h=>absurd (show (0:Int)=2 from h) ar⟩⟩)⟩,
    .inr ⟨k2,by show (0:Int)<=4;decide,L1,a,L2,hsp,rfl,rfl,rfl,rfl,rfl,fun b hb cl=>?_,fun k=>?_⟩⟩
   ·have q1:=ow (.slot a.version a.zi a.end_ a.slot);have q2:=VA w a.version a.zi a.end_ a.slot;have q3:=Lf hb (.slot a.version a.zi a.end_ a.slot);have e1:iI a (.slot a.version a.zi a.end_ a.slot)=1:=by simp [iI,qe]
    have e2:iI b (.slot a.version a.zi a.end_ a.slot)=1:=by simp [iI,qe,cl.1,cl.2.1,cl.2.2.1,cl.2.2.2]
    rw [hon,hsp,BZ,De] at q1;omega
   rw [hon k,hsp,BZ,BZ,De,jt nS];show _=_+iI a k;omega
  ·have eb:Beg.xb t p x.given=⟨p,t,9,0,0, -1,0,0,0,0,0,0,0,0,0,false,Beg.ko,fY⟩:=by
    unfold Beg.xb;rw [dQ k2,Beg.Qg hL hn]
    rfl
   rw [eb];obtain ⟨ty,v,g,e,su⟩:=idle (pc:=9) rfl (.inr rfl);have p0:ph ⟨p,t,9,0,0, -1,0,0,0,0,0,0,0,0,0,false,Beg.ko,fY⟩=0:=fX rfl k2 rfl;exact ⟨hp,rfl,ty,⟨v,g,e,su,.inr (.inl ⟨k2,⟨.inr rfl,fun h=>absurd (show (9:Int)<=4 from h) ar,(fun h=>by dsimp only at h;omega),fun h=>absurd (show (9:Int)=2 from h) ar⟩⟩)⟩,.inl ⟨.inr rfl,fun k=>by rw [hon k,jt p0,ku];rfl⟩⟩
 ·rw [Fi k2];obtain ⟨ty,v,g,e,su⟩:=idle (pc:=0) rfl (.inl rfl)
  have p0:ph ⟨p,t,0,0,0, -1,0,0,0,0,0,0,0,0,0,false,Beg.ko,fY⟩=0:=by
   by_cases k1:p.kind=1
   ·exact eI rfl k1 rfl
   by_cases k3:p.kind=3
   ·exact nS rfl k3 rfl
   by_cases k5:p.kind=5
   ·exact fR rfl k5 rfl
   exact Cb rfl k1 k2 k3 k5
  refine ⟨hp,rfl,ty,⟨v,g,e,su,?_⟩,.inl ⟨.inl k2,fun k=>by rw [hon k,jt p0,ku];rfl⟩⟩;rcases (by omega:p.kind=1∨p.kind=3∨p.kind=4∨p.kind=5∨p.kind=6) with k | k | k | k | k
  ·exact .inl ⟨k,⟨.inl ⟨gk _,by show (0:Int)<=12;decide⟩,(fun h=>by dsimp only at h;omega),(fun h=>by dsimp only at h;omega),(fun h=>by dsimp only at h;omega),(fun h=>by dsimp only at h;omega),fun h=>absurd (show (0:Int)=6 from h) ar,(fun h=>by dsimp only at h;omega),fun h=>absurd (show (0:Int)=11 from h) ar,fun h=>absurd (show (20:Int)<=0 from h) ar,fun h=>absurd (show (0:Int)=22 from h) ar⟩⟩
  ·exact .inr (.inr (.inl ⟨k,⟨⟨gk _,by show (0:Int)<=2;decide⟩,fun h=>absurd (show (0:Int)=2 from h) ar⟩⟩))
  ·exact .inr (.inr (.inr (.inl ⟨k,rfl⟩)))
  ·exact .inr (.inr (.inr (.inr (.inl ⟨k,⟨.inl ⟨gk _,by show (0:Int)<=6;decide⟩,fun h=>absurd (show (0:Int)=2 from h) ar,(fun h=>by dsimp only at h;omega),fun h=>absurd (show (0:Int)=5 from h) ar,(fun h=>by dsimp only at h;omega)⟩⟩))))
  ·exact .inr (.inr (.inr (.inr (.inr ⟨k,⟨rfl,by show (0:Int) < 6;decide,by show (0:Int) < (w.counts.length:Nat);have:=gr.counts.1;have:=gr.pins.1;omega⟩⟩))))
def FD {w:Wor} {m:uw} {v:u3} {g:Gr} {e:En} {r:Wor × uw × uz} (h:yp w m v g e=some r):r.2.1.version=m.version∧r.2.1.zi=m.zi∧r.2.1.end_=m.end_∧r.2.1.slot=m.slot∧r.2.1.listen=m.listen∧(m.pc=9->r.2.1.pc=9∧r.2.1.done=true)∧(m.pc<=4->r.2.1.pc<=4)∧(r.2.1.done=true->m.done=false->r.2.1.pc=m.pc):=by
 have c4:∀ {a b:Int},a=b->(a=9->(1:Int)=2)->b=9->False:=fun h1 h2 h3=>absurd (h2 (h1.trans h3)) ar
 unfold yp iy at h;split at h
 ·rename_i p;cases h
  exact ⟨rfl,rfl,rfl,rfl,rfl,fun h=>by omega,fun _=>by show (1:Int)<=4;decide,fun a b=>absurd (b.symm.trans a) ar⟩
 split at h
 ·rename_i p;cases h
  exact ⟨rfl,rfl,rfl,rfl,rfl,fun h=>by omega,fun _=>by show (2:Int)<=4;decide,fun a b=>absurd (b.symm.trans a) ar⟩
 split at h
 ·rename_i p;split at h
  ·cases h
   exact ⟨rfl,rfl,rfl,rfl,rfl,fun h=>by omega,fun _=>by show (3:Int)<=4;decide,fun a b=>absurd (b.symm.trans a) ar⟩
  ·cases h
   exact ⟨rfl,rfl,rfl,rfl,rfl,fun h=>by omega,fun _=>by show (0:Int)<=4;decide,fun a b=>absurd (b.symm.trans a) ar⟩
 split at h
 ·rename_i p;cases h
  exact ⟨rfl,rfl,rfl,rfl,rfl,fun h=>by omega,fun _=>by show (4:Int)<=4;decide,fun a b=>absurd (b.symm.trans a) ar⟩
 split at h
 ·rename_i p;split at h
  ·cases h
  ·obtain ⟨x,_,rfl⟩:=gD.1 h;exact ⟨rfl,rfl,rfl,rfl,rfl,fun h=>by omega,fun h=>h,fun _ _=>rfl⟩
 split at h
 ·cases h
  exact ⟨rfl,rfl,rfl,rfl,rfl,fun h=>⟨h,rfl⟩,fun h=>h,fun _ _=>rfl⟩
 ·cases h
def Di {x:ej} {m:uw} (h:m.done=true):jw x m=⟨x.ops,x.done+1,false,m,x.given++[m.answer]⟩:=dQ h
def DI {x:ej} {m:uw} (h:m.done=false):jw x m=⟨x.ops,x.done,true,m,x.given⟩:=dN aH
def UY {N K:Nat} {w:Wor} {t:Int} {x:ej} {o:Key->Nat} (st:St N K w) (tg:Tg N w) (ti:TI w t x o) (hon:x.on=true) (hN:N<=100000000) (hK:K<=1099511627776) (ow:∀ k,o k<=Has w k):
  zY w x.m=true∧eU x.m∧(∀ k,jY x.m k<=o k)∧∃ r,kC w x.m=some r∧r.2.2.access≠0∧St (N+1) (K+1) r.1∧Tg (N+1) r.1∧jT w r.1 (jY x.m)∧∃ o',TI r.1 t (jw x r.2.1) o'∧Mv w r.1 o o':=by
 obtain ⟨hle,hgl,L,hL,hk,hon'⟩:=ti
 have on:HH w t x x.m L o:=by
  rcases hon' with ⟨h,_⟩ | ⟨_,h⟩
  ·rw [hon] at h;cases h
  ·exact h
 clear hon'
 obtain ⟨hat,hth,htm,⟨v,g,e,su,lc⟩,hown⟩:=on
 have om:∀ k,jY x.m k<=o k:=fun k=>by
  rcases hown with ⟨_,h⟩ | ⟨_,_,_,_,_,_,_,_,_,_,_,_,h⟩
  ·rw [h k];omega
  ·rw [h k];omega
 have oh:∀ k,jY x.m k<=Has w k:=fun k=>gW (om k) (ow k)
 obtain ⟨r,h1,nc⟩:=Vm st tg su htm lc hN hK oh;refine ⟨JH su,htm,om,r,h1,nc.ev,nc.st,nc.tg,nc.keep,?_⟩;have lt:x.done < x.ops.length:=(dL.1 hat).1;have fs:x.m.op.kind=2->yp w x.m v g e=some r:=fun hk=>by rw [Uw su,dN aw,dQ hk] at h1;exact h1
 rcases nc.go with ⟨hd,hf⟩ | ⟨v',g',e',su',lc'⟩
 ·rw [Di hd];have hgl':(x.given++[r.2.1.answer]).length=x.done+1:=by simp [hgl]
  rcases hf with ⟨k1,f1,f2,f3⟩ | ⟨k2,f⟩ | ⟨k3,k4,f⟩
  ·rw [nc.op] at k1
   have hb:∀ k,o k=wE L k+jY x.m k:=by
    rcases hown with ⟨_,h⟩ | ⟨h,_⟩
    ·exact h
    ·omega
   by_cases a1:r.2.1.answer.kind=1
   ·obtain ⟨ea,el⟩:=f3 a1;have p3:ph r.2.1=3:=JV hd (by rw [nc.op];exact k1) a1
    have eo:∀ k,jY r.2.1 k=iI r.2.1.answer k:=fun k=>by
     rw [jt p3];unfold iI;rw [ea]
    refine ⟨fun k=>wE (L++[r.2.1.answer]) k,⟨aW,hgl',L++[r.2.1.answer],hL.Vv a1,fun a ha=>?_,.inl ⟨rfl,fun _=>rfl⟩⟩,fun k=>?_⟩
    ·rcases gH.1 ha with ha | ha
     ·exact hk a ha
     ·rw [gI.1 ha];exact ⟨a1,by rw [ea];exact el⟩
    ·have:=nc.mv k;dsimp only;rw [hb k,BZ,To,<- eo k];omega
   ·have p0:ph r.2.1=0:=yG hd fun h=>a1 h.2
    refine ⟨fun k=>wE L k,⟨aW,hgl',L,hL.other a1 aw,hk,.inl ⟨rfl,fun _=>rfl⟩⟩,fun k=>?_⟩;have:=nc.mv k
    try dsimp only
    rw [jt p0,ku] at this;rw [hb k];omega
  ·rw [nc.op] at k2;have fsm:=FD (fs k2);obtain ⟨e1,e2,e3,e4,e5,e6,e7,e8⟩:=fsm;have p0:ph r.2.1=0:=yG hd fun h=>by rw [nc.op] at h;omega
   have pc:=e8 hd su.done;rcases hown with ⟨h9,hb⟩ | ⟨_,h4,L1,a,L2,hsp,q1,q2,q3,q4,q5,hcl,hb⟩
   ·have a7:r.2.1.answer=iA 7:=by
     rcases f with ⟨_,f⟩ | ⟨f,_⟩
     ·omega
     ·exact f
    refine ⟨fun k=>wE L k,⟨aW,hgl',L,hL.other (by rw [a7];show (7:Int)≠1;decide) (by rw [a7];show (7:Int)≠6;decide),hk,.inl ⟨rfl,fun _=>rfl⟩⟩,fun k=>?_⟩;have:=nc.mv k
    try dsimp only
    rw [jt p0,ku] at this;rw [hb k];omega
   ·have a6:r.2.1.answer=Mf r.2.1:=by
     rcases f with ⟨f,_⟩ | ⟨_,f⟩
     ·exact f
     ·omega
    have hka:=hk a (by rw [hsp];simp)
    have en:Pla.we r.2.1.answer a=true:=by
     rw [a6];unfold Pla.we;simp [hka.1,e1,e2,e3,e4,e5,q1,q2,q3,q4,q5]
    have en2:∀ b ∈ L1,we r.2.1.answer b=false:=fun b hb2=>by
     cases he:Pla.we r.2.1.answer b with
     | false=>rfl
     | true=>
      rw [a6] at he;unfold Pla.we at he;simp only [dU,gh,e1,e2,e3,e4,e5] at he;exact absurd ⟨he.2.2.1.symm.trans q1.symm,he.2.2.2.1.symm.trans q2.symm,he.2.2.2.2.1.symm.trans q3.symm,he.2.2.2.2.2.1.symm.trans q4.symm⟩ (hcl b hb2)
    rw [hsp] at hL
    refine ⟨fun k=>wE (L1++L2) k,⟨aW,hgl',L1++L2,hL.Up en en2,fun b hb2=>hk b (by
     rw [hsp];rcases gH.1 hb2 with h | h
     ·exact gH.2 (.inl h)
     ·exact gH.2 (.inr (pj _ h))),.inl ⟨rfl,fun _=>rfl⟩⟩,fun k=>?_⟩
    have:=nc.mv k
    try dsimp only
    rw [jt p0,ku] at this;rw [hb k];omega
  ·rw [nc.op] at k3 k4;have p0:ph r.2.1=0:=yG hd fun h=>by rw [nc.op] at h;omega
   have hb:∀ k,o k=wE L k+jY x.m k:=by
    rcases hown with ⟨_,h⟩ | ⟨h,_⟩
    ·exact h
    ·omega
   refine ⟨fun k=>wE L k,⟨aW,hgl',L,hL.other (by have:=f.1;omega) (by have:=f.1;omega),hk,.inl ⟨rfl,fun _=>rfl⟩⟩,fun k=>?_⟩;have:=nc.mv k
   try dsimp only
   rw [jt p0,ku] at this;rw [hb k];omega
 ·rw [DI su'.done];rcases hown with ⟨h9,hb⟩ | ⟨k2,h4,L1,a,L2,hsp,q1,q2,q3,q4,q5,hcl,hb⟩
  ·have k2:x.m.op.kind≠2:=fun k2=>by
    rcases h9 with h | h
    ·exact h k2
    ·have:=(FD (fs k2)).2.2.2.2.2.1 h;have h2:=su'.done;rw [this.2] at h2;cases h2
   refine ⟨fun k=>wE L k+jY r.2.1 k,⟨hle,hgl,L,hL,hk,.inr ⟨rfl,⟨by rw [hat,nc.op],nc.th.trans hth,nc.tm,⟨v',g',e',su',lc'⟩,.inl ⟨.inl (by rw [nc.op];exact k2),fun _=>rfl⟩⟩⟩⟩,fun k=>?_⟩;have:=nc.mv k
   try dsimp only
   rw [hb k];omega
  ·obtain ⟨e1,e2,e3,e4,e5,e6,e7,e8⟩:=FD (fs k2);refine ⟨fun k=>wE (L1++L2) k+jY r.2.1 k,⟨hle,hgl,L,hL,hk,.inr ⟨rfl,⟨by rw [hat,nc.op],nc.th.trans hth,nc.tm,⟨v',g',e',su',lc'⟩,.inr ⟨by rw [nc.op];exact k2,e7 h4,L1,a,L2,hsp,q1.trans e1.symm,q2.trans e2.symm,q3.trans e3.symm,q4.trans e4.symm,q5.trans e5.symm,hcl,fun _=>rfl⟩⟩⟩⟩,fun k=>?_⟩;have:=nc.mv k
   try dsimp only
   rw [hb k];omega
def U1 {w w':Wor} {t:Int} {x:ej} {o p:Key->Nat} (ti:TI w t x o) (gw:jC w) (gw':jC w') (kp:jT w w' p) (ow:∀ k,p k+o k<=Has w k):TI w' t x o:=by
 obtain ⟨hle,hgl,L,hL,hk,hon⟩:=ti;refine ⟨hle,hgl,L,hL,hk,hon.imp id fun ⟨h1,on⟩=>⟨h1,?_⟩⟩;obtain ⟨hat,hth,htm,⟨v,g,e,su,lc⟩,hown⟩:=on
 have om:∀ k,jY x.m k<=o k:=fun k=>by
  rcases hown with ⟨_,h⟩ | ⟨_,_,_,_,_,_,_,_,_,_,_,_,h⟩
  ·rw [h k];omega
  ·rw [h k];omega
 obtain ⟨v',g',e',su',lc'⟩:=T2 su lc gw gw' kp fun k=>by have:=om k;have:=ow k;omega
 exact ⟨hat,hth,htm,⟨v',g',e',su',lc'⟩,hown⟩
def D1:∀ (l:List Nat) (i:Nat) {a:Nat},l[i]?= some a->a<=l.sum
 | [],i,a,h=>by simp at h
 | x::l,0,a,h=>by
  have:x=a:=aq h
  rw [pR];omega
 | x::l,i+1,a,h=>by
  have:=D1 l i (aq h);rw [pR];omega
def Lm:∀ (l:List Nat) (i j:Nat) {a b:Nat},i≠j->l[i]?= some a->l[j]?= some b->a+b<=l.sum
 | [],i,j,a,b,_,h,_=>by simp at h
 | x::l,0,0,a,b,h,_,_=>absurd rfl h
 | x::l,0,j+1,a,b,_,h1,h2=>by
  have:=D1 l j tT;have:x=a:=aq h1
  rw [pR];omega
 | x::l,i+1,0,a,b,_,h1,h2=>by
  have:=D1 l i tG;have:x=b:=aq h2
  rw [pR];omega
 | x::l,i+1,j+1,a,b,h,h1,h2=>by
  have:=Lm l i j aw tG tT;rw [pR];omega
structure GI (N K:Nat) (w:Wor) (X:List ej):Prop where
 st:St N K w
 tg:Tg N w
 len:w.pins.length=X.length
 ops:∀ x ∈ X,∀ p ∈ x.ops,Hu p
 own:∃ os:List (Key->Nat),os.length=X.length∧(∀ (i:Nat) x o,X[i]?= some x->os[i]?= some o->TI w i x o)∧∀ k,Has w k=(os.map (· k)).sum
def TY {N K:Nat} {w:Wor} {X:List ej} {t:Nat} {x:ej} {p:eD} (gi:GI N K w X) (hx:X[t]?= some x) (hp:x.ops[x.done]?= some p) (hN:N<=100000000) (hK:K<=1099511627776):
  zY w (yA x t p)=true∧eU (yA x t p)∧∃ r,kC w (yA x t p)=some r∧r.2.2.access≠0∧GI (N+1) (K+1) r.1 (X.set t (jw x r.2.1)):=by
 obtain ⟨st,tg,hlen,hops,os,hol,hti,hsum⟩:=gi;have ux:=(dL.1 hx).1;obtain ⟨o,ho⟩:∃ o,os[t]?= some o:=⟨_,dM aw⟩;have ti:=hti t x o hx ho;have ow:∀ k,o k<=Has w k:=fun k=>by rw [hsum k];exact D1 _ t (by rw [dP,ho];rfl)
 have po:=hops x (dO hx) p (dO hp)
 obtain ⟨x',hx1,hx2,hx3,hx4⟩:∃ x',x'.m=yA x t p∧x'.on=true∧TI w t x' o∧∀ m,jw x' m=jw x m:=by
  cases hon:x.on with
  | true=>exact ⟨x,aX,hon,ti,fun _=>rfl⟩
  | false=>exact ⟨⟨x.ops,x.done,true,Beg.xb t p x.given,x.given⟩,aX,rfl,Q7 st tg aw ti hon hp po hN ow,fun _=>rfl⟩
 obtain ⟨s1,s2,s3,r,s4,s5,s6,s7,s8,o',s9,s10⟩:=UY st tg hx3 hx2 hN hK ow;rw [hx1] at s1 s2 s4;refine ⟨s1,s2,r,s4,s5,s6,s7,by have:=s8.pins;simp;omega,fun y hy q hq=>?_,os.set t o',by simp [hol],fun i y oi hy hoi=>?_,fun k=>?_⟩
 ·rcases mem_set hy with hy | rfl
  ·exact hops y hy q hq
  ·have:(jw x r.2.1).ops=x.ops:=by unfold jw;split <;> rfl
   rw [this] at hq;exact hops x (dO hx) q hq
 ·rcases xW hy with ⟨rfl,rfl,_⟩ | ⟨hne,hy⟩
  ·rw [dS aw] at hoi;cases hoi
   rw [<- hx4];exact s9
  ·rw [gJ hne] at hoi;refine U1 (hti i y oi hy hoi) st.jq s6.jq s8 fun k=>?_
   have h2:=Lm (os.map (· k)) t i hne (by rw [dP,ho];rfl) (by rw [dP,hoi];rfl);have:=s3 k;rw [hsum k];dsimp only at h2 ⊢;omega
 ·have q1:=DJ (fun f:Key->Nat=>f k) os t o' ho;have q2:=s10 k;have q3:=hsum k;(try dsimp only at q1)
  (try dsimp only at q3)
  (try dsimp only)
  omega
def Rw {l:List u4} {i:Nat} {s:u4} (h:l[i]?= some s) (hn:zS ((l.take i).map vr) s < 0):zS (l.map vr) s=i:=by
 have ux:=(dL.1 h).1
 have h0:((l.take i).map vr).findIdx? (fun r=>r.name == s)=none:=by
  unfold zS at hn;split at hn
  ·omega
  ·rename_i q;exact q
 have e:(l.map vr).findIdx? (fun r=>r.name == s)=some i:=by
  rw [gy];refine ⟨aq ux,?_,fun j hj=>?_⟩
  ·have:=(dL.1 h).2;simp [vr,this]
  ·have q:=gC.1 h0 (vr (l[j]'aw)) (gG.2 ⟨_,List.mem_take_iff_getElem.2 ⟨j,aw,rfl⟩,rfl⟩);simpa using q
 unfold zS;rw [e]
def HD {α:Type}:∀ (T:List α),(T.map fun _=>(0:Nat)).sum=0
 | []=>rfl
 | _::T=>by rw [pI,pR,HD T]
def VE {s:Sna} {l:List u4} {n:Int} {w:Wor} {N:Nat} {T:List (List eD)} (h:ir s l n=(w,0)) (hs:wV s) (hl:l.length<=N) (hN:1<=N) (hn:∀ x ∈ l,x.length<=reachBytes) (hT:(T.length:Int)=n) (hO:∀ L ∈ T,∀ o ∈ L,Hu o):
  GI N 0 w (T.map fT):=by
 unfold ir at h;split at h
 ·have:=pW Prod.snd h;exact absurd (show (1:Int)=0 from this) ar
 rename_i q;have hw:=(pW Prod.fst h).symm;have hw:w=⟨0,0,0,List.replicate n.toNat 0,[(qO s).1],l.map vr,List.replicate n.toNat [0,0,0,0,0,0],[]⟩:=hw
 have q1:vj s=true:=by
  cases z:vj s with
  | true=>rfl
  | false=>exact absurd (.inl z) q
 have q2:1<=n:=aw
 have q3:n<=8:=aw
 have q4:∀ i x,l[i]?= some x->xh x=true∧zS ((l.take i).map vr) x < 0:=fun i x hx=>by
  have z:kG l=true:=by
   cases z:kG l with
   | true=>rfl
   | false=>exact absurd (.inr (.inr (.inr z))) q
  have:=dV.1 z i (pG.2 (dL.1 hx).1);unfold Ae at this;rw [hx] at this;simpa using this
 subst hw;have hc:(qO s).1=⟨s,s.zk.map im,false⟩:=by unfold qO;rw [dQ q1]
 have fr:∀ g ∈ (qO s).1.zm,g.zt=0∧∀ e ∈ g.ends,e.zg=0∧e.ok:=fun g hg=>by
  rw [hc] at hg;obtain ⟨x,hx,rfl⟩:=gG.1 (show g ∈ s.zk.map im from hg);refine ⟨rfl,fun e he=>?_⟩;rw [gS (show e ∈ List.replicate x.zL.length (xE x) from he)];have f:=vY ((jx q1).all x hx);exact f.2.2
 have one:∀ v,v ∈ [(qO s).1]->v=(qO s).1:=fun v hv=>gI.1 hv
 have lz:∀ x ∈ l.map vr,∃ y ∈ l,x=vr y:=fun x hx=>by
  obtain ⟨y,hy,e⟩:=gG.1 hx;exact ⟨y,hy,e.symm⟩
 have fv:=Ko q1 0
 have ends:∀ i j k e,wY ⟨0,0,0,List.replicate n.toNat 0,[(qO s).1],l.map vr,List.replicate n.toNat [0,0,0,0,0,0],[]⟩ i j k=some e->e.zg=0∧∀ t,fG e t=0:=fun i j k e he=>by
  unfold wY at he;split at he
  ·obtain ⟨v,g,a1,a2,a3⟩:=Md he;have hv:=one v (dO a1);subst hv;exact (fv g (dO a2) e (dO a3)).2
  ·cases he
 refine ⟨⟨⟨qa.2 ⟨?_,⟨?_,?_⟩,⟨gk _,by show (0:Int)<=1000000000000;decide⟩,.inl rfl,?_⟩,⟨gk _,by show (0:Int) < 1;decide⟩,(by show Go.Lim.eu []=true;rfl),(fun r hr=>nomatch hr),?_,?_⟩,⟨by show 1<=N;omega,aq hl,by show 0<=N;omega,?_,?_⟩,⟨?_,?_⟩⟩,?_,?_,?_,?_⟩
 ·simp only [r8];omega
 ·simp
 ·intro r hr;rw [gS hr];rfl
 ·intro p hp;rw [gS hp];exact ⟨gk _,by show (0:Int)<=0+1;decide⟩
 ·intro i v hv;have hi:i=0:=by have:=(dL.1 hv).1;exact cP
  subst hi;cases hv
  exact ⟨Jr q1,by rw [hc];rfl⟩
 ·intro i x hx;obtain ⟨y,hy,rfl⟩:=gD.1 ((dP ..).symm.trans hx);have z:=q4 i y hy;refine ⟨Ds z.1 (gk _) rfl,Rw hy z.2⟩
 ·intro v hv;rw [one v hv];exact ⟨by rw [hc];exact hs,fun g hg=>⟨by rw [(fr g hg).1];decide,fun e he=>((fr g hg).2 e he).2⟩⟩
 ·intro x hx;obtain ⟨y,hy,rfl⟩:=lz x hx;exact ⟨hn y hy,by show i64 0;decide⟩
 ·intro x hx;obtain ⟨y,hy,rfl⟩:=lz x hx;show (0:Int)<=_
  decide
 ·intro v hv g hg e he;rw [one v hv] at hg;rw [((fr g hg).2 e he).1]
  decide
 ·intro v hv g hg e he;rw [one v hv] at hg;exact ((fv g hg e he).1:oA 0 e) |> fun z=>⟨by have:=z.1;omega,z.2⟩
 ·simp only [r8,dR];omega
 ·intro x hx p hp;obtain ⟨L,hL,rfl⟩:=gG.1 hx;exact hO L hL p hp
 ·refine ⟨T.map fun _=>fun _=>0,aj,fun i x o hx ho=>?_,fun k=>?_⟩
  ·obtain ⟨L,hL,rfl⟩:=gD.1 ((dP ..).symm.trans hx);obtain ⟨_,_,rfl⟩:=gD.1 ((dP ..).symm.trans ho);exact ⟨gA _,rfl,[],Vk,⟨fun a ha=>(by cases ha),.inl ⟨rfl,fun _=>rfl⟩⟩⟩
  ·have z:((T.map fun _=>fun (_:Key)=>0).map (· k)).sum=0:=by
    rw [pX];exact HD T
   rw [z];cases k with
   | slot i j k s'=>
    simp only [Has];split
    ·rename_i e he;exact (ends i j k e he).2 s'
    ·rfl
   | act i j k=>
    simp only [Has];split
    ·rename_i e he;rw [(ends i j k e he).1];rfl
    ·rfl
   | ec i=>
    simp only [Has];split
    ·split
     ·rename_i x hx;obtain ⟨y,_,rfl⟩:=lz x (dO hx)
      rfl
     ·rfl
    ·rfl
   | eJ i=>
    simp only [Has];rw [dN];rintro ⟨h1,h2,h3,_⟩;have h2:i < 1:=h2;exact h3 (by show i=0;omega)
   | lock=>rfl
abbrev fx:=Wor × List ej × List uz
def mC (e:uz) (x:ej):uz:={ e with op:=x.done,jo:=!x.on }
def EG (s:fx) (t:Nat):fx:=match s.2.1[t]? with
 | some x=>match x.ops[x.done]? with
  | some o=>match kC s.1 (yA x t o) with
   | some r=>(r.1,s.2.1.set t (jw x r.2.1),s.2.2++[mC r.2.2 x])
   | none=>s
  | none=>s
 | none=>s
def yL (s:fx) (p:Int):fx:=match (qy s.2.1 s.2.1.length)[(p % (qy s.2.1 s.2.1.length).length).toNat]? with
 | some t=>EG s t
 | none=>s
def BJ {X:List ej}:∀ {k t:Nat},t ∈ qy X k↔t < k∧∃ x,X[t]?= some x∧x.done < x.ops.length
 | 0,t=>by simp [qy]
 | k+1,t=>by
  unfold qy;cases hx:X[k]? with
  | none=>
   dsimp only;rw [BJ];constructor
   ·rintro ⟨h,q⟩;exact ⟨aw,q⟩
   ·rintro ⟨h,x,hx2,q⟩;refine ⟨?_,x,hx2,q⟩;rcases rm t k with h | h
    ·exact h
    ·have:t=k:=by omega
     subst this;rw [hx] at hx2;cases hx2
  | some y=>
   dsimp only;split
   ·rename_i hd;rw [BJ];constructor
    ·rintro ⟨h,q⟩;exact ⟨aw,q⟩
    ·rintro ⟨h,x,hx2,q⟩;refine ⟨?_,x,hx2,q⟩;rcases rm t k with h | h
     ·exact h
     ·have:t=k:=by omega
      subst this;rw [hx] at hx2;cases hx2
      omega
   ·rename_i hd;rw [gH,BJ,gI];constructor
    ·rintro (⟨h,q⟩ | rfl)
     ·exact ⟨aw,q⟩
     ·exact ⟨aw,y,hx,aw⟩
    ·rintro ⟨h,x,hx2,q⟩;rcases rm t k with h | h
     ·exact .inl ⟨h,x,hx2,q⟩
     ·exact .inr aw
def yB {N K:Nat} {s:fx} (gi:GI N K s.1 s.2.1) (p:Int) (hN:N<=100000000) (hK:K<=1099511627776):
  (qy s.2.1 s.2.1.length=[]∧yL s p=s)∨∃ t x o r,(qy s.2.1 s.2.1.length)[(p % (qy s.2.1 s.2.1.length).length).toNat]?= some t∧s.2.1[t]?= some x∧x.ops[x.done]?= some o∧zY s.1 (yA x t o)=true∧eU (yA x t o)∧kC s.1 (yA x t o)=some r∧r.2.2.access≠0∧
   yL s p=(r.1,s.2.1.set t (jw x r.2.1),s.2.2++[mC r.2.2 x])∧GI (N+1) (K+1) r.1 (s.2.1.set t (jw x r.2.1)):=by
 by_cases ha:qy s.2.1 s.2.1.length=[]
 ·refine .inl ⟨ha,?_⟩;unfold yL;rw [ha]
  rfl
 ·right
  have hl:0 < (qy s.2.1 s.2.1.length).length:=sE.2 ha;have b0:=rV p (show ((qy s.2.1 s.2.1.length).length:Int)≠0 by omega);have b1:=rW p (show (0:Int) < (qy s.2.1 s.2.1.length).length by omega);obtain ⟨t,ht⟩:∃ t,(qy s.2.1 s.2.1.length)[(p % (qy s.2.1 s.2.1.length).length).toNat]?= some t:=⟨_,dM aw⟩;obtain ⟨_,x,hx,hd⟩:=BJ.1 (dO ht);obtain ⟨o,ho⟩:∃ o,x.ops[x.done]?= some o:=⟨_,dM hd⟩;obtain ⟨h1,h2,r,h3,h4,h5⟩:=TY gi hx ho hN hK;refine ⟨t,x,o,r,ht,hx,ho,h1,h2,h3,h4,?_,h5⟩;unfold yL EG;rw [ht];dsimp only;rw [hx];dsimp only;rw [ho];dsimp only;rw [h3]
def GI.mono {N K N' K':Nat} {w:Wor} {X:List ej} (h:GI N K w X) (hN:N<=N') (hK:K<=K'):GI N' K' w X:=⟨h.st.mono hN hK,h.tg.mono hN,h.len,h.ops,h.own⟩
def UM {N K:Nat} {s:fx} (gi:GI N K s.1 s.2.1) (p:Int) (hN:N<=100000000) (hK:K<=1099511627776):GI (N+1) (K+1) (yL s p).1 (yL s p).2.1:=by
 rcases yB gi p hN hK with ⟨_,h⟩ | ⟨t,x,o,r,_,_,_,_,_,_,_,h,h2⟩
 ·rw [h];exact gi.mono aw aw
 ·rw [h];exact h2
def fp (s:fx) (l:List Int) (k:Nat):fx:=(l.take k).foldl yL s
def k8 {s:fx} {l:List Int} {k:Nat} {p:Int} (h:l[k]?= some p):fp s l (k+1)=yL (fp s l k) p:=by
 unfold fp;obtain ⟨h1,h2⟩:=dL.1 h;rw [px h1,rL,h2]
 rfl
def AZ {N K:Nat} {s:fx} (gi:GI N K s.1 s.2.1) (l:List Int):∀ k,k<=l.length->N+k<=100000000->K+k<=1099511627776->GI (N+k) (K+k) (fp s l k).1 (fp s l k).2.1
 | 0,_,_,_=>gi
 | k+1,hk,hN,hK=>by
  have ih:=AZ gi l k aw aw aw;rw [k8 (dM aw)];exact UM ih _ aw aw
def Km {l:List Int}:∀ {s:fx},qy s.2.1 s.2.1.length=[]->l.foldl yL s=s:=by
 induction l with
 | nil=>intro s _;rfl
 | cons p l ih=>
  intro s h;have:yL s p=s:=by unfold yL;rw [h];rfl
  rw [tt,this];exact ih h
end Go.Wor
