import Derived.Test.YtkbnjgogjccmfaaGreatR3
import Derived.Test.YtkbnjgogjccmfaaGreatR1
import Derived.Test.YtkbnjgogjccmfaaGreatR2
set_option linter.all false
set_option maxRecDepth 100000
set_option maxHeartbeats 4000000
namespace Go.Wor
open Go.Ab Go.Proofs Tryz Go.Gat Go.Nam Go.Hos Go.Con Go.Sna
open Go.Hy hiding encI
section
variable {N K:Nat} {w:Wor} {m:uk} {v:uq} {g:Gr} {e:En}
def IN (hat:eQ w m v g e) (ow:∀ x,jT m x<=Has w x) {p:Nat} (h:ph m=p) (hp:p=2∨p=3):0<=m.slot∧m.slot < e.next.length∧m.slot ∉ (Slp.qx e).1:=by
 have:=Bt ow h (.slot m.version m.zg m.end_ m.slot) (by simp [qc,hp]);rw [EX hat] at this;unfold fq at this;split at this
 ·assumption
 ·omega
def RW (hat:eQ w m v g e) (ow:∀ x,jT m x<=Has w x) {p:Nat} (h:ph m=p) (hp:p=3∨p=4):1<=e.zf:=by
 have:=Bt ow h (.act m.version m.zg m.end_) (by simp [qc,hp]);rw [Kv hat] at this;omega
def Pe (st:St N K w) (tg:Tg N w) (su:qH w m v g e) (tm:eJ m) (lo:DI w m v g e) (hk:m.op.kind=2) (hN:N<=100000000) (hK:K<=1099511627776) (ow:∀ x,jT m x<=Has w x):∃ r,yB w m v g e=some r∧Nc N K w m DI GF r:=by
 obtain ⟨f1,f2,f3,f4,f5,f6,f7⟩:=vj st su;have st1:St (N+1) (K+1) w:=st.mono aw aw;have tg1:=tg.mono (pz N);have te:=AF tg su.at_;have hs:=Pr f1 f2;have pc:=lo.pc;unfold yB;rcases (by omega:m.pc=0∨m.pc=1∨m.pc=2∨m.pc=3∨m.pc=4∨m.pc=9) with p | p | p | p | p | p
 ·have l0:=lo.uz aw;rw [dO p];exact zM rfl ⟨uW,st1,tg1,⟨tm.listen,f6.1,tm.link,tm.host,tm.path,tm.d0,tm.d1,tm.cfg,tm.iO⟩,rfl,rfl,jN.refl w _,qg w (AA (p:=3) (fN su.done hk uM) (fN su.done hk uM) rfl rfl rfl rfl rfl),.inr ⟨v,g,e,uQ,⟨uL,fun _=>l0,fun _=>⟨gd _,hs⟩,uK⟩⟩⟩
 ·have l0:=lo.uz aw;have lt:=lo.tag (.inl p);obtain ⟨h0,h1,h2⟩:=IN su.at_ ow (p:=3) (fN su.done hk uM) (.inr rfl);have hw: -1<=zC m.word:=by show -1<=m.word % 4294967296 - 1;omega
  obtain ⟨b1,b2⟩:=Slp.Qv (v:=zC m.word) f1 h0 h2;have hlen:(yU m e).next.length=e.next.length:=rq
  have hok:(yU m e).ok:=⟨f6.1,⟨fun x hx=>by
   rcases mem_set hx with hx | rfl
   ·exact f6.2.1.1 x hx
   ·unfold i64;omega,by rw [hlen];exact f6.2.1.2⟩,f6.2.2⟩
  have st2:=st1.iz su.at_ (e':=qq (yU m e) e.head e.zf) (tk:=g.zt) b2 hlen hok f7 aN;rw [dL aw,dO p]
  exact zM rfl ⟨tI,st2,Ap tg1 su.at_ (e':=qq (yU m e) e.head e.zf) ⟨by have:=te.1;show iy e<=_;omega,fun x hx=>by
    rcases mem_set hx with hx | rfl
    ·exact te.2 x hx
    ·exact ⟨hw,lt.2⟩⟩,uO,rfl,rfl,ky su.at_ (e':=qq (yU m e) e.head e.zf) ⟨hlen,gd _,fun _=>rfl,fun s s0 hso=>by
    show (e.next.set m.slot.toNat _)[s.toNat]?= _;rw [pa];intro hc;have hc:s=m.slot:=aw
    rw [hc,jm (p:=3) (fN su.done hk uM)] at hso;simp [qc] at hso⟩,KE su.at_ (e':=qq (yU m e) e.head e.zf) hlen (by rw [show Slp.qx (qq (yU m e) e.head e.zf)=Slp.qx e from b1]) rfl (AA (p:=3) (fN su.done hk uM) (fN su.done hk uM) rfl rfl rfl rfl rfl),
   .inr ⟨_,_,_,kZ (e':=qq (yU m e) e.head e.zf) (m':={ m with pc:=2 }) su hlen st2.jl rfl su.done rfl rfl rfl rfl rfl rfl rfl rfl,⟨uL,fun _=>l0,fun _=>lt,fun _=>by
    show (e.next.set m.slot.toNat _)[m.slot.toNat]?= _;rw [dQ aw]⟩⟩⟩
 ·have l0:=lo.uz aw;obtain ⟨h0,h1,h2⟩:=IN su.at_ ow (p:=3) (fN su.done hk uM) (.inr rfl);rw [dL aw,dL aw,dO p];by_cases q:e.head=m.word
  ·rw [dO q];have hx:=lo.next p;have hh:zC m.word=Slp.zC e:=by rw [<- q];rfl
   rw [hh] at hx;obtain ⟨c1,c2,c3⟩:=RB f6 f1 h0 h1 h2;rw [yp _ _ hx,q] at c1 c2 c3;have nt:=JN (i:=m.slot) te.1 f6.1 hN aw aw;rw [q] at nt;have st2:=st1.iz su.at_ (e':=qq e (Slp.qT m.word m.slot) e.zf) (tk:=g.zt) c1 rfl c2 f7 aN;have ta:iy (qq e (Slp.qT m.word m.slot) e.zf)=iy e+1:=by unfold iy;rw [q];exact nt
   exact zM rfl ⟨aO,st2,Ap tg1 su.at_ (e':=qq e (Slp.qT m.word m.slot) e.zf) ⟨by have:=te.1;omega,te.2⟩,uO,rfl,rfl,ky su.at_ (e':=qq e (Slp.qT m.word m.slot) e.zf) ⟨rfl,aw,fun h=>by omega,fun _ _ _=>rfl⟩,
    mG (p:=3) (p':=4) (fN su.done hk uM) (fN su.done hk uM) (TY su.at_ (e':=qq e (Slp.qT m.word m.slot) e.zf) rfl h0 h1 c3 h2 rfl m.listen),.inr ⟨_,_,_,kZ (e':=qq e (Slp.qT m.word m.slot) e.zf) (m':={ m with pc:=3 }) su rfl st2.jl rfl su.done rfl rfl rfl rfl rfl rfl rfl rfl,
    ⟨uL,fun _=>l0,uK,uK⟩⟩⟩
  ·rw [dL q];exact zM rfl ⟨aP,st1,tg1,uO,rfl,rfl,jN.refl w _,qg w (AA (p:=3) (fN su.done hk uM) (fN su.done hk uM) rfl rfl rfl rfl rfl),.inr ⟨v,g,e,uQ,⟨uL,fun _=>l0,uK,uK⟩⟩⟩
 ·have l0:=lo.uz aw;have a1:=RW su.at_ ow (p:=4) (fN su.done hk uM) (.inr rfl);have hw:IntKind.i64.wrap (e.zf - 1)=e.zf - 1:=qZ aw aw;have st2:=st1.iz su.at_ (e':=qq e e.head (e.zf - 1)) (tk:=g.zt) (Ky f1 _ aw) rfl ⟨f6.1,f6.2.1,by show i64 (e.zf - 1);unfold i64;omega⟩ f7 (by show e.zf - 1<=_;omega);rw [dL aw,dL aw,dL aw,dO p,hw]
  exact zM rfl ⟨tM,st2,Ap tg1 su.at_ (e':=qq e e.head (e.zf - 1)) (show nV (N+1) e from AF tg1 su.at_),uO,rfl,rfl,ky su.at_ (e':=qq e e.head (e.zf - 1)) ⟨rfl,gd _,fun _=>rfl,fun _ _ _=>rfl⟩,
   mG (p:=4) (p':=1) (fN su.done hk uM) (fN su.done hk uM) (TV su.at_ (e':=qq e e.head (e.zf - 1)) rfl rfl a1 rfl m.slot m.listen),.inr ⟨_,_,_,kZ (e':=qq e e.head (e.zf - 1)) (m':={ m with pc:=4 }) su rfl st2.jl rfl su.done rfl rfl rfl rfl rfl rfl rfl rfl,
   ⟨uL,fun _=>l0,uK,uK⟩⟩⟩
 ·have l0:=lo.uz aw;have p1:ph m=1:=(fN su.done hk uM);obtain ⟨_,x,hx,x1⟩:=J2 ow p1 ar;have ca:=st.fi.uz x (dM hx);have hw:IntKind.i64.wrap (x.zf - 1)=x.zf - 1:=qZ aw aw;have st2:=Fu st su hx (x.zf - 1) aw aw hK;unfold lD;rw [dL aw,dL aw,dL aw,dL aw,dO p,dL aw,hx,dV];unfold ot;rw [hw];exact zM rfl ⟨tM,st2,tg1,uP,rfl,rfl,Be hx rfl id,mG (p:=1) (p':=0) p1 (yv rfl (fun h=>absurd (hk.symm.trans h.1) ar)) (J9 l0 hx x1 rfl _ _ _ _ _ _ _ _ _),.inl ⟨rfl,.inl ⟨rfl,p⟩⟩⟩
 ·rw [dL aw,dL aw,dL aw,dL aw,dL aw,dO p];exact zM rfl ⟨uW,st1,tg1,uP,rfl,rfl,jN.refl w _,qg w (vQ (fN su.done hk uM) (yv rfl (fun h=>absurd (hk.symm.trans h.1) ar))),.inl ⟨rfl,.inr ⟨rfl,p⟩⟩⟩
def RX (ow:∀ x,jT m x<=Has w x) (h:ph m=5):m.version≠w.current∧∀ r ∈ w.zr,r.version≠m.version:=by
 have:=Bt ow h (.eu m.version) (by simp [qc]);simp only [Has] at this;split at this
 ·rename_i q;exact ⟨q.2.2.1,q.2.2.2⟩
 ·omega
def Jy (w:Wor) (n:Int) {x:uq} (hx:∀ g ∈ x.zm,∀ e ∈ g.ends,e.zf=0∧∀ s,fq e s=0) (i j k:Int):
  wD { w with current := n, ze := w.ze ++ [x] } i j k = wD w i j k ∨ (wD w i j k = none ∧ ∃ e, wD { w with current := n, ze := w.ze ++ [x] } i j k = some e ∧ e.zf = 0 ∧ ∀ s, fq e s = 0) := by
 unfold wD kK;dsimp only;by_cases q:0<=i∧0<=j∧0<=k
 ·rw [dO q,dO q];by_cases h:i.toNat < w.ze.length
  ·rw [dR h];exact .inl rfl
  ·rw [dY aw,pj (show w.ze.length<=i.toNat by omega),sL];cases hv:[x][i.toNat - w.ze.length]? with
   | none=>exact .inl rfl
   | some y=>
    have:y=x:=gF.1 (dM hv);subst this;rw [gp];cases hg:y.zm[j.toNat]? with
    | none=>exact .inl rfl
    | some g=>
     rw [gp];cases he:g.ends[k.toNat]? with
     | none=>exact .inl rfl
     | some e=>exact .inr ⟨rfl,e,rfl,hx g (dM hg) e (dM he)⟩
 ·rw [dL q,dL q];exact .inl rfl
def O8 (gw:jD w) {x:uq} (hx:∀ g ∈ x.zm,∀ e ∈ g.ends,e.zf=0∧∀ s,fq e s=0) (a b c d l a' b' c' l':Int):Mv w { w with current:=w.ze.length,ze:=w.ze++[x] } (qc 0 d a b c l) (qc 5 w.current a' b' c' l'):=fun y=>by
 have cu:=gw.current;rw [vW];cases y with
 | slot i j k s=>
  have:qc 5 w.current a' b' c' l' (.slot i j k s)=0:=by simp [qc]
  rw [this];rcases Jy w w.ze.length hx i j k with q | ⟨q,e,q1,q2,q3⟩
  ·simp only [Has,q]
  ·simp only [Has,q,q1,q3]
 | act i j k=>
  have:qc 5 w.current a' b' c' l' (.act i j k)=0:=by simp [qc]
  rw [this];rcases Jy w w.ze.length hx i j k with q | ⟨q,e,q1,q2,q3⟩
  ·simp only [Has,q]
  ·simp only [Has,q,q1,q2];rfl
 | uz i=>simp [Has,qc]
 | lock=>simp [Has,qc]
 | eu i=>
  have la:∀ r ∈ w.zr,r.version≠w.current∧r.version < w.ze.length:=fun r hr=>by
   obtain ⟨i,hi⟩:=gh.1 hr;have:=wY gw hi;exact ⟨this.2.2.2.2,this.2.2.2.1⟩
  simp only [Has,qc,sK,gN,pW];by_cases q:w.current=i
  ·rw [dO (show 0<=i∧_∧_∧_ from ⟨aw,aw,aw,fun r hr=>by have:=la r hr;omega⟩),dL aw,dO q]
  ·rw [dL q];by_cases q2:0<=i∧i < w.ze.length∧i≠w.current∧∀ r ∈ w.zr,r.version≠i
   ·rw [dO q2,dO ⟨q2.1,aw,aw,q2.2.2.2⟩]
   ·rw [dL q2,dL (fun z=>q2 ⟨z.1,aw,aw,z.2.2.2⟩)]
def P4 {x:u7} (h0:0<=x.version∧x.version < w.ze.length) (h1:x.version≠w.current) (h2:∀ r ∈ w.zr,r.version≠x.version) (a b c a' b' c' d' l l':Int):Mv w { w with zr:=w.zr++[x] } (qc 5 x.version a b c l) (qc 0 d' a' b' c' l'):=fun y=>by
 rw [vW];cases y with
 | slot i j k s=>simp [Has,qc];rfl
 | act i j k=>simp [Has,qc];rfl
 | uz i=>simp [Has,qc]
 | lock=>simp [Has,qc]
 | eu i=>
  simp only [Has,qc,sK];by_cases q:x.version=i
  ·rw [dL (fun z=>z.2.2.2 x aj q),dO q,dO (q ▸ ⟨h0.1,h0.2,h1,h2⟩)]
  ·rw [dL q];by_cases q2:0<=i∧i < w.ze.length∧i≠w.current∧∀ r ∈ w.zr,r.version≠i
   ·rw [dO q2,dO ⟨q2.1,q2.2.1,q2.2.2.1,fun r hr=>by
     rcases gD.1 hr with hr | hr
     ·exact q2.2.2.2 r hr
     ·rw [gF.1 hr];exact q⟩]
   ·rw [dL q2,dL (fun z=>q2 ⟨z.1,z.2.1,z.2.2.1,fun r hr=>z.2.2.2 r (gD.2 (.inl hr))⟩)]
def SK {x:eC} (h:Dn x) (n:Nat):nV n (xt x)∧∀ s,fq (xt x) s=0:=by
 have hs:=h.xB;unfold xt;have:x.xB=1∨x.xB=2∨x.xB=3∨x.xB=4:=aw
 rcases this with e | e | e | e <;> rw [e]
 ·refine ⟨⟨aQ,ar⟩,fun s=>?_⟩;unfold fq;rw [dL];rintro ⟨h1,h2,h3⟩;have h2:s < 1:=h2;have:s=0:=by omega
  subst this;exact dH
 ·refine ⟨⟨aQ,ar⟩,fun s=>?_⟩;unfold fq;rw [dL];rintro ⟨h1,h2,h3⟩;have h2:s < 2:=h2;have:s=0∨s=1:=by omega
  rcases this with rfl | rfl
  ·exact dH
  ·exact dH
 ·refine ⟨⟨aQ,ar⟩,fun s=>?_⟩;unfold fq;rw [dL];rintro ⟨h1,h2,h3⟩;have h2:s < 3:=h2;have:s=0∨s=1∨s=2:=by omega
  rcases this with rfl | rfl | rfl
  ·exact dH
  ·exact dH
  ·exact dH
 ·refine ⟨⟨aQ,ar⟩,fun s=>?_⟩;unfold fq;rw [dL];rintro ⟨h1,h2,h3⟩;have h2:s < 4:=h2;have:s=0∨s=1∨s=2∨s=3:=by omega
  rcases this with rfl | rfl | rfl | rfl
  ·exact dH
  ·exact dH
  ·exact dH
  ·exact dH
def Jf {s:Sna} (h:yZ s=true) (n:Nat):∀ g ∈ (qM s).1.zm,∀ e ∈ g.ends,nV n e∧e.zf=0∧∀ t,fq e t=0:=fun g hg e he=>by
 unfold qM at hg;rw [dO h] at hg;obtain ⟨x,hx,rfl⟩:=gC.1 (show g ∈ s.zk.map fU from hg);rw [gL (show e ∈ List.replicate x.zL.length (xt x) from he)];have gc:=(jq h).all x hx;have f:=vK gc;have q:=SK gc n;exact ⟨q.1,f.2.2.1,q.2⟩
def RO (st:St N K w) (tg:Tg N w) (su:qH w m v g e) (tm:eJ m) (lo:DJ w m v g e) (hk:m.op.kind=3) (ow:∀ x,jT m x<=Has w x):∃ r,vg w m=some r∧Nc N K w m DJ oE r:=by
 have gw:=st.jl;have st1:St (N+1) (K+1) w:=st.mono aw aw;have tg1:=tg.mono (pz N);have pc:=lo.pc;have cu:=gw.current;unfold vg;rcases (by omega:m.pc=0∨m.pc=1∨m.pc=2) with p | p | p
 ·rw [dO p];by_cases q:lu m.op.config=0
  ·rw [dO q];have hc:(q8 m.op.config).1=0:=by rw [<- wy];exact q
   have st2:=st.Kg hc (tm.cfg hk);have fr:=Jf (Ef hc);obtain ⟨v',hv'⟩:∃ v',w.ze[w.current.toNat]?= some v':=⟨_,dK aw⟩;have gv:=(gw.eu _ v' hv').1;have h0:0 < v'.zm.length:=aE
   obtain ⟨g',e',hg,he,l1,l2⟩:=vH gv h0
   exact zM rfl ⟨(by show (6:Int)≠0;decide),st2,fun v2 hv g2 hg e2 he=>by
     rcases gD.1 hv with hv | hv
     ·exact tg1 v2 hv g2 hg e2 he
     ·rw [gF.1 hv] at hg;exact (fr (N+1) g2 hg e2 he).1,uO,rfl,rfl,Qu,mG (p:=0) (p':=5) (nr su.done hk uM) (nr su.done hk uM) (O8 gw (fun g hg e he=>(fr 0 g hg e he).2) _ _ _ _ _ _ _ _ _),.inr ⟨v',g',e',⟨qi.2 st2.jl,su.zj,su.done,⟨cu.1,aR⟩,
    by show (w.ze++[yN m.op.config])[w.current.toNat]?= some v';rw [dR aw];exact hv',⟨gd _,aK⟩,hg,⟨gd _,aK⟩,he,⟨gd _,aK⟩,⟨gd _,aK⟩,su.listen,by show (0:Int)<=(w.ze.length:Nat);omega,su.k⟩,
    ⟨uL,uK⟩⟩⟩
  ·rw [dL q];exact zM rfl ⟨uW,st1,tg1,uP,rfl,rfl,jN.refl w _,qg w (vQ (nr su.done hk uM) (yv rfl (fun h=>absurd (hk.symm.trans h.1) ar))),.inl ⟨rfl,by show (7:Int)<=9∧(9:Int)<=13;decide⟩⟩
 ·have ep:=(qa.1 gw.ground).zn;rw [dL aw,dO p];exact zM rfl ⟨uW,st1,tg1,uO,rfl,rfl,jN.refl w _,qg w (UR (nr su.done hk uM) (nr su.done hk uM) rfl),.inr ⟨v,g,e,uQ,⟨uL,fun _=>⟨ep.1,gd _⟩⟩⟩⟩
 ·have p5:ph m=5:=(nr su.done hk uM);have vf:=RX ow p5;have ep:=lo.ep p;have sv:=su.version
  have nl:kR w m=false:=by
   unfold kR;simp only [gY,gI,gM,beq_eq_false_iff_ne,gT];exact ⟨⟨⟨fun r hr=>vf.2 r hr,vf.1⟩,aw⟩,aw⟩
  have st2:=st.KX (x:=⟨m.version,m.zn,false⟩) sv.1 sv.2 vf.1 ep.1 ep.2 rfl vf.2;rw [dL aw,dL aw,dO p,nl];exact zM rfl ⟨tI,st2,tg1,uP,rfl,rfl,R0,mG (p:=5) (p':=0) p5 (yv rfl (fun h=>absurd (hk.symm.trans h.1) ar)) (P4 (x:=⟨m.version,m.zn,false⟩) sv vf.1 vf.2 _ _ _ _ _ _ _ _ _),.inl ⟨rfl,by show (7:Int)<=8∧(8:Int)<=13;decide⟩⟩
def Ru (st:St N K w) (tg:Tg N w) (su:qH w m v g e) (tm:eJ m) (lo:m.pc=0) (hk:m.op.kind=4) (hN:N<=100000000):∃ r,ny w m=some r∧Nc N K w m (fun _ m _ _ _=>m.pc=0) oE r:=by
 have gw:=st.jl;have st1:St (N+1) (K+1) w:=st.mono aw aw;have tg1:=tg.mono (pz N);have pr:=D3 w.zd m.op.listen;have hl:=st.ty.uz;have p0:ph m=0:=Bx su.done aw aw aw aw;unfold ny;rw [dO lo];by_cases q:zT w.zd m.op.listen < 0
 ·rw [dO q];exact zM rfl ⟨uW,st1,tg1,uP,rfl,rfl,jN.refl w _,qg w (vQ p0 (yv rfl (fun h=>absurd (hk.symm.trans h.1) ar))),.inl ⟨rfl,by show (7:Int)<=7∧(7:Int)<=13;decide⟩⟩
 ·rw [dL q];obtain ⟨x,hx⟩:∃ x,w.zd[(zT w.zd m.op.listen).toNat]?= some x:=⟨_,dK aw⟩;have li:=C1 (gw.uz _ x hx).1;have lk:=st.ty.iS x (dM hx);have ca:=st.fi.uz x (dM hx);rw [hx,dV];have st2:=st1.Bv hx (y:=Go.Gat.wC x) rfl (CO li.1 li.2.1 rfl) lk.2 (by show x.zf<=_;omega);exact zM rfl ⟨tI,st2,tg1,⟨aJ,tm.word,tm.link,tm.host,tm.path,tm.d0,tm.d1,tm.cfg,(fun h=>absurd ((show m.op.kind=6 from h).symm.trans hk) ar)⟩,rfl,rfl,Be hx rfl (fun _=>rfl),IL (y:=Go.Gat.wC x) aw hx rfl (vQ p0 (yv rfl (fun h=>absurd (hk.symm.trans h.1) ar))),.inl ⟨rfl,by show (7:Int)<=10∧(10:Int)<=13;decide⟩⟩
def Rv (st:St N K w) (tg:Tg N w) (su:qH w m v g e) (tm:eJ m) (lo:AT w m v g e) (hk:m.op.kind=6):∃ r,nu w m=some r∧Nc N K w m AT oE r:=by
 have st1:St (N+1) (K+1) w:=st.mono aw aw;have tg1:=tg.mono (pz N);have i0:=su.i;have k0:=su.k;have ik:=lo.i;have kk:=lo.k;have uj:m.i.toNat < w.counts.length:=aw
 have hl:=(qa.1 st.jl.ground).counts.2 _ (gH uj);have p0:ph m=0:=Bx su.done aw aw aw aw;unfold nu;rw [dO ⟨lo.pc,lo.k⟩,dK uj,gp,dK (show m.k.toNat < (w.counts[m.i.toNat]).length by omega),dV];generalize (w.counts[m.i.toNat])[m.k.toNat]'aw=n;by_cases h6:m.k+1=6
 ·by_cases h7:m.i+1=w.counts.length
  ·have e3:=Fp (n:=n) h6 h7
   exact zM rfl ⟨uW,st1,tg1,by
     show eJ (jP w m n);rw [e3];exact ⟨tm.listen,tm.word,tm.link,tm.host,tm.path,tm.d0,tm.d1,tm.cfg,fun _ h=>(by cases h)⟩,by show (jP w m n).op=m.op;rw [e3],by show (jP w m n).zj=m.zj;rw [e3],jN.refl w _,qg w (vQ p0 (by show ph (jP w m n)=0;rw [e3];exact yv rfl (fun h=>absurd (hk.symm.trans h.1) ar))),.inl (by
     show (jP w m n).done=true∧oE (jP w m n);rw [e3];exact ⟨rfl,by show (7:Int)<=13∧(13:Int)<=13;decide⟩)⟩
  ·have e2:=FB (n:=n) h6 h7
   exact zM rfl ⟨uW,st1,tg1,by
     show eJ (jP w m n);rw [e2];exact uO,by show (jP w m n).op=m.op;rw [e2],by show (jP w m n).zj=m.zj;rw [e2],jN.refl w _,qg w (vQ p0 (by show ph (jP w m n)=0;rw [e2];exact Bx su.done (by show m.op.kind≠1;omega) (by show m.op.kind≠2;omega) (by show m.op.kind≠3;omega) (by show m.op.kind≠5;omega))),.inr ⟨v,g,e,by
     show qH w (jP w m n) v g e;rw [e2];exact ⟨su.world,su.zj,su.done,su.version,su.eF,su.zg,su.u9,su.end_,su.eE,su.other,su.slot,su.listen,by show 0<=m.i+1;omega,gd _⟩,by
     show AT w (jP w m n) v g e;rw [e2];exact ⟨lo.pc,by show (0:Int) < 6;decide,by show m.i+1 < _;omega⟩⟩⟩
 ·have e1:=FA (w:=w) (n:=n) h6 aw
  exact zM rfl ⟨uW,st1,tg1,by
    show eJ (jP w m n);rw [e1];exact uO,by show (jP w m n).op=m.op;rw [e1],by show (jP w m n).zj=m.zj;rw [e1],jN.refl w _,qg w (vQ p0 (by show ph (jP w m n)=0;rw [e1];exact Bx su.done (by show m.op.kind≠1;omega) (by show m.op.kind≠2;omega) (by show m.op.kind≠3;omega) (by show m.op.kind≠5;omega))),.inr ⟨v,g,e,by
    show qH w (jP w m n) v g e;rw [e1];exact ⟨su.world,su.zj,su.done,su.version,su.eF,su.zg,su.u9,su.end_,su.eE,su.other,su.slot,su.listen,su.i,by show 0<=m.k+1;omega⟩,by
    show AT w (jP w m n) v g e;rw [e1];exact ⟨lo.pc,by show m.k+1 < 6;omega,lo.i⟩⟩⟩
end
def TW {w:Wor} (h:w.lock=0) (a b c d l a' b' c' d' l':Int):Mv w { w with lock:=1 } (qc 0 a b c d l) (qc 6 a' b' c' d' l'):=fun y=>by
 rw [vW];cases y with
 | slot i j k s=>simp [Has,qc];rfl
 | act i j k=>simp [Has,qc];rfl
 | uz i=>simp [Has,qc]
 | eu i=>simp [Has,qc]
 | lock=>simp [Has,qc,h]
def P5 {w:Wor} (h:w.lock=1) (a b c d l a' b' c' d' l':Int):Mv w { w with lock:=0 } (qc 6 a' b' c' d' l') (qc 0 a b c d l):=fun y=>by
 rw [vW];cases y with
 | slot i j k s=>simp [Has,qc];rfl
 | act i j k=>simp [Has,qc];rfl
 | uz i=>simp [Has,qc]
 | eu i=>simp [Has,qc]
 | lock=>simp [Has,qc,h]
def R6 {w:Wor} {i k:Nat} {v:uq} {x:u7} {a b:Key->Nat} (hv:w.ze[k]?= some v) (hx:w.zr[i]?= some x) (h:a=b):Mv w { w with ze:=w.ze.set k (nB v),zr:=w.zr.set i (kP x) } a b:=fun y=>by
 rw [h]
 have en:∀ p q r,wD { w with ze:=w.ze.set k (nB v),zr:=w.zr.set i (kP x) } p q r=wD w p q r:=fun p q r=>by
  unfold wD kK;dsimp only;by_cases z:k=p.toNat
  ·subst z;rw [dQ (dJ.1 hv).1,hv,gp,gp]
  ·rw [pa z]
 cases y with
 | slot p q r s=>simp only [Has,en]
 | act p q r=>simp only [Has,en]
 | uz p=>rfl
 | lock=>rfl
 | eu p=>
  have ml:(∀ r ∈ w.zr.set i (kP x),r.version≠p)↔∀ r ∈ w.zr,r.version≠p:=by
   constructor
   ·intro z r hr;obtain ⟨j,hj⟩:=gh.1 hr;by_cases e:i=j
    ·subst e;rw [hx] at hj;cases hj
     exact z (kP x) (gh.2 ⟨i,dQ (dJ.1 hx).1⟩)
    ·exact z r (gh.2 ⟨j,by rw [pa e];exact hj⟩)
   ·intro z r hr;rcases mem_set hr with hr | rfl
    ·exact z r hr
    ·exact z x (dM hx)
  simp only [Has,rq,ml]
section
variable {N K:Nat} {w:Wor} {m:uk} {v:uq} {g:Gr} {e:En}
def SJ {i k:Nat} {x:u7} (tg:Tg N w) (hv:w.ze[k]?= some v):Tg N { w with ze:=w.ze.set k (nB v),zr:=w.zr.set i (kP x) }:=fun v2 hv2 g hg e he=>by
 rcases mem_set hv2 with hv2 | rfl
 ·exact tg v2 hv2 g hg e he
 ·exact tg v (dM hv) g hg e he
def Qn (ow:∀ x,jT m x<=Has w x) (gw:jD w) (h:ph m=6):w.lock=1:=by
 have:=Bt ow h .lock (by simp [qc]);have l:=(qa.1 gw.ground).lock;simp only [Has] at this;omega
def KM {m1:uk} (st:St N K w) (tg:Tg N w) (su:qH w m1 v g e) (tm:eJ m1) (hk:m1.op.kind=5) (hN:N<=100000000) (hpc:m1.pc=8) (ho:m1.op=m.op) (ht:m1.zj=m.zj) (p6:ph m=6) (lk:w.lock=1):Nc N K w m B4 oE (mS w m1):=by
 have st1:St (N+1) (K+1) w:=st.mono aw aw;have tg1:=tg.mono (pz N);have i0:=su.i;have hl:=st.ty.uz;unfold mS;cases hx:w.zd[m1.i.toNat]? with
 | none=>
  have st2:=st1.B6 (n:=0) (.inl rfl);exact ⟨tI,st2,tg1,⟨tm.listen,tm.word,tm.link,tm.host,tm.path,tm.d0,tm.d1,tm.cfg,fun h=>absurd ((show m1.op.kind=6 from h).symm.trans hk) ar⟩,ho,ht,xL (gd _) rfl rfl rfl rfl rfl,mG (p:=6) (p':=0) p6 (yv rfl (fun h=>absurd (hk.symm.trans h.1) ar)) (P5 lk _ _ _ _ _ _ _ _ _ _),.inl ⟨rfl,by show (7:Int)<=11∧(11:Int)<=13;decide⟩⟩
 | some l=>
  have uj:=(dJ.1 hx).1;have hw:IntKind.i64.wrap (m1.i+1)=m1.i+1:=qZ aw aw;dsimp only;by_cases q:l.drain=true∧l.closed=false
  ·unfold AV;rw [dO q];exact ⟨uW,st1,tg1,uO,ho,ht,jN.refl w _,qg w (vR p6 (fJ su.done hk uM)),.inr ⟨v,g,e,uQ,⟨uL,uK,uK,uK,fun _=>⟨l,hx,q.1⟩⟩⟩⟩
  ·unfold AV;rw [dL q,hw];exact ⟨uW,st1,tg1,uO,ho,ht,jN.refl w _,qg w (vR p6 (fJ su.done hk uM)),.inr ⟨v,g,e,⟨su.world,su.zj,su.done,su.version,su.eF,su.zg,su.u9,su.end_,su.eE,su.other,su.slot,su.listen,(by show 0<=m1.i+1;omega),su.k⟩,⟨by show _∨(8<=m1.pc∧m1.pc<=10);omega,uK,uK,uK,uK⟩⟩⟩
def NP (st:St N K w) (tg:Tg N w) (su:qH w m v g e) (tm:eJ m) (lo:B4 w m v g e) (hk:m.op.kind=5) (hN:N<=100000000) (ow:∀ x,jT m x<=Has w x):∃ r,yR w m=some r∧Nc N K w m B4 oE r:=by
 have gw:=st.jl;have st1:St (N+1) (K+1) w:=st.mono aw aw;have tg1:=tg.mono (pz N);have i0:=su.i;have k0:=su.k;have gr:=qa.1 gw.ground;have lT:=st.ty.uz;have lL:=st.ty.fH;have pc:=lo.pc;have pcs:m.pc=0∨m.pc=1∨m.pc=2∨m.pc=3∨m.pc=4∨m.pc=5∨m.pc=6∨m.pc=8∨m.pc=9∨m.pc=10:=aw
 unfold yR;by_cases p:m.pc=0
 ·rw [dO p];by_cases q:w.lock=0
  ·rw [dO q];have st2:=st1.B6 (n:=1) (.inr rfl);exact zM rfl ⟨aO,st2,tg1,uO,rfl,rfl,xL (gd _) rfl rfl rfl rfl rfl,mG (p:=0) (p':=6) (fJ su.done hk uM) (fJ su.done hk uM) (TW q _ _ _ _ _ _ _ _ _ _),.inr ⟨v,g,e,⟨qi.2 st2.jl,su.zj,su.done,su.version,su.eF,su.zg,su.u9,su.end_,su.eE,su.other,su.slot,su.listen,su.i,su.k⟩,⟨uL,uK,uK,uK,uK⟩⟩⟩
  ·rw [dL q];exact zM rfl ⟨aP,st1,tg1,uP,rfl,rfl,jN.refl w _,qg w (vQ (fJ su.done hk uM) (yv rfl (fun h=>absurd (hk.symm.trans h.1) ar))),.inl ⟨rfl,by show (7:Int)<=12∧(12:Int)<=13;decide⟩⟩
 replace pcs:=pcs.resolve_left p
 have p6:ph m=6:=(fJ su.done hk uM);have lk:=Qn ow gw p6;have kl:jT m .lock=1:=by rw [jm p6];simp [qc]
 rw [dL p];clear p
 by_cases p:m.pc=1
 ·rw [dO p];exact zM rfl ⟨uW,st1,tg1,uO,rfl,rfl,jN.refl w _,qg w (vR p6 (fJ su.done hk uM)),.inr ⟨v,g,e,uS,⟨uL,fun _=>by show (0:Int) < (w.pins.length:Nat);have:=gr.pins.1;omega,uK,uK,uK⟩⟩⟩
 replace pcs:=pcs.resolve_left p
 rw [dL p];clear p
 by_cases p:m.pc=2
 ·rw [dO p];have hi:=lo.iT p;obtain ⟨x,hx⟩:∃ x,w.pins[m.i.toNat]?= some x:=⟨_,dK aw⟩;have hw:IntKind.i64.wrap (m.i+1)=m.i+1:=qZ aw (by have:=gr.pins.2;omega);rw [hx,dV];unfold oG;rw [hw];by_cases q:x≠0∧x≠IntKind.i64.wrap (m.zn+1)
  ·rw [dO q];exact zM rfl ⟨uW,st1,tg1,uO,rfl,rfl,jN.refl w _,qg w (vR p6 (fJ su.done hk uM)),.inr ⟨v,g,e,uS,⟨uL,uK,uK,uK,uK⟩⟩⟩
  rw [dL q];by_cases q2:m.i+1 < w.pins.length
  ·rw [dO q2];exact zM rfl ⟨uW,st1,tg1,uO,rfl,rfl,jN.refl w _,qg w (vR p6 (fJ su.done hk uM)),.inr ⟨v,g,e,uR,⟨aS,fun _=>q2,uK,uK,uK⟩⟩⟩
  ·rw [dL q2];exact dm
 replace pcs:=pcs.resolve_left p
 rw [dL p];clear p
 by_cases p:m.pc=3
 ·rw [dO p];by_cases q:w.zn=m.zn∧w.zn < 1000000000000
  ·have hw:IntKind.i64.wrap (w.zn+1)=w.zn+1:=qZ (by have:=gr.zn;omega) aw;rw [dO q,hw];have st2:=st1.DQ (n:=w.zn+1) aw aw;exact zM rfl ⟨aO,st2,tg1,uO,rfl,rfl,xL (by show w.zn<=w.zn+1;omega) rfl rfl rfl rfl rfl,Ah rfl rfl rfl rfl rfl (vR p6 (fJ su.done hk uM)),.inr ⟨v,g,e,⟨qi.2 st2.jl,su.zj,su.done,su.version,su.eF,su.zg,su.u9,su.end_,su.eE,su.other,su.slot,su.listen,gd _,su.k⟩,⟨uL,uK,uK,uK,uK⟩⟩⟩
  ·rw [dL q];exact zM rfl ⟨aP,st1,tg1,uO,rfl,rfl,jN.refl w _,qg w (vR p6 (fJ su.done hk uM)),.inr ⟨v,g,e,uS,⟨uL,uK,uK,uK,uK⟩⟩⟩
 replace pcs:=pcs.resolve_left p
 rw [dL p];clear p
 by_cases p:m.pc=4
 ·rw [dO p];cases hx:w.zr[m.i.toNat]? with
  | none=>exact zM rfl (KM st tg (m1:=fm m 8 0) uS uO hk hN rfl rfl rfl p6 lk)
  | some r=>
   have uj:=(dJ.1 hx).1;have hw:IntKind.i64.wrap (m.i+1)=m.i+1:=qZ aw aw;have la:=wY gw hx;dsimp only;unfold oF;rw [hw];by_cases q:r.gone=true∨Go.Lim.od r.at_ m.zn=false
   ·rw [dO q];exact zM rfl ⟨uW,st1,tg1,uO,rfl,rfl,jN.refl w _,qg w (vR p6 (fJ su.done hk uM)),.inr ⟨v,g,e,uR,⟨aS,uK,uK,uK,uK⟩⟩⟩
   ·rw [dL q];obtain ⟨v',hv'⟩:∃ v',w.ze[r.version.toNat]?= some v':=⟨_,dK aw⟩;have gv:=(gw.eu _ v' hv').1;have h0:0 < v'.zm.length:=by have:=(jq gv.snap).zk.1;have:=gv.len;omega
    obtain ⟨g',e',hg,he,l1,l2⟩:=vH gv h0;have el:=Jz gv
    exact zM rfl ⟨uW,st1,tg1,uO,rfl,rfl,jN.refl w _,qg w (vR p6 (fJ su.done hk uM)),.inr ⟨v',g',e',⟨su.world,su.zj,su.done,⟨la.2.2.1,la.2.2.2.1⟩,hv',⟨gd _,aK⟩,hg,⟨gd _,aK⟩,he,⟨gd _,aK⟩,⟨gd _,aK⟩,su.listen,su.i,gd _⟩,
     ⟨uL,uK,fun _=>⟨r,hx,rfl,by cases hgo:r.gone with | false=>rfl | true=>exact absurd (.inl hgo) q⟩,fun _=>by show (0:Int) < _;omega,uK⟩⟩⟩
 replace pcs:=pcs.resolve_left p
 rw [dL p];clear p
 by_cases p:m.pc=5
 ·rw [dO p];obtain ⟨r,hr,hrv,hrg⟩:=lo.fH (.inl p);have uj:=(dJ.1 hr).1;have hk2:=lo.act p;have gv:=(gw.eu _ v su.eF).1;have el:=Jz gv;have hw:IntKind.i64.wrap (m.i+1)=m.i+1:=qZ aw aw;have hwk:IntKind.i64.wrap (m.k+1)=m.k+1:=qZ aw aw;obtain ⟨x,hx⟩:∃ x,(yd v)[m.k.toNat]?= some x:=⟨_,dK aw⟩;rw [su.eF,gp,hx,dV];unfold Ad;rw [hw,hwk];by_cases q:x.zf≠0
  ·rw [dO q];exact dm
  rw [dL q];by_cases q2:m.k+1 < (yd v).length
  ·rw [dO q2];exact zM rfl ⟨uW,st1,tg1,uO,rfl,rfl,jN.refl w _,qg w (vR p6 (fJ su.done hk uM)),.inr ⟨v,g,e,⟨su.world,su.zj,su.done,su.version,su.eF,su.zg,su.u9,su.end_,su.eE,su.other,su.slot,su.listen,su.i,(by show 0<=m.k+1;omega)⟩,⟨aS,uK,fun _=>⟨r,hr,hrv,hrg⟩,fun _=>q2,uK⟩⟩⟩
  ·rw [dL q2];exact zM rfl ⟨uW,st1,tg1,uO,rfl,rfl,jN.refl w _,qg w (vR p6 (fJ su.done hk uM)),.inr ⟨v,g,e,⟨su.world,su.zj,su.done,su.version,su.eF,su.zg,su.u9,su.end_,su.eE,su.other,su.slot,su.listen,su.i,(by show 0<=m.k+1;omega)⟩,⟨uL,uK,fun _=>⟨r,hr,hrv,hrg⟩,uK,uK⟩⟩⟩
 replace pcs:=pcs.resolve_left p
 rw [dL p];clear p
 by_cases p:m.pc=6
 ·rw [dO p];obtain ⟨r,hr,hrv,hrg⟩:=lo.fH (.inr p);have uj:=(dJ.1 hr).1;have hw:IntKind.i64.wrap (m.i+1)=m.i+1:=qZ aw aw;have st2:=st.qk su.version.1 su.eF hr hrv;have s1:=(dJ.1 su.eF).1;rw [su.eF,gp,hr,gp,dO ⟨hrv,hrg⟩];unfold AU;rw [hw]
  exact zM rfl ⟨tI,st2,SJ tg1 su.eF,uP,rfl,rfl,PC kl su.eF hr,R6 su.eF hr (vR p6 (fJ su.done hk uM)),.inr ⟨nB v,g,e,⟨qi.2 st2.jl,su.zj,su.done,aq su.version,dQ s1,su.zg,su.u9,su.end_,su.eE,su.other,su.slot,su.listen,by show 0<=m.i+1;omega,su.k⟩,
   ⟨uL,uK,uK,uK,uK⟩⟩⟩
 replace pcs:=pcs.resolve_left p
 rw [dL p];clear p
 by_cases p:m.pc=8
 ·rw [dO p];exact zM rfl (KM st tg su tm hk hN p rfl rfl p6 lk)
 replace pcs:=pcs.resolve_left p
 rw [dL p];clear p
 by_cases p:m.pc=9
 ·rw [dO p];obtain ⟨l,hl,hd⟩:=lo.uz (.inl p);have uj:=(dJ.1 hl).1;have hw:IntKind.i64.wrap (m.i+1)=m.i+1:=qZ aw aw;rw [hl,dV,hw];by_cases q:l.zf=0
  ·rw [dO q];exact zM rfl ⟨uW,st1,tg1,uO,rfl,rfl,jN.refl w _,qg w (vR p6 (fJ su.done hk uM)),.inr ⟨v,g,e,uQ,⟨uL,uK,uK,uK,fun _=>⟨l,hl,hd⟩⟩⟩⟩
  ·rw [dL q];exact dm
 rw [dL p];have p:m.pc=10:=pcs.resolve_left p;obtain ⟨l,hl,hd⟩:=lo.uz (.inr p);have uj:=(dJ.1 hl).1;have hw:IntKind.i64.wrap (m.i+1)=m.i+1:=qZ aw aw;have li:=C1 (gw.uz _ l hl).1;have st2:=st1.Bv hl (y:=BM l) rfl (CO li.1 li.2.1 (by show (l.drain || !true)=true;rw [hd];rfl)) (st.ty.iS l (dM hl)).2 (by have:=st.fi.uz l (dM hl);show l.zf<=_;omega);rw [dO p,hl,gp,dO hd,hw];exact zM rfl ⟨tI,st2,tg1,uO,rfl,rfl,Be hl rfl id,IL (y:=BM l) i0 hl rfl (vR p6 (fJ su.done hk uM)),.inr ⟨v,g,e,⟨qi.2 st2.jl,su.zj,su.done,su.version,su.eF,su.zg,su.u9,su.end_,su.eE,su.other,su.slot,aq su.listen,by show 0<=m.i+1;omega,su.k⟩,⟨uL,uK,uK,uK,uK⟩⟩⟩
end
def kO {α:Type} {l l':List α} {i:Nat} {x:α} (h:l[i]?= some x) (hl:l.length<=l'.length):∃ y,l'[i]?= some y:=
 ⟨_,dK (by have:=(dJ.1 h).1;omega)⟩
def Jc:∀ {l l':List Gr},l'.length=l.length->(∀ (j:Nat) g g',l[j]?= some g->l'[j]?= some g'->g'.ends.length=g.ends.length)->(l'.flatMap (·.ends)).length=(l.flatMap (·.ends)).length
 | [],[],_,_=>rfl
 | g::l,g'::l',h,hh=>by
  have ih:=Jc (l:=l) (l':=l') (aq h) fun j a b ha hb=>hh (j+1) a b (aq ha) (aq hb)
  have h0:=hh 0 g g' rfl rfl;simp only [tz,gN];omega
 | [],_::_,h,_=>by simp at h
 | _::_,[],h,_=>by simp at h
def Qm {e:En} (h:Slp.u5 e=true) (h0:0<=Slp.zC e):Slp.zC e ∈ (Slp.qx e).1:=by
 have ok:=(Slp.n7 h).1;rw [Slp.oN ok,(Slp.Eg ok aw).2.2];exact px ..
def KZ (e:En) (s:Int):fq e s<=1:=by unfold fq;split <;> omega
def TS {w w':Wor} {m:uk} {v:uq} {g:Gr} {e:En} {o:Key->Nat} (su:qH w m v g e) (lc:Lc w m v g e) (gw:jD w) (gw':jD w') (kp:jN w w' o) (ow:∀ x,o x+jT m x<=Has w x):
  ∃ v' g' e',qH w' m v' g' e'∧Lc w' m v' g' e':=by
 have hv:=su.version;have hg:=su.zg;have he:=su.end_;obtain ⟨v',av⟩:=kO su.eF kp.fX;have kv:=kp.eu _ v v' su.eF av;obtain ⟨g',ag⟩:=kO su.u9 (rW kv.len.symm);have kg:=kv.np _ g g' su.u9 ag;obtain ⟨e',ae⟩:=kO su.eE (rW kg.len.symm);have ke:=kg.ends _ e e' su.eE ae;rw [pM hv.1,pM hg.1,pM he.1] at ke;have l1:=kp.fX;have l2:=kv.len;have l3:=kg.len;have l4:=ke.len;have l5:=kp.pins;have l6:=kp.uz;have su':qH w' m v' g' e':=⟨qi.2 gw',by have:=su.zj;omega,su.done,aw,av,aw,ag,aw,ae,by have:=su.other;omega,by have:=su.slot;omega,by have:=su.listen;omega,su.i,su.k⟩;refine ⟨v',g',e',su',?_⟩;have isv:=(((gw.eu _ v su.eF).1.fE.2 g (dM su.u9)).2.2 e (dM su.eE)).1;have hsl:=EX su.at_ m.slot;have s0:=su.slot;have slo:=ow (.slot m.version m.zg m.end_ m.slot);rw [hsl] at slo;have sle:=KZ e m.slot;rcases lc with ⟨hk,lo⟩ | ⟨hk,lo⟩ | ⟨hk,lo⟩ | ⟨hk,lo⟩ | ⟨hk,lo⟩ | ⟨hk,lo⟩
 ·refine .inl ⟨hk,⟨lo.pc,fun h=>?_,lo.uz,lo.early,lo.nX,fun h=>?_,fun h=>?_,fun h h2=>?_,lo.iO,lo.kind⟩⟩
  ·have:=lo.ep h;have:=kp.zn;omega
  ·obtain ⟨c,h1,h2⟩:=lo.draw h;exact ⟨c,by rw [kv.snap];exact h1,h2⟩
  ·have:=lo.slot h;have:=ke.tag;exact ⟨(lo.slot h).1,aw⟩
  ·have q:=lo.slot (.inr h);have t1:=ke.tag;have t2:iy e'=m.word / 4294967296:=by unfold iy;rw [h2]
   have hh:=ke.head aw;have hm:e.head=m.word:=by rw [<- hh];exact h2
   have hs:Slp.zC e=m.slot:=by rw [q.1,<- hm];rfl
   have fr:=Qm isv aw
   have z:fq e m.slot=0:=by
    unfold fq;rw [dL (fun z=>z.2.2 (hs ▸ fr))]
   rw [ke.next m.slot s0.1 (by show o _=0;omega)];exact lo.link h hm
 ·refine .inr (.inl ⟨hk,⟨lo.pc,lo.uz,fun h=>?_,fun h=>?_⟩⟩)
  ·have:=lo.tag h;have:=ke.tag;omega
  ·have p3:ph m=3:=fN su.done hk (by rw [dO aw]);have:jT m (.slot m.version m.zg m.end_ m.slot)=1:=by rw [jm p3];simp [qc]
   rw [ke.next m.slot s0.1 (by show o _=0;omega)];exact lo.next h
 ·refine .inr (.inr (.inl ⟨hk,⟨lo.pc,fun h=>?_⟩⟩));have:=lo.ep h;have:=kp.zn;omega
 ·exact .inr (.inr (.inr (.inl ⟨hk,lo⟩)))
 ·refine .inr (.inr (.inr (.inr (.inl ⟨hk,⟨lo.pc,fun h=>?_,fun h=>?_,fun h=>?_,fun h=>?_⟩⟩))))
  ·have:=lo.iT h;omega
  ·obtain ⟨r,h1,h2,h3⟩:=lo.fH h;obtain ⟨r',h4⟩:=kO h1 kp.fH;have q:=kp.zr _ r r' h1 h4;have p6:ph m=6:=fJ su.done hk (by rw [dO aw]);have k1:jT m .lock=1:=by rw [jm p6];simp [qc]
   have lk:=(qa.1 gw.ground).lock;have k2:=ow .lock;have k3:Has w .lock=w.lock.toNat:=rfl;exact ⟨r',h4,by rw [q.1];exact h2,by rw [q.2.2 aw];exact h3⟩
  ·have:=lo.act h;have fl:(yd v').length=(yd v).length:=Jc l2 fun j a b ha hb=>(kv.np j a b ha hb).len
   omega
  ·obtain ⟨l,h1,h2⟩:=lo.uz h;obtain ⟨l',h3⟩:=kO h1 (rW l6.symm);exact ⟨l',h3,(kp.wo _ l l' h1 h3).2 h2⟩
 ·exact .inr (.inr (.inr (.inr (.inr ⟨hk,⟨lo.pc,lo.k,by have:=lo.i;have:=kp.counts;omega⟩⟩))))
def To {N K:Nat} {w:Wor} {m:uk} {v:uq} {g:Gr} {e:En} (st:St N K w) (tg:Tg N w) (su:qH w m v g e) (tm:eJ m) (lo:Lc w m v g e) (hN:N<=100000000) (hK:K<=1099511627776) (ow:∀ x,jT m x<=Has w x):∃ r,lq w m=some r∧Nc N K w m Lc DH r:=by
 have up:∀ {L:Wor->uk->uq->Gr->En->Prop} {F:uk->Prop} {r:Wor × uk × uv},Nc N K w m L F r->(∀ w' m' v g e,m'.op=m.op->L w' m' v g e->Lc w' m' v g e)->(∀ m',m'.op=m.op->F m'->DH m')->Nc N K w m Lc DH r:=fun h hL hF=>
  ⟨h.ev,h.st,h.tg,h.tm,h.op,h.th,h.keep,h.mv,h.go.imp (fun z=>⟨z.1,hF _ h.op z.2⟩) (fun ⟨v,g,e,z1,z2⟩=>⟨v,g,e,z1,hL _ _ _ _ _ h.op z2⟩)⟩
 rw [show lq w m=if m.op.kind=1 then qf w m v g e else if m.op.kind=2 then yB w m v g e else if m.op.kind=3 then vg w m else if m.op.kind=4 then ny w m
  else if m.op.kind=5 then yR w m else if m.op.kind=6 then nu w m else none by
   unfold lq;rw [su.eF];dsimp only;rw [su.u9];dsimp only;rw [su.eE]]
 rcases lo with ⟨hk,lo⟩ | ⟨hk,lo⟩ | ⟨hk,lo⟩ | ⟨hk,lo⟩ | ⟨hk,lo⟩ | ⟨hk,lo⟩
 ·rw [dO hk];obtain ⟨r,h1,h2⟩:=Pf st tg su tm lo hk hN hK ow;exact ⟨r,h1,up h2 (fun _ m' _ _ _ ho z=>.inl ⟨aT,z⟩) fun m' ho z=>.inl ⟨aT,z⟩⟩
 ·rw [dL aw,dO hk];obtain ⟨r,h1,h2⟩:=Pe st tg su tm lo hk hN hK ow;exact ⟨r,h1,up h2 (fun _ m' _ _ _ ho z=>.inr (.inl ⟨aT,z⟩)) fun m' ho z=>.inr (.inl ⟨aT,z⟩)⟩
 ·rw [dL aw,dL aw,dO hk];obtain ⟨r,h1,h2⟩:=RO st tg su tm lo hk ow;exact ⟨r,h1,up h2 (fun _ m' _ _ _ ho z=>.inr (.inr (.inl ⟨aT,z⟩))) fun m' ho z=>.inr (.inr ⟨aU,aU,z⟩)⟩
 ·rw [dL aw,dL aw,dL aw,dO hk];obtain ⟨r,h1,h2⟩:=Ru st tg su tm lo hk hN;exact ⟨r,h1,up h2 (fun _ m' _ _ _ ho z=>.inr (.inr (.inr (.inl ⟨aT,z⟩)))) fun m' ho z=>.inr (.inr ⟨aU,aU,z⟩)⟩
 ·rw [dL aw,dL aw,dL aw,dL aw,dO hk];obtain ⟨r,h1,h2⟩:=NP st tg su tm lo hk hN ow;exact ⟨r,h1,up h2 (fun _ m' _ _ _ ho z=>.inr (.inr (.inr (.inr (.inl ⟨aT,z⟩))))) fun m' ho z=>.inr (.inr ⟨aU,aU,z⟩)⟩
 ·rw [dL aw,dL aw,dL aw,dL aw,dL aw,dO hk];obtain ⟨r,h1,h2⟩:=Rv st tg su tm lo hk;exact ⟨r,h1,up h2 (fun _ m' _ _ _ ho z=>.inr (.inr (.inr (.inr (.inr ⟨aT,z⟩))))) fun m' ho z=>.inr (.inr ⟨aU,aU,z⟩)⟩
end Go.Wor
namespace Go.Pla
open Go.Ab Go.Proofs Tryz Go.Hy
def v7.at_ {given L1 L2:List u3} {b:u3} (h:v7 given (L1++b::L2)):∃ l1 i l2,jv given=l1++i::l2∧l1.map (fun i=>given[i]?)=L1.map some∧given[i]?= some b∧l2.map (fun i=>given[i]?)=L2.map some:=by
 unfold v7 at h;rw [pw,pE] at h;obtain ⟨l1,l',h1,h2,h3⟩:=List.map_eq_append_iff.1 h;obtain ⟨i,l2,h4,h5,h6⟩:=rH.1 h3;exact ⟨l1,i,l2,by rw [h1,h4],h2,h5,h6⟩
def v7.SH {given L1 L2:List u3} {b f:u3} (h:v7 given (L1++b::L2)) (he:kL f b=true) (hn:∀ x ∈ L1,kL f x=false):v7 (given++[f]) (L1++L2):=by
 have uj:∀ n ∈ jv given,n < given.length:=vO given given.length (dU _)
 have h6:f.kind=6:=by
  unfold kL at he;simp only [dS,dZ] at he;exact he.1
 obtain ⟨l1,i,l2,h1,h2,h3,h4⟩:=h.at_
 have a1:∀ n ∈ l1,fc given f n=false:=fun n hm=>by
  have:given[n]? ∈ l1.map (fun i=>given[i]?):=gC.2 ⟨n,hm,rfl⟩;rw [h2] at this;obtain ⟨x,hx,e⟩:=gC.1 this;unfold fc;rw [<- e];exact hn x hx
 have e:(jv given).findIdx? (fc given f)=some l1.length:=by
  rw [h1,r8,gy.2 a1,pP];have:fc given f i=true:=by unfold fc;rw [h3];exact he
  rw [dO this];simp
 unfold v7;rw [Ey,dL aw,e,h1];dsimp only
 rw [List.eraseIdx_append_of_length_le (dU _),pY,List.eraseIdx_cons_zero,E5 given f _ (fun n hn=>uj n (by
  rw [h1];rcases gD.1 hn with hn | hn
  ·exact gD.2 (.inl hn)
  ·exact gD.2 (.inr (g9 _ hn)))),pw,h2,h4,pw]
end Go.Pla
namespace Go.Beg
open Go.Ab Go.Proofs Tryz Go.Hy Go.Pla
def SI {o:ef} {given L:List u3} (h:v7 given L) (h0:0<=o.n) (h1:o.n < L.length):∃ a,L[o.n.toNat]?= some a∧oR o given=a:=by
 obtain ⟨i,a,h2,h3,h4⟩:=Ka h0 (by rw [h.len];exact h1);refine ⟨a,?_,h4⟩;have:=pX (fun l=>l[o.n.toNat]?) h;simp only [dN,h2,dV,h3] at this;cases hl:L[o.n.toNat]? with
 | none=>rw [hl] at this;cases this
 | some b=>rw [hl] at this;simp only [dV,gj] at this;rw [this]
def PR {o:ef} {given L:List u3} (h:v7 given L) (h1:¬(0<=o.n∧o.n < L.length)):oR o given=ka:=EG (by rw [h.len];exact h1)
end Go.Beg
namespace Go.Wor
open Go.Ab Go.Proofs Tryz Go.Gat Go.Nam Go.Hos Go.Con Go.Sna Go.Pla
open Go.Hy hiding encI
def mQ (x:ed) (t:Int) (o:ef):uk:=if x.on then x.m else Beg.yg t o x.given
def wa (L:List u3) (x:Key):Nat:=(L.map fun a=>iv a x).sum
def Bi (L L':List u3) (x:Key):wa (L++L') x=wa L x+wa L' x:=by unfold wa;rw [pw,ud]
def Ct (a:u3) (L:List u3) (x:Key):wa (a::L) x=iv a x+wa L x:=by unfold wa;rw [pE,pO]
def RM (a:u3) (x:Key):wa [a] x=iv a x:=by rw [Ct];rfl
structure GH (w:Wor) (t:Int) (x:ed) (m:uk) (L:List u3) (o:Key->Nat):Prop where
 at_:x.ops[x.done]?= some m.op
 th:m.zj=t
 tm:eJ m
 lc:∃ v g e,qH w m v g e∧Lc w m v g e
 own:(((m.op.kind≠2∨m.pc=9)∧∀ k,o k=wa L k+jT m k)∨(m.op.kind=2∧m.pc<=4∧∃ L1 a L2,L=L1++a::L2∧a.version=m.version∧a.zg=m.zg∧a.end_=m.end_∧a.slot=m.slot∧a.listen=m.listen∧(∀ b ∈ L1,¬F2 b a)∧∀ k,o k=wa (L1++L2) k+jT m k))
structure TI (w:Wor) (t:Int) (x:ed) (o:Key->Nat):Prop where
 le:x.done<=x.ops.length
 given:x.given.length=x.done
 open_ : ∃ L, v7 x.given L ∧ (∀ a ∈ L, a.kind = 1 ∧ 0 <= a.listen) ∧ ((x.on = false ∧ ∀ k, o k = wa L k) ∨ (x.on = true ∧ GH w t x x.m L o))
def KG {L:List u3} {a:u3} (h:a ∈ L) (k:Key):iv a k<=wa L k:=by
 obtain ⟨L1,L2,rfl⟩:=List.append_of_mem h;rw [Bi,Ct];omega
def TK {w:Wor} {a:u3} (h:∀ k,iv a k<=Has w k):m8 w a:=by
 have h1:=h (.slot a.version a.zg a.end_ a.slot);have h2:=h (.uz a.listen);have e1:iv a (.slot a.version a.zg a.end_ a.slot)=1:=by simp [iv,qc]
 have e2:iv a (.uz a.listen)=1:=by simp [iv,qc]
 rw [e1] at h1;rw [e2] at h2;simp only [Has] at h1 h2;split at h1
 ·rename_i e he;unfold wD at he;split at he
  ·rename_i q;unfold fq at h1;split at h1
   ·rename_i z;split at h2
    ·rename_i l0;split at h2
     ·rename_i l hl;have:=(dJ.1 hl).1;exact ⟨⟨q.1,q.2.1,q.2.2,z.1⟩,⟨l0,aw⟩,e,he,z.2⟩
     ·omega
    ·omega
   ·omega
  ·cases he
 ·omega
def Uj (w:Wor) (i j k s:Int):Has w (.slot i j k s)<=1:=by
 simp only [Has];split
 ·exact KZ _ _
 ·omega
def Qw {t:Int} {o:ef} {given:List u3} (h:o.kind≠2):Beg.yg t o given=⟨o,t,0,0,0, -1,0,0,0,0,0,0,0,0,0,false,Beg.ka,iA⟩:=by
 unfold Beg.yg;rw [dL h]
structure Gx (o:ef):Prop where
 kind:1<=o.kind∧o.kind<=6
 host:o.host.length < 1000000000000
 path:o.path.length < 1000000000000
 d0:i64 o.d0
 d1:i64 o.d1
 cfg:o.kind=3->xp o.config
def QI {N K:Nat} {w:Wor} {t:Int} {x:ed} {o:Key->Nat} {p:ef} (st:St N K w) (tg:Tg N w) (ht:0<=t∧t < w.pins.length) (ti:TI w t x o) (hoff:x.on=false) (hp:x.ops[x.done]?= some p) (po:Gx p) (hN:N<=100000000) (ow:∀ k,o k<=Has w k):
  TI w t ⟨x.ops,x.done,true,Beg.yg t p x.given,x.given⟩ o:=by
 obtain ⟨hle,hgl,L,hL,hk,hon⟩:=ti
 have hon:∀ k,o k=wa L k:=by
  rcases hon with ⟨_,h⟩ | ⟨h,_⟩
  ·exact h
  ·rw [hoff] at h;cases h
 refine ⟨hle,hgl,L,hL,hk,.inr ⟨rfl,?_⟩⟩;have pk:=po.kind;have gr:=qa.1 st.jl.ground
 have idle:∀ {pc:Int} {op:ef},op=p->(pc=0∨pc=9)->eJ ⟨op,t,pc,0,0, -1,0,0,0,0,0,0,0,0,0,false,Beg.ka,iA⟩∧∃ v g e,qH w ⟨op,t,pc,0,0, -1,0,0,0,0,0,0,0,0,0,false,Beg.ka,iA⟩ v g e:=fun e _=>by
  subst e;exact ⟨⟨(by decide:i64 (-1)),(by decide:u64 0),(by decide:(-1:Int)<=0∧(0:Int)<=2147483646),po.host,po.path,po.d0,po.d1,po.cfg,fun _ _=>rfl⟩,Io st.jl ht rfl rfl rfl rfl rfl rfl rfl rfl rfl⟩
 by_cases k2:p.kind=2
 ·by_cases hn:0<=p.n∧p.n < L.length
  ·obtain ⟨a,ha,hta⟩:=Beg.SI hL hn.1 hn.2;have am:=dM ha;obtain ⟨ak,al⟩:=hk a am;have fa:m8 w a:=TK fun k=>gQ (KG am k) (by rw [<- hon k];exact ow k)
   obtain ⟨⟨p1,p2,p3,p4⟩,⟨l0,l1⟩,e,hat,hs,hf⟩:=fa;obtain ⟨v,g,a1,a2,a3⟩:=K8 hat;have s1:=(dJ.1 a1).1;have s2:=(dJ.1 a2).1;have s3:=(dJ.1 a3).1
   have eb:Beg.yg t p x.given=⟨p,t,0,0,a.version,a.listen,a.zg,a.end_,0,a.slot,0,0,0,0,0,false,Beg.ka,iA⟩:=by
    unfold Beg.yg;rw [dO k2,hta];unfold Beg.Br;rw [dO ak,dO ak]
   rw [eb];have lN:=st.ty.uz
   obtain ⟨L1,L2,hsp,hln⟩:∃ L1 L2,L=L1++a::L2∧L1.length=p.n.toNat:=⟨L.take p.n.toNat,L.drop (p.n.toNat+1),by
    have uj:=(dJ.1 ha).1;have he:=(dJ.1 ha).2;rw [<- he,List.getElem_cons_drop,rV],aA⟩
   have nr:ph ⟨p,t,0,0,a.version,a.listen,a.zg,a.end_,0,a.slot,0,0,0,0,0,false,Beg.ka,iA⟩=3:=fN rfl k2 rfl
   refine ⟨hp,rfl,⟨by show i64 a.listen;unfold i64;omega,(by decide:u64 0),(by decide:(-1:Int)<=0∧(0:Int)<=2147483646),po.host,po.path,po.d0,po.d1,po.cfg,fun _ _=>rfl⟩,
    ⟨v,g,e,⟨qi.2 st.jl,ht,rfl,⟨p1,by show a.version < _;omega⟩,a1,⟨p2,by show a.zg < _;omega⟩,a2,⟨p3,by show a.end_ < _;omega⟩,a3,⟨gd _,aK⟩,⟨p4,hs⟩,⟨by show -1<=a.listen;omega,l1⟩,gd _,gd _⟩,
     .inr (.inl ⟨k2,⟨.inl ⟨gd _,by show (0:Int)<=4;decide⟩,fun _=>l0,(fun h=>by dsimp only at h;omega),fun h=>absurd (show (0:Int)=2 from h) ar⟩⟩)⟩,
    .inr ⟨k2,by show (0:Int)<=4;decide,L1,a,L2,hsp,rfl,rfl,rfl,rfl,rfl,fun b hb cl=>?_,fun k=>?_⟩⟩
   ·have q1:=ow (.slot a.version a.zg a.end_ a.slot);have q2:=Uj w a.version a.zg a.end_ a.slot;have q3:=KG hb (.slot a.version a.zg a.end_ a.slot);have e1:iv a (.slot a.version a.zg a.end_ a.slot)=1:=by simp [iv,qc]
    have e2:iv b (.slot a.version a.zg a.end_ a.slot)=1:=by simp [iv,qc,cl.1,cl.2.1,cl.2.2.1,cl.2.2.2]
    rw [hon,hsp,Bi,Ct] at q1;omega
   rw [hon k,hsp,Bi,Bi,Ct,jm nr];show _=_+iv a k;omega
  ·have eb:Beg.yg t p x.given=⟨p,t,9,0,0, -1,0,0,0,0,0,0,0,0,0,false,Beg.ka,iA⟩:=by
    unfold Beg.yg;rw [dO k2,Beg.PR hL hn]
    rfl
   rw [eb];obtain ⟨ty,v,g,e,su⟩:=idle (pc:=9) rfl (.inr rfl);have p0:ph ⟨p,t,9,0,0, -1,0,0,0,0,0,0,0,0,0,false,Beg.ka,iA⟩=0:=fN rfl k2 rfl;exact ⟨hp,rfl,ty,⟨v,g,e,su,.inr (.inl ⟨k2,⟨.inr rfl,fun h=>absurd (show (9:Int)<=4 from h) ar,(fun h=>by dsimp only at h;omega),fun h=>absurd (show (9:Int)=2 from h) ar⟩⟩)⟩,.inl ⟨.inr rfl,fun k=>by rw [hon k,jm p0,vW];rfl⟩⟩
 ·rw [Qw k2];obtain ⟨ty,v,g,e,su⟩:=idle (pc:=0) rfl (.inl rfl)
  have p0:ph ⟨p,t,0,0,0, -1,0,0,0,0,0,0,0,0,0,false,Beg.ka,iA⟩=0:=by
   by_cases k1:p.kind=1
   ·exact ej rfl k1 rfl
   by_cases k3:p.kind=3
   ·exact nr rfl k3 rfl
   by_cases k5:p.kind=5
   ·exact fJ rfl k5 rfl
   exact Bx rfl k1 k2 k3 k5
  refine ⟨hp,rfl,ty,⟨v,g,e,su,?_⟩,.inl ⟨.inl k2,fun k=>by rw [hon k,jm p0,vW];rfl⟩⟩;rcases (by omega:p.kind=1∨p.kind=3∨p.kind=4∨p.kind=5∨p.kind=6) with k | k | k | k | k
  ·exact .inl ⟨k,⟨.inl ⟨gd _,by show (0:Int)<=12;decide⟩,(fun h=>by dsimp only at h;omega),(fun h=>by dsimp only at h;omega),(fun h=>by dsimp only at h;omega),(fun h=>by dsimp only at h;omega),fun h=>absurd (show (0:Int)=6 from h) ar,(fun h=>by dsimp only at h;omega),fun h=>absurd (show (0:Int)=11 from h) ar,fun h=>absurd (show (20:Int)<=0 from h) ar,fun h=>absurd (show (0:Int)=22 from h) ar⟩⟩
  ·exact .inr (.inr (.inl ⟨k,⟨⟨gd _,by show (0:Int)<=2;decide⟩,fun h=>absurd (show (0:Int)=2 from h) ar⟩⟩))
  ·exact .inr (.inr (.inr (.inl ⟨k,rfl⟩)))
  ·exact .inr (.inr (.inr (.inr (.inl ⟨k,⟨.inl ⟨gd _,by show (0:Int)<=6;decide⟩,fun h=>absurd (show (0:Int)=2 from h) ar,(fun h=>by dsimp only at h;omega),fun h=>absurd (show (0:Int)=5 from h) ar,(fun h=>by dsimp only at h;omega)⟩⟩))))
  ·exact .inr (.inr (.inr (.inr (.inr ⟨k,⟨rfl,by show (0:Int) < 6;decide,by show (0:Int) < (w.counts.length:Nat);have:=gr.counts.1;have:=gr.pins.1;omega⟩⟩))))
def EK {w:Wor} {m:uk} {v:uq} {g:Gr} {e:En} {r:Wor × uk × uv} (h:yB w m v g e=some r):r.2.1.version=m.version∧r.2.1.zg=m.zg∧r.2.1.end_=m.end_∧r.2.1.slot=m.slot∧r.2.1.listen=m.listen∧(m.pc=9->r.2.1.pc=9∧r.2.1.done=true)∧(m.pc<=4->r.2.1.pc<=4)∧(r.2.1.done=true->m.done=false->r.2.1.pc=m.pc):=by
 have c4:∀ {a b:Int},a=b->(a=9->(1:Int)=2)->b=9->False:=fun h1 h2 h3=>absurd (h2 (h1.trans h3)) ar
 unfold yB lD at h;split at h
 ·rename_i p;cases h
  exact ⟨rfl,rfl,rfl,rfl,rfl,fun h=>by omega,fun _=>by show (1:Int)<=4;decide,fun a b=>absurd (b.symm.trans a) ar⟩
 split at h
 ·rename_i p;cases h
  exact ⟨rfl,rfl,rfl,rfl,rfl,fun h=>by omega,fun _=>by show (2:Int)<=4;decide,fun a b=>absurd (b.symm.trans a) ar⟩
 split at h
 ·rename_i p;split at h
  ·cases h
   exact ⟨rfl,rfl,rfl,rfl,rfl,fun h=>by omega,fun _=>by show (3:Int)<=4;decide,fun a b=>absurd (b.symm.trans a) ar⟩
  ·cases h
   exact ⟨rfl,rfl,rfl,rfl,rfl,fun h=>by omega,fun _=>by show (0:Int)<=4;decide,fun a b=>absurd (b.symm.trans a) ar⟩
 split at h
 ·rename_i p;cases h
  exact ⟨rfl,rfl,rfl,rfl,rfl,fun h=>by omega,fun _=>by show (4:Int)<=4;decide,fun a b=>absurd (b.symm.trans a) ar⟩
 split at h
 ·rename_i p;split at h
  ·cases h
  ·obtain ⟨x,_,rfl⟩:=gJ.1 h;exact ⟨rfl,rfl,rfl,rfl,rfl,fun h=>by omega,fun h=>h,fun _ _=>rfl⟩
 split at h
 ·cases h
  exact ⟨rfl,rfl,rfl,rfl,rfl,fun h=>⟨h,rfl⟩,fun h=>h,fun _ _=>rfl⟩
 ·cases h
def EF {x:ed} {m:uk} (h:m.done=true):xh x m=⟨x.ops,x.done+1,false,m,x.given++[m.answer]⟩:=dO h
def Tc {x:ed} {m:uk} (h:m.done=false):xh x m=⟨x.ops,x.done,true,m,x.given⟩:=dL aH
def Te {N K:Nat} {w:Wor} {t:Int} {x:ed} {o:Key->Nat} (st:St N K w) (tg:Tg N w) (ti:TI w t x o) (hon:x.on=true) (hN:N<=100000000) (hK:K<=1099511627776) (ow:∀ k,o k<=Has w k):
  zY w x.m=true∧eJ x.m∧(∀ k,jT x.m k<=o k)∧∃ r,lq w x.m=some r∧r.2.2.access≠0∧St (N+1) (K+1) r.1∧Tg (N+1) r.1∧jN w r.1 (jT x.m)∧∃ o',TI r.1 t (xh x r.2.1) o'∧Mv w r.1 o o':=by
 obtain ⟨hle,hgl,L,hL,hk,hon'⟩:=ti
 have on:GH w t x x.m L o:=by
  rcases hon' with ⟨h,_⟩ | ⟨_,h⟩
  ·rw [hon] at h;cases h
  ·exact h
 clear hon'
 obtain ⟨hat,hth,htm,⟨v,g,e,su,lc⟩,hown⟩:=on
 have om:∀ k,jT x.m k<=o k:=fun k=>by
  rcases hown with ⟨_,h⟩ | ⟨_,_,_,_,_,_,_,_,_,_,_,_,h⟩
  ·rw [h k];omega
  ·rw [h k];omega
 have oh:∀ k,jT x.m k<=Has w k:=fun k=>gQ (om k) (ow k)
 obtain ⟨r,h1,nc⟩:=To st tg su htm lc hN hK oh;refine ⟨IE su,htm,om,r,h1,nc.ev,nc.st,nc.tg,nc.keep,?_⟩;have lt:x.done < x.ops.length:=(dJ.1 hat).1;have fs:x.m.op.kind=2->yB w x.m v g e=some r:=fun hk=>by rw [S8 su,dL aw,dO hk] at h1;exact h1
 rcases nc.go with ⟨hd,hf⟩ | ⟨v',g',e',su',lc'⟩
 ·rw [EF hd];have hgl':(x.given++[r.2.1.answer]).length=x.done+1:=by simp [hgl]
  rcases hf with ⟨k1,f1,f2,f3⟩ | ⟨k2,f⟩ | ⟨k3,k4,f⟩
  ·rw [nc.op] at k1
   have hb:∀ k,o k=wa L k+jT x.m k:=by
    rcases hown with ⟨_,h⟩ | ⟨h,_⟩
    ·exact h
    ·omega
   by_cases a1:r.2.1.answer.kind=1
   ·obtain ⟨ea,el⟩:=f3 a1;have p3:ph r.2.1=3:=Jm hd (by rw [nc.op];exact k1) a1
    have eo:∀ k,jT r.2.1 k=iv r.2.1.answer k:=fun k=>by
     rw [jm p3];unfold iv;rw [ea]
    refine ⟨fun k=>wa (L++[r.2.1.answer]) k,⟨aV,hgl',L++[r.2.1.answer],hL.U2 a1,fun a ha=>?_,.inl ⟨rfl,fun _=>rfl⟩⟩,fun k=>?_⟩
    ·rcases gD.1 ha with ha | ha
     ·exact hk a ha
     ·rw [gF.1 ha];exact ⟨a1,by rw [ea];exact el⟩
    ·have:=nc.mv k;dsimp only;rw [hb k,Bi,RM,<- eo k];omega
   ·have p0:ph r.2.1=0:=yv hd fun h=>a1 h.2
    refine ⟨fun k=>wa L k,⟨aV,hgl',L,hL.other a1 aw,hk,.inl ⟨rfl,fun _=>rfl⟩⟩,fun k=>?_⟩;have:=nc.mv k
    try dsimp only
    rw [jm p0,vW] at this;rw [hb k];omega
  ·rw [nc.op] at k2;have fsm:=EK (fs k2);obtain ⟨e1,e2,e3,e4,e5,e6,e7,e8⟩:=fsm;have p0:ph r.2.1=0:=yv hd fun h=>by rw [nc.op] at h;omega
   have pc:=e8 hd su.done;rcases hown with ⟨h9,hb⟩ | ⟨_,h4,L1,a,L2,hsp,q1,q2,q3,q4,q5,hcl,hb⟩
   ·have a7:r.2.1.answer=ib 7:=by
     rcases f with ⟨_,f⟩ | ⟨f,_⟩
     ·omega
     ·exact f
    refine ⟨fun k=>wa L k,⟨aV,hgl',L,hL.other (by rw [a7];show (7:Int)≠1;decide) (by rw [a7];show (7:Int)≠6;decide),hk,.inl ⟨rfl,fun _=>rfl⟩⟩,fun k=>?_⟩;have:=nc.mv k
    try dsimp only
    rw [jm p0,vW] at this;rw [hb k];omega
   ·have a6:r.2.1.answer=La r.2.1:=by
     rcases f with ⟨f,_⟩ | ⟨_,f⟩
     ·exact f
     ·omega
    have hka:=hk a (by rw [hsp];simp)
    have en:Pla.kL r.2.1.answer a=true:=by
     rw [a6];unfold Pla.kL;simp [hka.1,e1,e2,e3,e4,e5,q1,q2,q3,q4,q5]
    have en2:∀ b ∈ L1,kL r.2.1.answer b=false:=fun b hb2=>by
     cases he:Pla.kL r.2.1.answer b with
     | false=>rfl
     | true=>
      rw [a6] at he;unfold Pla.kL at he;simp only [dS,dZ,e1,e2,e3,e4,e5] at he;exact absurd ⟨he.2.2.1.symm.trans q1.symm,he.2.2.2.1.symm.trans q2.symm,he.2.2.2.2.1.symm.trans q3.symm,he.2.2.2.2.2.1.symm.trans q4.symm⟩ (hcl b hb2)
    rw [hsp] at hL
    refine ⟨fun k=>wa (L1++L2) k,⟨aV,hgl',L1++L2,hL.SH en en2,fun b hb2=>hk b (by
     rw [hsp];rcases gD.1 hb2 with h | h
     ·exact gD.2 (.inl h)
     ·exact gD.2 (.inr (g9 _ h))),.inl ⟨rfl,fun _=>rfl⟩⟩,fun k=>?_⟩
    have:=nc.mv k
    try dsimp only
    rw [jm p0,vW] at this;rw [hb k];omega
  ·rw [nc.op] at k3 k4;have p0:ph r.2.1=0:=yv hd fun h=>by rw [nc.op] at h;omega
   have hb:∀ k,o k=wa L k+jT x.m k:=by
    rcases hown with ⟨_,h⟩ | ⟨h,_⟩
    ·exact h
    ·omega
   refine ⟨fun k=>wa L k,⟨aV,hgl',L,hL.other (by have:=f.1;omega) (by have:=f.1;omega),hk,.inl ⟨rfl,fun _=>rfl⟩⟩,fun k=>?_⟩;have:=nc.mv k
   try dsimp only
   rw [jm p0,vW] at this;rw [hb k];omega
 ·rw [Tc su'.done];rcases hown with ⟨h9,hb⟩ | ⟨k2,h4,L1,a,L2,hsp,q1,q2,q3,q4,q5,hcl,hb⟩
  ·have k2:x.m.op.kind≠2:=fun k2=>by
    rcases h9 with h | h
    ·exact h k2
    ·have:=(EK (fs k2)).2.2.2.2.2.1 h;have h2:=su'.done;rw [this.2] at h2;cases h2
   refine ⟨fun k=>wa L k+jT r.2.1 k,⟨hle,hgl,L,hL,hk,.inr ⟨rfl,⟨by rw [hat,nc.op],nc.th.trans hth,nc.tm,⟨v',g',e',su',lc'⟩,.inl ⟨.inl (by rw [nc.op];exact k2),fun _=>rfl⟩⟩⟩⟩,fun k=>?_⟩;have:=nc.mv k
   try dsimp only
   rw [hb k];omega
  ·obtain ⟨e1,e2,e3,e4,e5,e6,e7,e8⟩:=EK (fs k2);refine ⟨fun k=>wa (L1++L2) k+jT r.2.1 k,⟨hle,hgl,L,hL,hk,.inr ⟨rfl,⟨by rw [hat,nc.op],nc.th.trans hth,nc.tm,⟨v',g',e',su',lc'⟩,.inr ⟨by rw [nc.op];exact k2,e7 h4,L1,a,L2,hsp,q1.trans e1.symm,q2.trans e2.symm,q3.trans e3.symm,q4.trans e4.symm,q5.trans e5.symm,hcl,fun _=>rfl⟩⟩⟩⟩,fun k=>?_⟩;have:=nc.mv k
   try dsimp only
   rw [hb k];omega
def Ti {w w':Wor} {t:Int} {x:ed} {o p:Key->Nat} (ti:TI w t x o) (gw:jD w) (gw':jD w') (kp:jN w w' p) (ow:∀ k,p k+o k<=Has w k):TI w' t x o:=by
 obtain ⟨hle,hgl,L,hL,hk,hon⟩:=ti;refine ⟨hle,hgl,L,hL,hk,hon.imp id fun ⟨h1,on⟩=>⟨h1,?_⟩⟩;obtain ⟨hat,hth,htm,⟨v,g,e,su,lc⟩,hown⟩:=on
 have om:∀ k,jT x.m k<=o k:=fun k=>by
  rcases hown with ⟨_,h⟩ | ⟨_,_,_,_,_,_,_,_,_,_,_,_,h⟩
  ·rw [h k];omega
  ·rw [h k];omega
 obtain ⟨v',g',e',su',lc'⟩:=TS su lc gw gw' kp fun k=>by have:=om k;have:=ow k;omega
 exact ⟨hat,hth,htm,⟨v',g',e',su',lc'⟩,hown⟩
def Db:∀ (l:List Nat) (i:Nat) {a:Nat},l[i]?= some a->a<=l.sum
 | [],i,a,h=>by simp at h
 | x::l,0,a,h=>by
  have:x=a:=aq h
  rw [pO];omega
 | x::l,i+1,a,h=>by
  have:=Db l i (aq h);rw [pO];omega
def Ki:∀ (l:List Nat) (i j:Nat) {a b:Nat},i≠j->l[i]?= some a->l[j]?= some b->a+b<=l.sum
 | [],i,j,a,b,_,h,_=>by simp at h
 | x::l,0,0,a,b,h,_,_=>absurd rfl h
 | x::l,0,j+1,a,b,_,h1,h2=>by
  have:=Db l j tT;have:x=a:=aq h1
  rw [pO];omega
 | x::l,i+1,0,a,b,_,h1,h2=>by
  have:=Db l i tG;have:x=b:=aq h2
  rw [pO];omega
 | x::l,i+1,j+1,a,b,h,h1,h2=>by
  have:=Ki l i j aw tG tT;rw [pO];omega
structure GI (N K:Nat) (w:Wor) (X:List ed):Prop where
 st:St N K w
 tg:Tg N w
 len:w.pins.length=X.length
 ops:∀ x ∈ X,∀ p ∈ x.ops,Gx p
 own:∃ os:List (Key->Nat),os.length=X.length∧(∀ (i:Nat) x o,X[i]?= some x->os[i]?= some o->TI w i x o)∧∀ k,Has w k=(os.map (· k)).sum
def TO {N K:Nat} {w:Wor} {X:List ed} {t:Nat} {x:ed} {p:ef} (gi:GI N K w X) (hx:X[t]?= some x) (hp:x.ops[x.done]?= some p) (hN:N<=100000000) (hK:K<=1099511627776):
  zY w (mQ x t p)=true∧eJ (mQ x t p)∧∃ r,lq w (mQ x t p)=some r∧r.2.2.access≠0∧GI (N+1) (K+1) r.1 (X.set t (xh x r.2.1)):=by
 obtain ⟨st,tg,hlen,hops,os,hol,hti,hsum⟩:=gi;have uj:=(dJ.1 hx).1;obtain ⟨o,ho⟩:∃ o,os[t]?= some o:=⟨_,dK aw⟩;have ti:=hti t x o hx ho;have ow:∀ k,o k<=Has w k:=fun k=>by rw [hsum k];exact Db _ t (by rw [dN,ho];rfl)
 have po:=hops x (dM hx) p (dM hp)
 obtain ⟨x',hx1,hx2,hx3,hx4⟩:∃ x',x'.m=mQ x t p∧x'.on=true∧TI w t x' o∧∀ m,xh x' m=xh x m:=by
  cases hon:x.on with
  | true=>exact ⟨x,by unfold mQ;rw [hon];rfl,hon,ti,fun _=>rfl⟩
  | false=>exact ⟨⟨x.ops,x.done,true,Beg.yg t p x.given,x.given⟩,by unfold mQ;rw [hon];rfl,rfl,QI st tg aw ti hon hp po hN ow,fun _=>rfl⟩
 obtain ⟨s1,s2,s3,r,s4,s5,s6,s7,s8,o',s9,s10⟩:=Te st tg hx3 hx2 hN hK ow;rw [hx1] at s1 s2 s4;refine ⟨s1,s2,r,s4,s5,s6,s7,by have:=s8.pins;simp;omega,fun y hy q hq=>?_,os.set t o',by simp [hol],fun i y oi hy hoi=>?_,fun k=>?_⟩
 ·rcases mem_set hy with hy | rfl
  ·exact hops y hy q hq
  ·have:(xh x r.2.1).ops=x.ops:=by unfold xh;split <;> rfl
   rw [this] at hq;exact hops x (dM hx) q hq
 ·rcases yt hy with ⟨rfl,rfl,_⟩ | ⟨hne,hy⟩
  ·rw [dQ aw] at hoi;cases hoi
   rw [<- hx4];exact s9
  ·rw [pa hne] at hoi;refine Ti (hti i y oi hy hoi) st.jl s6.jl s8 fun k=>?_
   have h2:=Ki (os.map (· k)) t i hne (by rw [dN,ho];rfl) (by rw [dN,hoi];rfl);have:=s3 k;rw [hsum k];dsimp only at h2 ⊢;omega
 ·have q1:=CS (fun f:Key->Nat=>f k) os t o' ho;have q2:=s10 k;have q3:=hsum k;(try dsimp only at q1)
  (try dsimp only at q3)
  (try dsimp only)
  omega
def Rw {l:List uu} {i:Nat} {s:uu} (h:l[i]?= some s) (hn:zT ((l.take i).map vM) s < 0):zT (l.map vM) s=i:=by
 have uj:=(dJ.1 h).1
 have h0:((l.take i).map vM).findIdx? (fun r=>r.name == s)=none:=by
  unfold zT at hn;split at hn
  ·omega
  ·rename_i q;exact q
 have e:(l.map vM).findIdx? (fun r=>r.name == s)=some i:=by
  rw [gk];refine ⟨aq uj,?_,fun j hj=>?_⟩
  ·have:=(dJ.1 h).2;simp [vM,this]
  ·have q:=gy.1 h0 (vM (l[j]'aw)) (gC.2 ⟨_,List.mem_take_iff_getElem.2 ⟨j,aw,rfl⟩,rfl⟩);simpa using q
 unfold zT;rw [e]
def GC {α:Type}:∀ (T:List α),(T.map fun _=>(0:Nat)).sum=0
 | []=>rfl
 | _::T=>by rw [pE,pO,GC T]
def Un {s:Sna} {l:List uu} {n:Int} {w:Wor} {N:Nat} {T:List (List ef)} (h:iH s l n=(w,0)) (hs:wA s) (hl:l.length<=N) (hN:1<=N) (hn:∀ x ∈ l,x.length<=reachBytes) (hT:(T.length:Int)=n) (hO:∀ L ∈ T,∀ o ∈ L,Gx o):
  GI N 0 w (T.map fW):=by
 unfold iH at h;split at h
 ·have:=pX Prod.snd h;exact absurd (show (1:Int)=0 from this) ar
 rename_i q;have hw:=(pX Prod.fst h).symm;have hw:w=⟨0,0,0,List.replicate n.toNat 0,[(qM s).1],l.map vM,List.replicate n.toNat [0,0,0,0,0,0],[]⟩:=hw
 have q1:yZ s=true:=by
  cases z:yZ s with
  | true=>rfl
  | false=>exact absurd (.inl z) q
 have q2:1<=n:=aw
 have q3:n<=8:=aw
 have q4:∀ i x,l[i]?= some x->xv x=true∧zT ((l.take i).map vM) x < 0:=fun i x hx=>by
  have z:oJ l=true:=by
   cases z:oJ l with
   | true=>rfl
   | false=>exact absurd (.inr (.inr (.inr z))) q
  have:=dT.1 z i (pD.2 (dJ.1 hx).1);unfold As at this;rw [hx] at this;simpa using this
 subst hw;have hc:(qM s).1=⟨s,s.zk.map fU,false⟩:=by unfold qM;rw [dO q1]
 have fr:∀ g ∈ (qM s).1.zm,g.zt=0∧∀ e ∈ g.ends,e.zf=0∧e.ok:=fun g hg=>by
  rw [hc] at hg;obtain ⟨x,hx,rfl⟩:=gC.1 (show g ∈ s.zk.map fU from hg);refine ⟨rfl,fun e he=>?_⟩;rw [gL (show e ∈ List.replicate x.zL.length (xt x) from he)];have f:=vK ((jq q1).all x hx);exact f.2.2
 have one:∀ v,v ∈ [(qM s).1]->v=(qM s).1:=fun v hv=>gF.1 hv
 have lz:∀ x ∈ l.map vM,∃ y ∈ l,x=vM y:=fun x hx=>by
  obtain ⟨y,hy,e⟩:=gC.1 hx;exact ⟨y,hy,e.symm⟩
 have fv:=Jf q1 0
 have ends:∀ i j k e,wD ⟨0,0,0,List.replicate n.toNat 0,[(qM s).1],l.map vM,List.replicate n.toNat [0,0,0,0,0,0],[]⟩ i j k=some e->e.zf=0∧∀ t,fq e t=0:=fun i j k e he=>by
  unfold wD at he;split at he
  ·obtain ⟨v,g,a1,a2,a3⟩:=K8 he;have hv:=one v (dM a1);subst hv;exact (fv g (dM a2) e (dM a3)).2
  ·cases he
 refine ⟨⟨⟨qa.2 ⟨?_,⟨?_,?_⟩,⟨gd _,by show (0:Int)<=1000000000000;decide⟩,.inl rfl,?_⟩,⟨gd _,by show (0:Int) < 1;decide⟩,(by show Go.Lim.u5 []=true;rfl),(fun r hr=>nomatch hr),?_,?_⟩,⟨by show 1<=N;omega,aq hl,by show 0<=N;omega,?_,?_⟩,⟨?_,?_⟩⟩,?_,?_,?_,?_⟩
 ·simp only [rX];omega
 ·simp
 ·intro r hr;rw [gL hr];rfl
 ·intro p hp;rw [gL hp];exact ⟨gd _,by show (0:Int)<=0+1;decide⟩
 ·intro i v hv;have hi:i=0:=by have:=(dJ.1 hv).1;exact cN
  subst hi;cases hv
  exact ⟨Ii q1,by rw [hc];rfl⟩
 ·intro i x hx;obtain ⟨y,hy,rfl⟩:=gJ.1 ((dN ..).symm.trans hx);have z:=q4 i y hy;refine ⟨CO z.1 (gd _) rfl,Rw hy z.2⟩
 ·intro v hv;rw [one v hv];exact ⟨by rw [hc];exact hs,fun g hg=>⟨by rw [(fr g hg).1];decide,fun e he=>((fr g hg).2 e he).2⟩⟩
 ·intro x hx;obtain ⟨y,hy,rfl⟩:=lz x hx;exact ⟨hn y hy,by show i64 0;decide⟩
 ·intro x hx;obtain ⟨y,hy,rfl⟩:=lz x hx;show (0:Int)<=_
  decide
 ·intro v hv g hg e he;rw [one v hv] at hg;rw [((fr g hg).2 e he).1]
  decide
 ·intro v hv g hg e he;rw [one v hv] at hg;exact ((fv g hg e he).1:nV 0 e) |> fun z=>⟨by have:=z.1;omega,z.2⟩
 ·simp only [rX,dP];omega
 ·intro x hx p hp;obtain ⟨L,hL,rfl⟩:=gC.1 hx;exact hO L hL p hp
 ·refine ⟨T.map fun _=>fun _=>0,aj,fun i x o hx ho=>?_,fun k=>?_⟩
  ·obtain ⟨L,hL,rfl⟩:=gJ.1 ((dN ..).symm.trans hx);obtain ⟨_,_,rfl⟩:=gJ.1 ((dN ..).symm.trans ho);exact ⟨gu _,rfl,[],Tm,⟨fun a ha=>(by cases ha),.inl ⟨rfl,fun _=>rfl⟩⟩⟩
  ·have z:((T.map fun _=>fun (_:Key)=>0).map (· k)).sum=0:=by
    rw [pT];exact GC T
   rw [z];cases k with
   | slot i j k s'=>
    simp only [Has];split
    ·rename_i e he;exact (ends i j k e he).2 s'
    ·rfl
   | act i j k=>
    simp only [Has];split
    ·rename_i e he;rw [(ends i j k e he).1];rfl
    ·rfl
   | uz i=>
    simp only [Has];split
    ·split
     ·rename_i x hx;obtain ⟨y,_,rfl⟩:=lz x (dM hx)
      rfl
     ·rfl
    ·rfl
   | eu i=>
    simp only [Has];rw [dL];rintro ⟨h1,h2,h3,_⟩;have h2:i < 1:=h2;exact h3 (by show i=0;omega)
   | lock=>rfl
abbrev fD:=Wor × List ed × List uv
def AG (e:uv) (x:ed):uv:={ e with op:=x.done,jZ:=!x.on }
def DS (s:fD) (t:Nat):fD:=match s.2.1[t]? with
 | some x=>match x.ops[x.done]? with
  | some o=>match lq s.1 (mQ x t o) with
   | some r=>(r.1,s.2.1.set t (xh x r.2.1),s.2.2++[AG r.2.2 x])
   | none=>s
  | none=>s
 | none=>s
def yW (s:fD) (p:Int):fD:=match (qw s.2.1 s.2.1.length)[(p % (qw s.2.1 s.2.1.length).length).toNat]? with
 | some t=>DS s t
 | none=>s
def wJ {X:List ed}:∀ {k t:Nat},t ∈ qw X k↔t < k∧∃ x,X[t]?= some x∧x.done < x.ops.length
 | 0,t=>by simp [qw]
 | k+1,t=>by
  unfold qw;cases hx:X[k]? with
  | none=>
   dsimp only;rw [wJ];constructor
   ·rintro ⟨h,q⟩;exact ⟨aw,q⟩
   ·rintro ⟨h,x,hx2,q⟩;refine ⟨?_,x,hx2,q⟩;rcases rh t k with h | h
    ·exact h
    ·have:t=k:=by omega
     subst this;rw [hx] at hx2;cases hx2
  | some y=>
   dsimp only;split
   ·rename_i hd;rw [wJ];constructor
    ·rintro ⟨h,q⟩;exact ⟨aw,q⟩
    ·rintro ⟨h,x,hx2,q⟩;refine ⟨?_,x,hx2,q⟩;rcases rh t k with h | h
     ·exact h
     ·have:t=k:=by omega
      subst this;rw [hx] at hx2;cases hx2
      omega
   ·rename_i hd;rw [gD,wJ,gF];constructor
    ·rintro (⟨h,q⟩ | rfl)
     ·exact ⟨aw,q⟩
     ·exact ⟨aw,y,hx,aw⟩
    ·rintro ⟨h,x,hx2,q⟩;rcases rh t k with h | h
     ·exact .inl ⟨h,x,hx2,q⟩
     ·exact .inr aw
def kV {N K:Nat} {s:fD} (gi:GI N K s.1 s.2.1) (p:Int) (hN:N<=100000000) (hK:K<=1099511627776):
  (qw s.2.1 s.2.1.length=[]∧yW s p=s)∨∃ t x o r,(qw s.2.1 s.2.1.length)[(p % (qw s.2.1 s.2.1.length).length).toNat]?= some t∧s.2.1[t]?= some x∧x.ops[x.done]?= some o∧zY s.1 (mQ x t o)=true∧eJ (mQ x t o)∧lq s.1 (mQ x t o)=some r∧r.2.2.access≠0∧
   yW s p=(r.1,s.2.1.set t (xh x r.2.1),s.2.2++[AG r.2.2 x])∧GI (N+1) (K+1) r.1 (s.2.1.set t (xh x r.2.1)):=by
 by_cases ha:qw s.2.1 s.2.1.length=[]
 ·refine .inl ⟨ha,?_⟩;unfold yW;rw [ha]
  rfl
 ·right
  have hl:0 < (qw s.2.1 s.2.1.length).length:=sq.2 ha;have b0:=rP p (show ((qw s.2.1 s.2.1.length).length:Int)≠0 by omega);have b1:=rQ p (show (0:Int) < (qw s.2.1 s.2.1.length).length by omega);obtain ⟨t,ht⟩:∃ t,(qw s.2.1 s.2.1.length)[(p % (qw s.2.1 s.2.1.length).length).toNat]?= some t:=⟨_,dK aw⟩;obtain ⟨_,x,hx,hd⟩:=wJ.1 (dM ht);obtain ⟨o,ho⟩:∃ o,x.ops[x.done]?= some o:=⟨_,dK hd⟩;obtain ⟨h1,h2,r,h3,h4,h5⟩:=TO gi hx ho hN hK;refine ⟨t,x,o,r,ht,hx,ho,h1,h2,h3,h4,?_,h5⟩;unfold yW DS;rw [ht];dsimp only;rw [hx];dsimp only;rw [ho];dsimp only;rw [h3]
def GI.mono {N K N' K':Nat} {w:Wor} {X:List ed} (h:GI N K w X) (hN:N<=N') (hK:K<=K'):GI N' K' w X:=⟨h.st.mono hN hK,h.tg.mono hN,h.len,h.ops,h.own⟩
def TC {N K:Nat} {s:fD} (gi:GI N K s.1 s.2.1) (p:Int) (hN:N<=100000000) (hK:K<=1099511627776):GI (N+1) (K+1) (yW s p).1 (yW s p).2.1:=by
 rcases kV gi p hN hK with ⟨_,h⟩ | ⟨t,x,o,r,_,_,_,_,_,_,_,h,h2⟩
 ·rw [h];exact gi.mono aw aw
 ·rw [h];exact h2
def ff (s:fD) (l:List Int) (k:Nat):fD:=(l.take k).foldl yW s
def A3 {s:fD} {l:List Int} {k:Nat} {p:Int} (h:l[k]?= some p):ff s l (k+1)=yW (ff s l k) p:=by
 unfold ff;obtain ⟨h1,h2⟩:=dJ.1 h;rw [pq h1,rF,h2]
 rfl
def C5 {N K:Nat} {s:fD} (gi:GI N K s.1 s.2.1) (l:List Int):∀ k,k<=l.length->N+k<=100000000->K+k<=1099511627776->GI (N+k) (K+k) (ff s l k).1 (ff s l k).2.1
 | 0,_,_,_=>gi
 | k+1,hk,hN,hK=>by
  have ih:=C5 gi l k aw aw aw;rw [A3 (dK aw)];exact TC ih _ aw aw
def Jd {l:List Int}:∀ {s:fD},qw s.2.1 s.2.1.length=[]->l.foldl yW s=s:=by
 induction l with
 | nil=>intro s _;rfl
 | cons p l ih=>
  intro s h;have:yW s p=s:=by unfold yW;rw [h];rfl
  rw [sT,this];exact ih h
end Go.Wor
