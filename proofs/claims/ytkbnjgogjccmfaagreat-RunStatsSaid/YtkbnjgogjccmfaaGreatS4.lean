import Derived.Test.YtkbnjgogjccmfaaGreatS3
import Derived.Test.YtkbnjgogjccmfaaGreatS1
import Derived.Test.YtkbnjgogjccmfaaGreatS2
set_option linter.all false
set_option maxRecDepth 100000
set_option maxHeartbeats 4000000
namespace Go.Wor
open Go.Ab Go.Proofs Tryz Go.Gat Go.Nam Go.Hos Go.Con Go.Sna
open Go.Hy hiding encI
section
variable {N K:Nat} {w:Wor} {m:u3} {v:u9} {g:Gr} {e:En}
def Kd (hat:fk w m v g e) (ow:∀ x,j8 m x<=Has w x) {p:Nat} (h:ph m=p) (hp:p=2∨p=3):0<=m.slot∧m.slot < e.next.length∧m.slot ∉ (Slp.qB e).1:=by
 have:=Ck ow h (.slot m.version m.zi m.end_ m.slot) (by simp [qf,hp]);rw [FY hat] at this;unfold fO at this;split at this
 ·assumption
 ·omega
def TG (hat:fk w m v g e) (ow:∀ x,j8 m x<=Has w x) {p:Nat} (h:ph m=p) (hp:p=3∨p=4):1<=e.zf:=by
 have:=Ck ow h (.act m.version m.zi m.end_) (by simp [qf,hp]);rw [LQ hat] at this;omega
def QJ (st:St N K w) (tg:Tg N w) (su:qG w m v g e) (tm:fe m) (lo:EH w m v g e) (hk:m.op.kind=2) (hN:N<=100000000) (hK:K<=1099511627776) (ow:∀ x,j8 m x<=Has w x):∃ r,yv w m v g e=some r∧Nc N K w m EH HY r:=by
 obtain ⟨f1,f2,f3,f4,f5,f6,f7⟩:=vB st su;have st1:St (N+1) (K+1) w:=st.mono aw aw;have tg1:=tg.mono (pH N);have te:=Bq tg su.at_;have hs:=PT f1 f2;have pc:=lo.pc;unfold yv;rcases (by omega:m.pc=0∨m.pc=1∨m.pc=2∨m.pc=3∨m.pc=4∨m.pc=9) with p | p | p | p | p | p
 ·have l0:=lo.ey aw;rw [dU p];exact zM rfl ⟨uW,st1,tg1,⟨tm.listen,f6.1,tm.link,tm.host,tm.path,tm.d0,tm.d1,tm.cfg,tm.iN⟩,rfl,rfl,jY.refl w _,qj w (Bt (p:=3) (im su.done hk uM) (im su.done hk uM) rfl rfl rfl rfl rfl),.inr ⟨v,g,e,uQ,⟨uL,fun _=>l0,fun _=>⟨gy _,hs⟩,uK⟩⟩⟩
 ·have l0:=lo.ey aw;have lt:=lo.tag (.inl p);obtain ⟨h0,h1,h2⟩:=Kd su.at_ ow (p:=3) (im su.done hk uM) (.inr rfl);have hw: -1<=zC m.word:=by show -1<=m.word % 4294967296 - 1;omega
  obtain ⟨b1,b2⟩:=Slp.R2 (v:=zC m.word) f1 h0 h2;have hlen:(vi m e).next.length=e.next.length:=rF
  have hok:(vi m e).ok:=⟨f6.1,⟨fun x hx=>by
   rcases mem_set hx with hx | rfl
   ·exact f6.2.1.1 x hx
   ·unfold i64;omega,by rw [hlen];exact f6.2.1.2⟩,f6.2.2⟩
  have st2:=st1.iS su.at_ (e':=qw (vi m e) e.head e.zf) (tk:=g.zt) b2 hlen hok f7 aN;rw [dR aw,dU p]
  exact zM rfl ⟨tJ,st2,Be tg1 su.at_ (e':=qw (vi m e) e.head e.zf) ⟨by have:=te.1;show iR e<=_;omega,fun x hx=>by
    rcases mem_set hx with hx | rfl
    ·exact te.2 x hx
    ·exact ⟨hw,lt.2⟩⟩,uO,rfl,rfl,kW su.at_ (e':=qw (vi m e) e.head e.zf) ⟨hlen,gy _,fun _=>rfl,fun s s0 hso=>by
    show (e.next.set m.slot.toNat _)[s.toNat]?= _;rw [gZ];intro hc;have hc:s=m.slot:=aw
    rw [hc,jw (p:=3) (im su.done hk uM)] at hso;simp [qf] at hso⟩,LY su.at_ (e':=qw (vi m e) e.head e.zf) hlen (by rw [show Slp.qB (qw (vi m e) e.head e.zf)=Slp.qB e from b1]) rfl (Bt (p:=3) (im su.done hk uM) (im su.done hk uM) rfl rfl rfl rfl rfl),
   .inr ⟨_,_,_,wF (e':=qw (vi m e) e.head e.zf) (m':={ m with pc:=2 }) su hlen st2.ji rfl su.done rfl rfl rfl rfl rfl rfl rfl rfl,⟨uL,fun _=>l0,fun _=>lt,fun _=>by
    show (e.next.set m.slot.toNat _)[m.slot.toNat]?= _;rw [dW aw]⟩⟩⟩
 ·have l0:=lo.ey aw;obtain ⟨h0,h1,h2⟩:=Kd su.at_ ow (p:=3) (im su.done hk uM) (.inr rfl);rw [dR aw,dR aw,dU p];by_cases q:e.head=m.word
  ·rw [dU q];have hx:=lo.next p;have hh:zC m.word=Slp.zC e:=by rw [<- q];rfl
   rw [hh] at hx;obtain ⟨c1,c2,c3⟩:=Ta f6 f1 h0 h1 h2;rw [yI _ _ hx,q] at c1 c2 c3;have nt:=Ly (i:=m.slot) te.1 f6.1 hN aw aw;rw [q] at nt;have st2:=st1.iS su.at_ (e':=qw e (Slp.qW m.word m.slot) e.zf) (tk:=g.zt) c1 rfl c2 f7 aN;have ta:iR (qw e (Slp.qW m.word m.slot) e.zf)=iR e+1:=by unfold iR;rw [q];exact nt
   exact zM rfl ⟨aO,st2,Be tg1 su.at_ (e':=qw e (Slp.qW m.word m.slot) e.zf) ⟨by have:=te.1;omega,te.2⟩,uO,rfl,rfl,kW su.at_ (e':=qw e (Slp.qW m.word m.slot) e.zf) ⟨rfl,aw,fun h=>by omega,fun _ _ _=>rfl⟩,
    nh (p:=3) (p':=4) (im su.done hk uM) (im su.done hk uM) (U0 su.at_ (e':=qw e (Slp.qW m.word m.slot) e.zf) rfl h0 h1 c3 h2 rfl m.listen),.inr ⟨_,_,_,wF (e':=qw e (Slp.qW m.word m.slot) e.zf) (m':={ m with pc:=3 }) su rfl st2.ji rfl su.done rfl rfl rfl rfl rfl rfl rfl rfl,
    ⟨uL,fun _=>l0,uK,uK⟩⟩⟩
  ·rw [dR q];exact zM rfl ⟨aP,st1,tg1,uO,rfl,rfl,jY.refl w _,qj w (Bt (p:=3) (im su.done hk uM) (im su.done hk uM) rfl rfl rfl rfl rfl),.inr ⟨v,g,e,uQ,⟨uL,fun _=>l0,uK,uK⟩⟩⟩
 ·have l0:=lo.ey aw;have a1:=TG su.at_ ow (p:=4) (im su.done hk uM) (.inr rfl);have hw:IntKind.i64.wrap (e.zf - 1)=e.zf - 1:=jc aw aw;have st2:=st1.iS su.at_ (e':=qw e e.head (e.zf - 1)) (tk:=g.zt) (LS f1 _ aw) rfl ⟨f6.1,f6.2.1,by show i64 (e.zf - 1);unfold i64;omega⟩ f7 (by show e.zf - 1<=_;omega);rw [dR aw,dR aw,dR aw,dU p,hw]
  exact zM rfl ⟨tN,st2,Be tg1 su.at_ (e':=qw e e.head (e.zf - 1)) (show oK (N+1) e from Bq tg1 su.at_),uO,rfl,rfl,kW su.at_ (e':=qw e e.head (e.zf - 1)) ⟨rfl,gy _,fun _=>rfl,fun _ _ _=>rfl⟩,
   nh (p:=4) (p':=1) (im su.done hk uM) (im su.done hk uM) (UX su.at_ (e':=qw e e.head (e.zf - 1)) rfl rfl a1 rfl m.slot m.listen),.inr ⟨_,_,_,wF (e':=qw e e.head (e.zf - 1)) (m':={ m with pc:=4 }) su rfl st2.ji rfl su.done rfl rfl rfl rfl rfl rfl rfl rfl,
   ⟨uL,fun _=>l0,uK,uK⟩⟩⟩
 ·have l0:=lo.ey aw;have p1:ph m=1:=(im su.done hk uM);obtain ⟨_,x,hx,x1⟩:=Lp ow p1 ar;have ca:=st.fL.ey x (dS hx);have hw:IntKind.i64.wrap (x.zf - 1)=x.zf - 1:=jc aw aw;have st2:=Gh st su hx (x.zf - 1) aw aw hK;unfold iI;rw [dR aw,dR aw,dR aw,dR aw,dU p,dR aw,hx,gh];unfold o5;rw [hw];exact zM rfl ⟨tN,st2,tg1,uP,rfl,rfl,B5 hx rfl id,nh (p:=1) (p':=0) p1 (yL rfl (fun h=>absurd (hk.symm.trans h.1) ar)) (Lw l0 hx x1 rfl _ _ _ _ _ _ _ _ _),.inl ⟨rfl,.inl ⟨rfl,p⟩⟩⟩
 ·rw [dR aw,dR aw,dR aw,dR aw,dR aw,dU p];exact zM rfl ⟨uW,st1,tg1,uP,rfl,rfl,jY.refl w _,qj w (ko (im su.done hk uM) (yL rfl (fun h=>absurd (hk.symm.trans h.1) ar))),.inl ⟨rfl,.inr ⟨rfl,p⟩⟩⟩
def TH (ow:∀ x,j8 m x<=Has w x) (h:ph m=5):m.version≠w.current∧∀ r ∈ w.zr,r.version≠m.version:=by
 have:=Ck ow h (.eR m.version) (by simp [qf]);simp only [Has] at this;split at this
 ·rename_i q;exact ⟨q.2.2.1,q.2.2.2⟩
 ·omega
def K5 (w:Wor) (n:Int) {x:u9} (hx:∀ g ∈ x.zm,∀ e ∈ g.ends,e.zf=0∧∀ s,fO e s=0) (i j k:Int):
  ig { w with current := n, ze := w.ze ++ [x] } i j k = ig w i j k ∨ (ig w i j k = none ∧ ∃ e, ig { w with current := n, ze := w.ze ++ [x] } i j k = some e ∧ e.zf = 0 ∧ ∀ s, fO e s = 0) := by
 unfold ig wj;dsimp only;by_cases q:0<=i∧0<=j∧0<=k
 ·rw [dU q,dU q];by_cases h:i.toNat < w.ze.length
  ·rw [dX h];exact .inl rfl
  ·rw [gu aw,pC (show w.ze.length<=i.toNat by omega),sZ];cases hv:[x][i.toNat - w.ze.length]? with
   | none=>exact .inl rfl
   | some y=>
    have:y=x:=gM.1 (dS hv);subst this;rw [gE];cases hg:y.zm[j.toNat]? with
    | none=>exact .inl rfl
    | some g=>
     rw [gE];cases he:g.ends[k.toNat]? with
     | none=>exact .inl rfl
     | some e=>exact .inr ⟨rfl,e,rfl,hx g (dS hg) e (dS he)⟩
 ·rw [dR q,dR q];exact .inl rfl
def QB (gw:jO w) {x:u9} (hx:∀ g ∈ x.zm,∀ e ∈ g.ends,e.zf=0∧∀ s,fO e s=0) (a b c d l a' b' c' l':Int):Mv w { w with current:=w.ze.length,ze:=w.ze++[x] } (qf 0 d a b c l) (qf 5 w.current a' b' c' l'):=fun y=>by
 have cu:=gw.current;rw [kC];cases y with
 | slot i j k s=>
  have:qf 5 w.current a' b' c' l' (.slot i j k s)=0:=by simp [qf]
  rw [this];rcases K5 w w.ze.length hx i j k with q | ⟨q,e,q1,q2,q3⟩
  ·simp only [Has,q]
  ·simp only [Has,q,q1,q3]
 | act i j k=>
  have:qf 5 w.current a' b' c' l' (.act i j k)=0:=by simp [qf]
  rw [this];rcases K5 w w.ze.length hx i j k with q | ⟨q,e,q1,q2,q3⟩
  ·simp only [Has,q]
  ·simp only [Has,q,q1,q2];rfl
 | ey i=>simp [Has,qf]
 | lock=>simp [Has,qf]
 | eR i=>
  have la:∀ r ∈ w.zr,r.version≠w.current∧r.version < w.ze.length:=fun r hr=>by
   obtain ⟨i,hi⟩:=gA.1 hr;have:=AN gw hi;exact ⟨this.2.2.2.2,this.2.2.2.1⟩
  simp only [Has,qf,sY,gW,rk];by_cases q:w.current=i
  ·rw [dU (show 0<=i∧_∧_∧_ from ⟨aw,aw,aw,fun r hr=>by have:=la r hr;omega⟩),dR aw,dU q]
  ·rw [dR q];by_cases q2:0<=i∧i < w.ze.length∧i≠w.current∧∀ r ∈ w.zr,r.version≠i
   ·rw [dU q2,dU ⟨q2.1,aw,aw,q2.2.2.2⟩]
   ·rw [dR q2,dR (fun z=>q2 ⟨z.1,aw,aw,z.2.2.2⟩)]
def R6 {x:eJ} (h0:0<=x.version∧x.version < w.ze.length) (h1:x.version≠w.current) (h2:∀ r ∈ w.zr,r.version≠x.version) (a b c a' b' c' d' l l':Int):Mv w { w with zr:=w.zr++[x] } (qf 5 x.version a b c l) (qf 0 d' a' b' c' l'):=fun y=>by
 rw [kC];cases y with
 | slot i j k s=>simp [Has,qf];rfl
 | act i j k=>simp [Has,qf];rfl
 | ey i=>simp [Has,qf]
 | lock=>simp [Has,qf]
 | eR i=>
  simp only [Has,qf,sY];by_cases q:x.version=i
  ·rw [dR (fun z=>z.2.2.2 x aj q),dU q,dU (q ▸ ⟨h0.1,h0.2,h1,h2⟩)]
  ·rw [dR q];by_cases q2:0<=i∧i < w.ze.length∧i≠w.current∧∀ r ∈ w.zr,r.version≠i
   ·rw [dU q2,dU ⟨q2.1,q2.2.1,q2.2.2.1,fun r hr=>by
     rcases gJ.1 hr with hr | hr
     ·exact q2.2.2.2 r hr
     ·rw [gM.1 hr];exact q⟩]
   ·rw [dR q2,dR (fun z=>q2 ⟨z.1,z.2.1,z.2.2.1,fun r hr=>z.2.2.2 r (gJ.2 (.inl hr))⟩)]
def Us {x:eV} (h:Ei x) (n:Nat):oK n (xG x)∧∀ s,fO (xG x) s=0:=by
 have hs:=h.xP;unfold xG;have:x.xP=1∨x.xP=2∨x.xP=3∨x.xP=4:=aw
 rcases this with e | e | e | e <;> rw [e]
 ·refine ⟨⟨aQ,ar⟩,fun s=>?_⟩;unfold fO;rw [dR];rintro ⟨h1,h2,h3⟩;have h2:s < 1:=h2;have:s=0:=by omega
  subst this;exact dN
 ·refine ⟨⟨aQ,ar⟩,fun s=>?_⟩;unfold fO;rw [dR];rintro ⟨h1,h2,h3⟩;have h2:s < 2:=h2;have:s=0∨s=1:=by omega
  rcases this with rfl | rfl
  ·exact dN
  ·exact dN
 ·refine ⟨⟨aQ,ar⟩,fun s=>?_⟩;unfold fO;rw [dR];rintro ⟨h1,h2,h3⟩;have h2:s < 3:=h2;have:s=0∨s=1∨s=2:=by omega
  rcases this with rfl | rfl | rfl
  ·exact dN
  ·exact dN
  ·exact dN
 ·refine ⟨⟨aQ,ar⟩,fun s=>?_⟩;unfold fO;rw [dR];rintro ⟨h1,h2,h3⟩;have h2:s < 4:=h2;have:s=0∨s=1∨s=2∨s=3:=by omega
  rcases this with rfl | rfl | rfl | rfl
  ·exact dN
  ·exact dN
  ·exact dN
  ·exact dN
def J6 {s:Sna} (h:vn s=true) (n:Nat):∀ g ∈ (qR s).1.zm,∀ e ∈ g.ends,oK n e∧e.zf=0∧∀ t,fO e t=0:=fun g hg e he=>by
 unfold qR at hg;rw [dU h] at hg;obtain ⟨x,hx,rfl⟩:=gL.1 (show g ∈ s.zk.map iz from hg);rw [gQ (show e ∈ List.replicate x.zL.length (xG x) from he)];have gc:=(jB h).all x hx;have f:=kb gc;have q:=Us gc n;exact ⟨q.1,f.2.2.1,q.2⟩
def UC (st:St N K w) (tg:Tg N w) (su:qG w m v g e) (tm:fe m) (lo:EI w m v g e) (hk:m.op.kind=3) (ow:∀ x,j8 m x<=Has w x):∃ r,va w m=some r∧Nc N K w m EI Af r:=by
 have gw:=st.ji;have st1:St (N+1) (K+1) w:=st.mono aw aw;have tg1:=tg.mono (pH N);have pc:=lo.pc;have cu:=gw.current;unfold va;rcases (by omega:m.pc=0∨m.pc=1∨m.pc=2) with p | p | p
 ·rw [dU p];by_cases q:mn m.op.config=0
  ·rw [dU q];have hc:(jg m.op.config).1=0:=by rw [<- wZ];exact q
   have st2:=st.L4 hc (tm.cfg hk);have fr:=J6 (Fm hc);obtain ⟨v',hv'⟩:∃ v',w.ze[w.current.toNat]?= some v':=⟨_,dQ aw⟩;have gv:=(gw.eR _ v' hv').1;have h0:0 < v'.zm.length:=aE
   obtain ⟨g',e',hg,he,l1,l2⟩:=v7 gv h0
   exact zM rfl ⟨(by show (6:Int)≠0;decide),st2,fun v2 hv g2 hg e2 he=>by
     rcases gJ.1 hv with hv | hv
     ·exact tg1 v2 hv g2 hg e2 he
     ·rw [gM.1 hv] at hg;exact (fr (N+1) g2 hg e2 he).1,uO,rfl,rfl,R0,nh (p:=0) (p':=5) (n7 su.done hk uM) (n7 su.done hk uM) (QB gw (fun g hg e he=>(fr 0 g hg e he).2) _ _ _ _ _ _ _ _ _),.inr ⟨v',g',e',⟨ql.2 st2.ji,su.zg,su.done,⟨cu.1,aR⟩,
    by show (w.ze++[y9 m.op.config])[w.current.toNat]?= some v';rw [dX aw];exact hv',⟨gy _,aK⟩,hg,⟨gy _,aK⟩,he,⟨gy _,aK⟩,⟨gy _,aK⟩,su.listen,by show (0:Int)<=(w.ze.length:Nat);omega,su.k⟩,
    ⟨uL,uK⟩⟩⟩
  ·rw [dR q];exact zM rfl ⟨uW,st1,tg1,uP,rfl,rfl,jY.refl w _,qj w (ko (n7 su.done hk uM) (yL rfl (fun h=>absurd (hk.symm.trans h.1) ar))),.inl ⟨rfl,by show (7:Int)<=9∧(9:Int)<=13;decide⟩⟩
 ·have ep:=(zY.1 gw.ground).zn;rw [dR aw,dU p];exact zM rfl ⟨uW,st1,tg1,uO,rfl,rfl,jY.refl w _,qj w (Wf (n7 su.done hk uM) (n7 su.done hk uM) rfl),.inr ⟨v,g,e,uQ,⟨uL,fun _=>⟨ep.1,gy _⟩⟩⟩⟩
 ·have p5:ph m=5:=(n7 su.done hk uM);have vf:=TH ow p5;have ep:=lo.ep p;have sv:=su.version
  have nl:wx w m=false:=by
   unfold wx;simp only [pz,gU,gT,beq_eq_false_iff_ne,pn];exact ⟨⟨⟨fun r hr=>vf.2 r hr,vf.1⟩,aw⟩,aw⟩
  have st2:=st.Mu (x:=⟨m.version,m.zn,false⟩) sv.1 sv.2 vf.1 ep.1 ep.2 rfl vf.2;rw [dR aw,dR aw,dU p,nl];exact zM rfl ⟨tJ,st2,tg1,uP,rfl,rfl,TL,nh (p:=5) (p':=0) p5 (yL rfl (fun h=>absurd (hk.symm.trans h.1) ar)) (R6 (x:=⟨m.version,m.zn,false⟩) sv vf.1 vf.2 _ _ _ _ _ _ _ _ _),.inl ⟨rfl,by show (7:Int)<=8∧(8:Int)<=13;decide⟩⟩
def S4 (st:St N K w) (tg:Tg N w) (su:qG w m v g e) (tm:fe m) (lo:m.pc=0) (hk:m.op.kind=4) (hN:N<=100000000):∃ r,wh w m=some r∧Nc N K w m (fun _ m _ _ _=>m.pc=0) Af r:=by
 have gw:=st.ji;have st1:St (N+1) (K+1) w:=st.mono aw aw;have tg1:=tg.mono (pH N);have pr:=E9 w.zd m.op.listen;have hl:=st.ty.ey;have p0:ph m=0:=Cd su.done aw aw aw aw;unfold wh;rw [dU lo];by_cases q:zU w.zd m.op.listen < 0
 ·rw [dU q];exact zM rfl ⟨uW,st1,tg1,uP,rfl,rfl,jY.refl w _,qj w (ko p0 (yL rfl (fun h=>absurd (hk.symm.trans h.1) ar))),.inl ⟨rfl,by show (7:Int)<=7∧(7:Int)<=13;decide⟩⟩
 ·rw [dR q];obtain ⟨x,hx⟩:∃ x,w.zd[(zU w.zd m.op.listen).toNat]?= some x:=⟨_,dQ aw⟩;have li:=DS (gw.ey _ x hx).1;have lk:=st.ty.lJ x (dS hx);have ca:=st.fL.ey x (dS hx);rw [hx,gh];have st2:=st1.Cn hx (y:=Go.Gat.nD x) rfl (DE li.1 li.2.1 rfl) lk.2 (by show x.zf<=_;omega);exact zM rfl ⟨tJ,st2,tg1,⟨aJ,tm.word,tm.link,tm.host,tm.path,tm.d0,tm.d1,tm.cfg,(fun h=>absurd ((show m.op.kind=6 from h).symm.trans hk) ar)⟩,rfl,rfl,B5 hx rfl (fun _=>rfl),JP (y:=Go.Gat.nD x) aw hx rfl (ko p0 (yL rfl (fun h=>absurd (hk.symm.trans h.1) ar))),.inl ⟨rfl,by show (7:Int)<=10∧(10:Int)<=13;decide⟩⟩
def S5 (st:St N K w) (tg:Tg N w) (su:qG w m v g e) (tm:fe m) (lo:BJ w m v g e) (hk:m.op.kind=6):∃ r,vN w m=some r∧Nc N K w m BJ Af r:=by
 have st1:St (N+1) (K+1) w:=st.mono aw aw;have tg1:=tg.mono (pH N);have i0:=su.i;have k0:=su.k;have ik:=lo.i;have kk:=lo.k;have u4:m.i.toNat < w.counts.length:=aw
 have hl:=(zY.1 st.ji.ground).counts.2 _ (gS u4);have p0:ph m=0:=Cd su.done aw aw aw aw;unfold vN;rw [dU ⟨lo.pc,lo.k⟩,dQ u4,gE,dQ (show m.k.toNat < (w.counts[m.i.toNat]).length by omega),gh];generalize (w.counts[m.i.toNat])[m.k.toNat]'aw=n;by_cases h6:m.k+1=6
 ·by_cases h7:m.i+1=w.counts.length
  ·have e3:=GL (n:=n) h6 h7
   exact zM rfl ⟨uW,st1,tg1,by
     show fe (jm w m n);rw [e3];exact ⟨tm.listen,tm.word,tm.link,tm.host,tm.path,tm.d0,tm.d1,tm.cfg,fun _ h=>(by cases h)⟩,by show (jm w m n).op=m.op;rw [e3],by show (jm w m n).zg=m.zg;rw [e3],jY.refl w _,qj w (ko p0 (by show ph (jm w m n)=0;rw [e3];exact yL rfl (fun h=>absurd (hk.symm.trans h.1) ar))),.inl (by
     show (jm w m n).done=true∧Af (jm w m n);rw [e3];exact ⟨rfl,by show (7:Int)<=13∧(13:Int)<=13;decide⟩)⟩
  ·have e2:=GK (n:=n) h6 h7
   exact zM rfl ⟨uW,st1,tg1,by
     show fe (jm w m n);rw [e2];exact uO,by show (jm w m n).op=m.op;rw [e2],by show (jm w m n).zg=m.zg;rw [e2],jY.refl w _,qj w (ko p0 (by show ph (jm w m n)=0;rw [e2];exact Cd su.done (by show m.op.kind≠1;omega) (by show m.op.kind≠2;omega) (by show m.op.kind≠3;omega) (by show m.op.kind≠5;omega))),.inr ⟨v,g,e,by
     show qG w (jm w m n) v g e;rw [e2];exact ⟨su.world,su.zg,su.done,su.version,su.eX,su.zi,su.eG,su.end_,su.eS,su.other,su.slot,su.listen,by show 0<=m.i+1;omega,gy _⟩,by
     show BJ w (jm w m n) v g e;rw [e2];exact ⟨lo.pc,by show (0:Int) < 6;decide,by show m.i+1 < _;omega⟩⟩⟩
 ·have e1:=GJ (w:=w) (n:=n) h6 aw
  exact zM rfl ⟨uW,st1,tg1,by
    show fe (jm w m n);rw [e1];exact uO,by show (jm w m n).op=m.op;rw [e1],by show (jm w m n).zg=m.zg;rw [e1],jY.refl w _,qj w (ko p0 (by show ph (jm w m n)=0;rw [e1];exact Cd su.done (by show m.op.kind≠1;omega) (by show m.op.kind≠2;omega) (by show m.op.kind≠3;omega) (by show m.op.kind≠5;omega))),.inr ⟨v,g,e,by
    show qG w (jm w m n) v g e;rw [e1];exact ⟨su.world,su.zg,su.done,su.version,su.eX,su.zi,su.eG,su.end_,su.eS,su.other,su.slot,su.listen,su.i,by show 0<=m.k+1;omega⟩,by
    show BJ w (jm w m n) v g e;rw [e1];exact ⟨lo.pc,by show m.k+1 < 6;omega,lo.i⟩⟩⟩
end
def UY {w:Wor} (h:w.lock=0) (a b c d l a' b' c' d' l':Int):Mv w { w with lock:=1 } (qf 0 a b c d l) (qf 6 a' b' c' d' l'):=fun y=>by
 rw [kC];cases y with
 | slot i j k s=>simp [Has,qf];rfl
 | act i j k=>simp [Has,qf];rfl
 | ey i=>simp [Has,qf]
 | eR i=>simp [Has,qf]
 | lock=>simp [Has,qf,h]
def R7 {w:Wor} (h:w.lock=1) (a b c d l a' b' c' d' l':Int):Mv w { w with lock:=0 } (qf 6 a' b' c' d' l') (qf 0 a b c d l):=fun y=>by
 rw [kC];cases y with
 | slot i j k s=>simp [Has,qf];rfl
 | act i j k=>simp [Has,qf];rfl
 | ey i=>simp [Has,qf]
 | eR i=>simp [Has,qf]
 | lock=>simp [Has,qf,h]
def TQ {w:Wor} {i k:Nat} {v:u9} {x:eJ} {a b:Key->Nat} (hv:w.ze[k]?= some v) (hx:w.zr[i]?= some x) (h:a=b):Mv w { w with ze:=w.ze.set k (oo v),zr:=w.zr.set i (wu x) } a b:=fun y=>by
 rw [h]
 have en:∀ p q r,ig { w with ze:=w.ze.set k (oo v),zr:=w.zr.set i (wu x) } p q r=ig w p q r:=fun p q r=>by
  unfold ig wj;dsimp only;by_cases z:k=p.toNat
  ·subst z;rw [dW (dP.1 hv).1,hv,gE,gE]
  ·rw [gZ z]
 cases y with
 | slot p q r s=>simp only [Has,en]
 | act p q r=>simp only [Has,en]
 | ey p=>rfl
 | lock=>rfl
 | eR p=>
  have ml:(∀ r ∈ w.zr.set i (wu x),r.version≠p)↔∀ r ∈ w.zr,r.version≠p:=by
   constructor
   ·intro z r hr;obtain ⟨j,hj⟩:=gA.1 hr;by_cases e:i=j
    ·subst e;rw [hx] at hj;cases hj
     exact z (wu x) (gA.2 ⟨i,dW (dP.1 hx).1⟩)
    ·exact z r (gA.2 ⟨j,by rw [gZ e];exact hj⟩)
   ·intro z r hr;rcases mem_set hr with hr | rfl
    ·exact z r hr
    ·exact z x (dS hx)
  simp only [Has,rF,ml]
section
variable {N K:Nat} {w:Wor} {m:u3} {v:u9} {g:Gr} {e:En}
def Ur {i k:Nat} {x:eJ} (tg:Tg N w) (hv:w.ze[k]?= some v):Tg N { w with ze:=w.ze.set k (oo v),zr:=w.zr.set i (wu x) }:=fun v2 hv2 g hg e he=>by
 rcases mem_set hv2 with hv2 | rfl
 ·exact tg v2 hv2 g hg e he
 ·exact tg v (dS hv) g hg e he
def RS (ow:∀ x,j8 m x<=Has w x) (gw:jO w) (h:ph m=6):w.lock=1:=by
 have:=Ck ow h .lock (by simp [qf]);have l:=(zY.1 gw.ground).lock;simp only [Has] at this;omega
def Mq {m1:u3} (st:St N K w) (tg:Tg N w) (su:qG w m1 v g e) (tm:fe m1) (hk:m1.op.kind=5) (hN:N<=100000000) (hpc:m1.pc=8) (ho:m1.op=m.op) (ht:m1.zg=m.zg) (p6:ph m=6) (lk:w.lock=1):Nc N K w m C4 Af (mE w m1):=by
 have st1:St (N+1) (K+1) w:=st.mono aw aw;have tg1:=tg.mono (pH N);have i0:=su.i;have hl:=st.ty.ey;unfold mE;cases hx:w.zd[m1.i.toNat]? with
 | none=>
  have st2:=st1.C7 (n:=0) (.inl rfl);exact ⟨tJ,st2,tg1,⟨tm.listen,tm.word,tm.link,tm.host,tm.path,tm.d0,tm.d1,tm.cfg,fun h=>absurd ((show m1.op.kind=6 from h).symm.trans hk) ar⟩,ho,ht,yc (gy _) rfl rfl rfl rfl rfl,nh (p:=6) (p':=0) p6 (yL rfl (fun h=>absurd (hk.symm.trans h.1) ar)) (R7 lk _ _ _ _ _ _ _ _ _ _),.inl ⟨rfl,by show (7:Int)<=11∧(11:Int)<=13;decide⟩⟩
 | some l=>
  have u4:=(dP.1 hx).1;have hw:IntKind.i64.wrap (m1.i+1)=m1.i+1:=jc aw aw;dsimp only;by_cases q:l.drain=true∧l.closed=false
  ·unfold Ah;rw [dU q];exact ⟨uW,st1,tg1,uO,ho,ht,jY.refl w _,qj w (kq p6 (ib su.done hk uM)),.inr ⟨v,g,e,uQ,⟨uL,uK,uK,uK,fun _=>⟨l,hx,q.1⟩⟩⟩⟩
  ·unfold Ah;rw [dR q,hw];exact ⟨uW,st1,tg1,uO,ho,ht,jY.refl w _,qj w (kq p6 (ib su.done hk uM)),.inr ⟨v,g,e,⟨su.world,su.zg,su.done,su.version,su.eX,su.zi,su.eG,su.end_,su.eS,su.other,su.slot,su.listen,(by show 0<=m1.i+1;omega),su.k⟩,⟨by show _∨(8<=m1.pc∧m1.pc<=10);omega,uK,uK,uK,uK⟩⟩⟩
def PJ (st:St N K w) (tg:Tg N w) (su:qG w m v g e) (tm:fe m) (lo:C4 w m v g e) (hk:m.op.kind=5) (hN:N<=100000000) (ow:∀ x,j8 m x<=Has w x):∃ r,yA w m=some r∧Nc N K w m C4 Af r:=by
 have gw:=st.ji;have st1:St (N+1) (K+1) w:=st.mono aw aw;have tg1:=tg.mono (pH N);have i0:=su.i;have k0:=su.k;have gr:=zY.1 gw.ground;have lT:=st.ty.ey;have lL:=st.ty.ia;have pc:=lo.pc;have pcs:m.pc=0∨m.pc=1∨m.pc=2∨m.pc=3∨m.pc=4∨m.pc=5∨m.pc=6∨m.pc=8∨m.pc=9∨m.pc=10:=aw
 unfold yA;by_cases p:m.pc=0
 ·rw [dU p];by_cases q:w.lock=0
  ·rw [dU q];have st2:=st1.C7 (n:=1) (.inr rfl);exact zM rfl ⟨aO,st2,tg1,uO,rfl,rfl,yc (gy _) rfl rfl rfl rfl rfl,nh (p:=0) (p':=6) (ib su.done hk uM) (ib su.done hk uM) (UY q _ _ _ _ _ _ _ _ _ _),.inr ⟨v,g,e,⟨ql.2 st2.ji,su.zg,su.done,su.version,su.eX,su.zi,su.eG,su.end_,su.eS,su.other,su.slot,su.listen,su.i,su.k⟩,⟨uL,uK,uK,uK,uK⟩⟩⟩
  ·rw [dR q];exact zM rfl ⟨aP,st1,tg1,uP,rfl,rfl,jY.refl w _,qj w (ko (ib su.done hk uM) (yL rfl (fun h=>absurd (hk.symm.trans h.1) ar))),.inl ⟨rfl,by show (7:Int)<=12∧(12:Int)<=13;decide⟩⟩
 replace pcs:=pcs.resolve_left p
 have p6:ph m=6:=(ib su.done hk uM);have lk:=RS ow gw p6;have kl:j8 m .lock=1:=by rw [jw p6];simp [qf]
 rw [dR p];clear p
 by_cases p:m.pc=1
 ·rw [dU p];exact zM rfl ⟨uW,st1,tg1,uO,rfl,rfl,jY.refl w _,qj w (kq p6 (ib su.done hk uM)),.inr ⟨v,g,e,uS,⟨uL,fun _=>by show (0:Int) < (w.pins.length:Nat);have:=gr.pins.1;omega,uK,uK,uK⟩⟩⟩
 replace pcs:=pcs.resolve_left p
 rw [dR p];clear p
 by_cases p:m.pc=2
 ·rw [dU p];have hi:=lo.lK p;obtain ⟨x,hx⟩:∃ x,w.pins[m.i.toNat]?= some x:=⟨_,dQ aw⟩;have hw:IntKind.i64.wrap (m.i+1)=m.i+1:=jc aw (by have:=gr.pins.2;omega);rw [hx,gh];unfold n6;rw [hw];by_cases q:x≠0∧x≠IntKind.i64.wrap (m.zn+1)
  ·rw [dU q];exact zM rfl ⟨uW,st1,tg1,uO,rfl,rfl,jY.refl w _,qj w (kq p6 (ib su.done hk uM)),.inr ⟨v,g,e,uS,⟨uL,uK,uK,uK,uK⟩⟩⟩
  rw [dR q];by_cases q2:m.i+1 < w.pins.length
  ·rw [dU q2];exact zM rfl ⟨uW,st1,tg1,uO,rfl,rfl,jY.refl w _,qj w (kq p6 (ib su.done hk uM)),.inr ⟨v,g,e,uR,⟨aS,fun _=>q2,uK,uK,uK⟩⟩⟩
  ·rw [dR q2];exact dw
 replace pcs:=pcs.resolve_left p
 rw [dR p];clear p
 by_cases p:m.pc=3
 ·rw [dU p];by_cases q:w.zn=m.zn∧w.zn < 1000000000000
  ·have hw:IntKind.i64.wrap (w.zn+1)=w.zn+1:=jc (by have:=gr.zn;omega) aw;rw [dU q,hw];have st2:=st1.ER (n:=w.zn+1) aw aw;exact zM rfl ⟨aO,st2,tg1,uO,rfl,rfl,yc (by show w.zn<=w.zn+1;omega) rfl rfl rfl rfl rfl,AP rfl rfl rfl rfl rfl (kq p6 (ib su.done hk uM)),.inr ⟨v,g,e,⟨ql.2 st2.ji,su.zg,su.done,su.version,su.eX,su.zi,su.eG,su.end_,su.eS,su.other,su.slot,su.listen,gy _,su.k⟩,⟨uL,uK,uK,uK,uK⟩⟩⟩
  ·rw [dR q];exact zM rfl ⟨aP,st1,tg1,uO,rfl,rfl,jY.refl w _,qj w (kq p6 (ib su.done hk uM)),.inr ⟨v,g,e,uS,⟨uL,uK,uK,uK,uK⟩⟩⟩
 replace pcs:=pcs.resolve_left p
 rw [dR p];clear p
 by_cases p:m.pc=4
 ·rw [dU p];cases hx:w.zr[m.i.toNat]? with
  | none=>exact zM rfl (Mq st tg (m1:=fM m 8 0) uS uO hk hN rfl rfl rfl p6 lk)
  | some r=>
   have u4:=(dP.1 hx).1;have hw:IntKind.i64.wrap (m.i+1)=m.i+1:=jc aw aw;have la:=AN gw hx;dsimp only;unfold n5;rw [hw];by_cases q:r.gone=true∨Go.Lim.oY r.at_ m.zn=false
   ·rw [dU q];exact zM rfl ⟨uW,st1,tg1,uO,rfl,rfl,jY.refl w _,qj w (kq p6 (ib su.done hk uM)),.inr ⟨v,g,e,uR,⟨aS,uK,uK,uK,uK⟩⟩⟩
   ·rw [dR q];obtain ⟨v',hv'⟩:∃ v',w.ze[r.version.toNat]?= some v':=⟨_,dQ aw⟩;have gv:=(gw.eR _ v' hv').1;have h0:0 < v'.zm.length:=by have:=(jB gv.snap).zk.1;have:=gv.len;omega
    obtain ⟨g',e',hg,he,l1,l2⟩:=v7 gv h0;have el:=K6 gv
    exact zM rfl ⟨uW,st1,tg1,uO,rfl,rfl,jY.refl w _,qj w (kq p6 (ib su.done hk uM)),.inr ⟨v',g',e',⟨su.world,su.zg,su.done,⟨la.2.2.1,la.2.2.2.1⟩,hv',⟨gy _,aK⟩,hg,⟨gy _,aK⟩,he,⟨gy _,aK⟩,⟨gy _,aK⟩,su.listen,su.i,gy _⟩,
     ⟨uL,uK,fun _=>⟨r,hx,rfl,by cases hgo:r.gone with | false=>rfl | true=>exact absurd (.inl hgo) q⟩,fun _=>by show (0:Int) < _;omega,uK⟩⟩⟩
 replace pcs:=pcs.resolve_left p
 rw [dR p];clear p
 by_cases p:m.pc=5
 ·rw [dU p];obtain ⟨r,hr,hrv,hrg⟩:=lo.ia (.inl p);have u4:=(dP.1 hr).1;have hk2:=lo.act p;have gv:=(gw.eR _ v su.eX).1;have el:=K6 gv;have hw:IntKind.i64.wrap (m.i+1)=m.i+1:=jc aw aw;have hwk:IntKind.i64.wrap (m.k+1)=m.k+1:=jc aw aw;obtain ⟨x,hx⟩:∃ x,(yu v)[m.k.toNat]?= some x:=⟨_,dQ aw⟩;rw [su.eX,gE,hx,gh];unfold oN;rw [hw,hwk];by_cases q:x.zf≠0
  ·rw [dU q];exact dw
  rw [dR q];by_cases q2:m.k+1 < (yu v).length
  ·rw [dU q2];exact zM rfl ⟨uW,st1,tg1,uO,rfl,rfl,jY.refl w _,qj w (kq p6 (ib su.done hk uM)),.inr ⟨v,g,e,⟨su.world,su.zg,su.done,su.version,su.eX,su.zi,su.eG,su.end_,su.eS,su.other,su.slot,su.listen,su.i,(by show 0<=m.k+1;omega)⟩,⟨aS,uK,fun _=>⟨r,hr,hrv,hrg⟩,fun _=>q2,uK⟩⟩⟩
  ·rw [dR q2];exact zM rfl ⟨uW,st1,tg1,uO,rfl,rfl,jY.refl w _,qj w (kq p6 (ib su.done hk uM)),.inr ⟨v,g,e,⟨su.world,su.zg,su.done,su.version,su.eX,su.zi,su.eG,su.end_,su.eS,su.other,su.slot,su.listen,su.i,(by show 0<=m.k+1;omega)⟩,⟨uL,uK,fun _=>⟨r,hr,hrv,hrg⟩,uK,uK⟩⟩⟩
 replace pcs:=pcs.resolve_left p
 rw [dR p];clear p
 by_cases p:m.pc=6
 ·rw [dU p];obtain ⟨r,hr,hrv,hrg⟩:=lo.ia (.inr p);have u4:=(dP.1 hr).1;have hw:IntKind.i64.wrap (m.i+1)=m.i+1:=jc aw aw;have st2:=st.qn su.version.1 su.eX hr hrv;have s1:=(dP.1 su.eX).1;rw [su.eX,gE,hr,gE,dU ⟨hrv,hrg⟩];unfold BK;rw [hw]
  exact zM rfl ⟨tJ,st2,Ur tg1 su.eX,uP,rfl,rfl,Q6 kl su.eX hr,TQ su.eX hr (kq p6 (ib su.done hk uM)),.inr ⟨oo v,g,e,⟨ql.2 st2.ji,su.zg,su.done,aq su.version,dW s1,su.zi,su.eG,su.end_,su.eS,su.other,su.slot,su.listen,by show 0<=m.i+1;omega,su.k⟩,
   ⟨uL,uK,uK,uK,uK⟩⟩⟩
 replace pcs:=pcs.resolve_left p
 rw [dR p];clear p
 by_cases p:m.pc=8
 ·rw [dU p];exact zM rfl (Mq st tg su tm hk hN p rfl rfl p6 lk)
 replace pcs:=pcs.resolve_left p
 rw [dR p];clear p
 by_cases p:m.pc=9
 ·rw [dU p];obtain ⟨l,hl,hd⟩:=lo.ey (.inl p);have u4:=(dP.1 hl).1;have hw:IntKind.i64.wrap (m.i+1)=m.i+1:=jc aw aw;rw [hl,gh,hw];by_cases q:l.zf=0
  ·rw [dU q];exact zM rfl ⟨uW,st1,tg1,uO,rfl,rfl,jY.refl w _,qj w (kq p6 (ib su.done hk uM)),.inr ⟨v,g,e,uQ,⟨uL,uK,uK,uK,fun _=>⟨l,hl,hd⟩⟩⟩⟩
  ·rw [dR q];exact dw
 rw [dR p];have p:m.pc=10:=pcs.resolve_left p;obtain ⟨l,hl,hd⟩:=lo.ey (.inr p);have u4:=(dP.1 hl).1;have hw:IntKind.i64.wrap (m.i+1)=m.i+1:=jc aw aw;have li:=DS (gw.ey _ l hl).1;have st2:=st1.Cn hl (y:=CK l) rfl (DE li.1 li.2.1 (by show (l.drain || !true)=true;rw [hd];rfl)) (st.ty.lJ l (dS hl)).2 (by have:=st.fL.ey l (dS hl);show l.zf<=_;omega);rw [dU p,hl,gE,dU hd,hw];exact zM rfl ⟨tJ,st2,tg1,uO,rfl,rfl,B5 hl rfl id,JP (y:=CK l) i0 hl rfl (kq p6 (ib su.done hk uM)),.inr ⟨v,g,e,⟨ql.2 st2.ji,su.zg,su.done,su.version,su.eX,su.zi,su.eG,su.end_,su.eS,su.other,su.slot,aq su.listen,by show 0<=m.i+1;omega,su.k⟩,⟨uL,uK,uK,uK,uK⟩⟩⟩
end
def wt {α:Type} {l l':List α} {i:Nat} {x:α} (h:l[i]?= some x) (hl:l.length<=l'.length):∃ y,l'[i]?= some y:=
 ⟨_,dQ (by have:=(dP.1 h).1;omega)⟩
def KL:∀ {l l':List Gr},l'.length=l.length->(∀ (j:Nat) g g',l[j]?= some g->l'[j]?= some g'->g'.ends.length=g.ends.length)->(l'.flatMap (·.ends)).length=(l.flatMap (·.ends)).length
 | [],[],_,_=>rfl
 | g::l,g'::l',h,hh=>by
  have ih:=KL (l:=l) (l':=l') tX fun j a b ha hb=>hh (j+1) a b (aq ha) (aq hb)
  have h0:=hh 0 g g' rfl rfl;simp only [uj,gW];omega
 | [],_::_,h,_=>by simp at h
 | _::_,[],h,_=>by simp at h
def RR {e:En} (h:Slp.eF e=true) (h0:0<=Slp.zC e):Slp.zC e ∈ (Slp.qB e).1:=by
 have ok:=(Slp.oS h).1;rw [Slp.Am ok,(Slp.Fc ok aw).2.2];exact pD ..
def Mx (e:En) (s:Int):fO e s<=1:=by unfold fO;split <;> omega
def VF {w w':Wor} {m:u3} {v:u9} {g:Gr} {e:En} {o:Key->Nat} (su:qG w m v g e) (lc:Lc w m v g e) (gw:jO w) (gw':jO w') (kp:jY w w' o) (ow:∀ x,o x+j8 m x<=Has w x):
  ∃ v' g' e',qG w' m v' g' e'∧Lc w' m v' g' e':=by
 have hv:=su.version;have hg:=su.zi;have he:=su.end_;obtain ⟨v',av⟩:=wt su.eX kp.iB;have kv:=kp.eR _ v v' su.eX av;obtain ⟨g',ag⟩:=wt su.eG (sa kv.len.symm);have kg:=kv.nZ _ g g' su.eG ag;obtain ⟨e',ae⟩:=wt su.eS (sa kg.len.symm);have ke:=kg.ends _ e e' su.eS ae;rw [pV hv.1,pV hg.1,pV he.1] at ke;have l1:=kp.iB;have l2:=kv.len;have l3:=kg.len;have l4:=ke.len;have l5:=kp.pins;have l6:=kp.ey;have su':qG w' m v' g' e':=⟨ql.2 gw',by have:=su.zg;omega,su.done,aw,av,aw,ag,aw,ae,by have:=su.other;omega,by have:=su.slot;omega,by have:=su.listen;omega,su.i,su.k⟩;refine ⟨v',g',e',su',?_⟩;have isv:=(((gw.eR _ v su.eX).1.fV.2 g (dS su.eG)).2.2 e (dS su.eS)).1;have hsl:=FY su.at_ m.slot;have s0:=su.slot;have slo:=ow (.slot m.version m.zi m.end_ m.slot);rw [hsl] at slo;have sle:=Mx e m.slot;rcases lc with ⟨hk,lo⟩ | ⟨hk,lo⟩ | ⟨hk,lo⟩ | ⟨hk,lo⟩ | ⟨hk,lo⟩ | ⟨hk,lo⟩
 ·refine .inl ⟨hk,⟨lo.pc,fun h=>?_,lo.ey,lo.early,lo.oO,fun h=>?_,fun h=>?_,fun h h2=>?_,lo.iN,lo.kind⟩⟩
  ·have:=lo.ep h;have:=kp.zn;omega
  ·obtain ⟨c,h1,h2⟩:=lo.draw h;exact ⟨c,by rw [kv.snap];exact h1,h2⟩
  ·have:=lo.slot h;have:=ke.tag;exact ⟨(lo.slot h).1,aw⟩
  ·have q:=lo.slot (.inr h);have t1:=ke.tag;have t2:iR e'=m.word / 4294967296:=by unfold iR;rw [h2]
   have hh:=ke.head aw;have hm:e.head=m.word:=by rw [<- hh];exact h2
   have hs:Slp.zC e=m.slot:=by rw [q.1,<- hm];rfl
   have fr:=RR isv aw
   have z:fO e m.slot=0:=by
    unfold fO;rw [dR (fun z=>z.2.2 (hs ▸ fr))]
   rw [ke.next m.slot s0.1 (by show o _=0;omega)];exact lo.link h hm
 ·refine .inr (.inl ⟨hk,⟨lo.pc,lo.ey,fun h=>?_,fun h=>?_⟩⟩)
  ·have:=lo.tag h;have:=ke.tag;omega
  ·have p3:ph m=3:=im su.done hk (by rw [dU aw]);have:j8 m (.slot m.version m.zi m.end_ m.slot)=1:=by rw [jw p3];simp [qf]
   rw [ke.next m.slot s0.1 (by show o _=0;omega)];exact lo.next h
 ·refine .inr (.inr (.inl ⟨hk,⟨lo.pc,fun h=>?_⟩⟩));have:=lo.ep h;have:=kp.zn;omega
 ·exact .inr (.inr (.inr (.inl ⟨hk,lo⟩)))
 ·refine .inr (.inr (.inr (.inr (.inl ⟨hk,⟨lo.pc,fun h=>?_,fun h=>?_,fun h=>?_,fun h=>?_⟩⟩))))
  ·have:=lo.lK h;omega
  ·obtain ⟨r,h1,h2,h3⟩:=lo.ia h;obtain ⟨r',h4⟩:=wt h1 kp.ia;have q:=kp.zr _ r r' h1 h4;have p6:ph m=6:=ib su.done hk (by rw [dU aw]);have k1:j8 m .lock=1:=by rw [jw p6];simp [qf]
   have lk:=(zY.1 gw.ground).lock;have k2:=ow .lock;have k3:Has w .lock=w.lock.toNat:=rfl;exact ⟨r',h4,by rw [q.1];exact h2,by rw [q.2.2 aw];exact h3⟩
  ·have:=lo.act h;have fl:(yu v').length=(yu v).length:=KL l2 fun j a b ha hb=>(kv.nZ j a b ha hb).len
   omega
  ·obtain ⟨l,h1,h2⟩:=lo.ey h;obtain ⟨l',h3⟩:=wt h1 (sa l6.symm);exact ⟨l',h3,(kp.wU _ l l' h1 h3).2 h2⟩
 ·exact .inr (.inr (.inr (.inr (.inr ⟨hk,⟨lo.pc,lo.k,by have:=lo.i;have:=kp.counts;omega⟩⟩))))
def Vd {N K:Nat} {w:Wor} {m:u3} {v:u9} {g:Gr} {e:En} (st:St N K w) (tg:Tg N w) (su:qG w m v g e) (tm:fe m) (lo:Lc w m v g e) (hN:N<=100000000) (hK:K<=1099511627776) (ow:∀ x,j8 m x<=Has w x):∃ r,vz w m=some r∧Nc N K w m Lc EG r:=by
 have up:∀ {L:Wor->u3->u9->Gr->En->Prop} {F:u3->Prop} {r:Wor × u3 × u6},Nc N K w m L F r->(∀ w' m' v g e,m'.op=m.op->L w' m' v g e->Lc w' m' v g e)->(∀ m',m'.op=m.op->F m'->EG m')->Nc N K w m Lc EG r:=fun h hL hF=>
  ⟨h.ev,h.st,h.tg,h.tm,h.op,h.th,h.keep,h.mv,h.go.imp (fun z=>⟨z.1,hF _ h.op z.2⟩) (fun ⟨v,g,e,z1,z2⟩=>⟨v,g,e,z1,hL _ _ _ _ _ h.op z2⟩)⟩
 rw [show vz w m=if m.op.kind=1 then qg w m v g e else if m.op.kind=2 then yv w m v g e else if m.op.kind=3 then va w m else if m.op.kind=4 then wh w m
  else if m.op.kind=5 then yA w m else if m.op.kind=6 then vN w m else none by
   unfold vz;rw [su.eX];dsimp only;rw [su.eG];dsimp only;rw [su.eS]]
 rcases lo with ⟨hk,lo⟩ | ⟨hk,lo⟩ | ⟨hk,lo⟩ | ⟨hk,lo⟩ | ⟨hk,lo⟩ | ⟨hk,lo⟩
 ·rw [dU hk];obtain ⟨r,h1,h2⟩:=QK st tg su tm lo hk hN hK ow;exact ⟨r,h1,up h2 (fun _ m' _ _ _ ho z=>.inl ⟨aT,z⟩) fun m' ho z=>.inl ⟨aT,z⟩⟩
 ·rw [dR aw,dU hk];obtain ⟨r,h1,h2⟩:=QJ st tg su tm lo hk hN hK ow;exact ⟨r,h1,up h2 (fun _ m' _ _ _ ho z=>.inr (.inl ⟨aT,z⟩)) fun m' ho z=>.inr (.inl ⟨aT,z⟩)⟩
 ·rw [dR aw,dR aw,dU hk];obtain ⟨r,h1,h2⟩:=UC st tg su tm lo hk ow;exact ⟨r,h1,up h2 (fun _ m' _ _ _ ho z=>.inr (.inr (.inl ⟨aT,z⟩))) fun m' ho z=>.inr (.inr ⟨aU,aU,z⟩)⟩
 ·rw [dR aw,dR aw,dR aw,dU hk];obtain ⟨r,h1,h2⟩:=S4 st tg su tm lo hk hN;exact ⟨r,h1,up h2 (fun _ m' _ _ _ ho z=>.inr (.inr (.inr (.inl ⟨aT,z⟩)))) fun m' ho z=>.inr (.inr ⟨aU,aU,z⟩)⟩
 ·rw [dR aw,dR aw,dR aw,dR aw,dU hk];obtain ⟨r,h1,h2⟩:=PJ st tg su tm lo hk hN ow;exact ⟨r,h1,up h2 (fun _ m' _ _ _ ho z=>.inr (.inr (.inr (.inr (.inl ⟨aT,z⟩))))) fun m' ho z=>.inr (.inr ⟨aU,aU,z⟩)⟩
 ·rw [dR aw,dR aw,dR aw,dR aw,dR aw,dU hk];obtain ⟨r,h1,h2⟩:=S5 st tg su tm lo hk;exact ⟨r,h1,up h2 (fun _ m' _ _ _ ho z=>.inr (.inr (.inr (.inr (.inr ⟨aT,z⟩))))) fun m' ho z=>.inr (.inr ⟨aU,aU,z⟩)⟩
end Go.Wor
namespace Go.Pla
open Go.Ab Go.Proofs Tryz Go.Hy
def kI.at_ {given L1 L2:List eC} {b:eC} (h:kI given (L1++b::L2)):∃ l1 i l2,jG given=l1++i::l2∧l1.map (fun i=>given[i]?)=L1.map some∧given[i]?= some b∧l2.map (fun i=>given[i]?)=L2.map some:=by
 unfold kI at h;rw [pb,pF] at h;obtain ⟨l1,l',h1,h2,h3⟩:=List.map_eq_append_iff.1 h;obtain ⟨i,l2,h4,h5,h6⟩:=rU.1 h3;exact ⟨l1,i,l2,by rw [h1,h4],h2,h5,h6⟩
def kI.Vv {given L1 L2:List eC} {b f:eC} (h:kI given (L1++b::L2)) (he:wm f b=true) (hn:∀ x ∈ L1,wm f x=false):kI (given++[f]) (L1++L2):=by
 have u4:∀ n ∈ jG given,n < given.length:=km given given.length (gf _)
 have h6:f.kind=6:=by
  unfold wm at he;simp only [dY,gp] at he;exact he.1
 obtain ⟨l1,i,l2,h1,h2,h3,h4⟩:=h.at_
 have a1:∀ n ∈ l1,fE given f n=false:=fun n hm=>by
  have:given[n]? ∈ l1.map (fun i=>given[i]?):=gL.2 ⟨n,hm,rfl⟩;rw [h2] at this;obtain ⟨x,hx,e⟩:=gL.1 this;unfold fE;rw [<- e];exact hn x hx
 have e:(jG given).findIdx? (fE given f)=some l1.length:=by
  rw [h1,sy,gG.2 a1,pZ];have:fE given f i=true:=by unfold fE;rw [h3];exact he
  rw [dU this];simp
 unfold kI;rw [FF,dR aw,e,h1];dsimp only
 rw [List.eraseIdx_append_of_length_le (gf _),rp,List.eraseIdx_cons_zero,FQ given f _ (fun n hn=>u4 n (by
  rw [h1];rcases gJ.1 hn with hn | hn
  ·exact gJ.2 (.inl hn)
  ·exact gJ.2 (.inr (px _ hn)))),pb,h2,h4,pb]
end Go.Pla
namespace Go.Beg
open Go.Ab Go.Proofs Tryz Go.Hy Go.Pla
def Uq {o:eK} {given L:List eC} (h:kI given L) (h0:0<=o.n) (h1:o.n < L.length):∃ a,L[o.n.toNat]?= some a∧At o given=a:=by
 obtain ⟨i,a,h2,h3,h4⟩:=La h0 (by rw [h.len];exact h1);refine ⟨a,?_,h4⟩;have:=pS (fun l=>l[o.n.toNat]?) h;simp only [dT,h2,gh,h3] at this;cases hl:L[o.n.toNat]? with
 | none=>rw [hl] at this;cases this
 | some b=>rw [hl] at this;simp only [gh,gC] at this;rw [this]
def Rq {o:eK} {given L:List eC} (h:kI given L) (h1:¬(0<=o.n∧o.n < L.length)):At o given=ky:=FA (by rw [h.len];exact h1)
end Go.Beg
namespace Go.Wor
open Go.Ab Go.Proofs Tryz Go.Gat Go.Nam Go.Hos Go.Con Go.Sna Go.Pla
open Go.Hy hiding encI
def yr (x:eE) (t:Int) (o:eK):u3:=if x.on then x.m else Beg.j7 t o x.given
def wJ (L:List eC) (x:Key):Nat:=(L.map fun a=>iV a x).sum
def B9 (L L':List eC) (x:Key):wJ (L++L') x=wJ L x+wJ L' x:=by unfold wJ;rw [pb,rH]
def Dq (a:eC) (L:List eC) (x:Key):wJ (a::L) x=iV a x+wJ L x:=by unfold wJ;rw [pF,pG]
def UA (a:eC) (x:Key):wJ [a] x=iV a x:=by rw [Dq];rfl
structure H4 (w:Wor) (t:Int) (x:eE) (m:u3) (L:List eC) (o:Key->Nat):Prop where
 at_:x.ops[x.done]?= some m.op
 th:m.zg=t
 tm:fe m
 lc:∃ v g e,qG w m v g e∧Lc w m v g e
 own:(((m.op.kind≠2∨m.pc=9)∧∀ k,o k=wJ L k+j8 m k)∨(m.op.kind=2∧m.pc<=4∧∃ L1 a L2,L=L1++a::L2∧a.version=m.version∧a.zi=m.zi∧a.end_=m.end_∧a.slot=m.slot∧a.listen=m.listen∧(∀ b ∈ L1,¬Hl b a)∧∀ k,o k=wJ (L1++L2) k+j8 m k))
structure TI (w:Wor) (t:Int) (x:eE) (o:Key->Nat):Prop where
 le:x.done<=x.ops.length
 given:x.given.length=x.done
 open_ : ∃ L, kI x.given L ∧ (∀ a ∈ L, a.kind = 1 ∧ 0 <= a.listen) ∧ ((x.on = false ∧ ∀ k, o k = wJ L k) ∨ (x.on = true ∧ H4 w t x x.m L o))
def LZ {L:List eC} {a:eC} (h:a ∈ L) (k:Key):iV a k<=wJ L k:=by
 obtain ⟨L1,L2,rfl⟩:=List.append_of_mem h;rw [B9,Dq];omega
def Vx {w:Wor} {a:eC} (h:∀ k,iV a k<=Has w k):nU w a:=by
 have h1:=h (.slot a.version a.zi a.end_ a.slot);have h2:=h (.ey a.listen);have e1:iV a (.slot a.version a.zi a.end_ a.slot)=1:=by simp [iV,qf]
 have e2:iV a (.ey a.listen)=1:=by simp [iV,qf]
 rw [e1] at h1;rw [e2] at h2;simp only [Has] at h1 h2;split at h1
 ·rename_i e he;unfold ig at he;split at he
  ·rename_i q;unfold fO at h1;split at h1
   ·rename_i z;split at h2
    ·rename_i l0;split at h2
     ·rename_i l hl;have:=(dP.1 hl).1;exact ⟨⟨q.1,q.2.1,q.2.2,z.1⟩,⟨l0,aw⟩,e,he,z.2⟩
     ·omega
    ·omega
   ·omega
  ·cases he
 ·omega
def VI (w:Wor) (i j k s:Int):Has w (.slot i j k s)<=1:=by
 simp only [Has];split
 ·exact Mx _ _
 ·omega
def Dp {t:Int} {o:eK} {given:List eC} (h:o.kind≠2):Beg.j7 t o given=⟨o,t,0,0,0, -1,0,0,0,0,0,0,0,0,0,false,Beg.ky,iu⟩:=by
 unfold Beg.j7;rw [dR h]
structure HK (o:eK):Prop where
 kind:1<=o.kind∧o.kind<=6
 host:o.host.length < 1000000000000
 path:o.path.length < 1000000000000
 d0:i64 o.d0
 d1:i64 o.d1
 cfg:o.kind=3->xD o.config
def Sg {N K:Nat} {w:Wor} {t:Int} {x:eE} {o:Key->Nat} {p:eK} (st:St N K w) (tg:Tg N w) (ht:0<=t∧t < w.pins.length) (ti:TI w t x o) (hoff:x.on=false) (hp:x.ops[x.done]?= some p) (po:HK p) (hN:N<=100000000) (ow:∀ k,o k<=Has w k):
  TI w t ⟨x.ops,x.done,true,Beg.j7 t p x.given,x.given⟩ o:=by
 obtain ⟨hle,hgl,L,hL,hk,hon⟩:=ti
 have hon:∀ k,o k=wJ L k:=by
  rcases hon with ⟨_,h⟩ | ⟨h,_⟩
  ·exact h
  ·rw [hoff] at h;cases h
 refine ⟨hle,hgl,L,hL,hk,.inr ⟨rfl,?_⟩⟩;have pk:=po.kind;have gr:=zY.1 st.ji.ground
 have idle:∀ {pc:Int} {op:eK},op=p->(pc=0∨pc=9)->fe ⟨op,t,pc,0,0, -1,0,0,0,0,0,0,0,0,0,false,Beg.ky,iu⟩∧∃ v g e,qG w ⟨op,t,pc,0,0, -1,0,0,0,0,0,0,0,0,0,false,Beg.ky,iu⟩ v g e:=fun e _=>by
  subst e;exact ⟨⟨(by decide:i64 (-1)),(by decide:u64 0),(by decide:(-1:Int)<=0∧(0:Int)<=2147483646),po.host,po.path,po.d0,po.d1,po.cfg,fun _ _=>rfl⟩,I5 st.ji ht rfl rfl rfl rfl rfl rfl rfl rfl rfl⟩
 by_cases k2:p.kind=2
 ·by_cases hn:0<=p.n∧p.n < L.length
  ·obtain ⟨a,ha,hta⟩:=Beg.Uq hL hn.1 hn.2;have am:=dS ha;obtain ⟨ak,al⟩:=hk a am;have fa:nU w a:=Vx fun k=>gY (LZ am k) (by rw [<- hon k];exact ow k)
   obtain ⟨⟨p1,p2,p3,p4⟩,⟨l0,l1⟩,e,hat,hs,hf⟩:=fa;obtain ⟨v,g,a1,a2,a3⟩:=MN hat;have s1:=(dP.1 a1).1;have s2:=(dP.1 a2).1;have s3:=(dP.1 a3).1
   have eb:Beg.j7 t p x.given=⟨p,t,0,0,a.version,a.listen,a.zi,a.end_,0,a.slot,0,0,0,0,0,false,Beg.ky,iu⟩:=by
    unfold Beg.j7;rw [dU k2,hta];unfold Beg.kK;rw [dU ak,dU ak]
   rw [eb];have lN:=st.ty.ey
   obtain ⟨L1,L2,hsp,hln⟩:∃ L1 L2,L=L1++a::L2∧L1.length=p.n.toNat:=⟨L.take p.n.toNat,L.drop (p.n.toNat+1),by
    have u4:=(dP.1 ha).1;have he:=(dP.1 ha).2;rw [<- he,List.getElem_cons_drop,r9],aA⟩
   have n7:ph ⟨p,t,0,0,a.version,a.listen,a.zi,a.end_,0,a.slot,0,0,0,0,0,false,Beg.ky,iu⟩=3:=im rfl k2 rfl
   refine ⟨hp,rfl,⟨by show i64 a.listen;unfold i64;omega,(by decide:u64 0),(by decide:(-1:Int)<=0∧(0:Int)<=2147483646),po.host,po.path,po.d0,po.d1,po.cfg,fun _ _=>rfl⟩,
    ⟨v,g,e,⟨ql.2 st.ji,ht,rfl,⟨p1,by show a.version < _;omega⟩,a1,⟨p2,by show a.zi < _;omega⟩,a2,⟨p3,by show a.end_ < _;omega⟩,a3,⟨gy _,aK⟩,⟨p4,hs⟩,⟨by show -1<=a.listen;omega,l1⟩,gy _,gy _⟩,
     .inr (.inl ⟨k2,⟨.inl ⟨gy _,by show (0:Int)<=4;decide⟩,fun _=>l0,(fun h=>by dsimp only at h;omega),fun h=>absurd (show (0:Int)=2 from h) ar⟩⟩)⟩,
    .inr ⟨k2,by show (0:Int)<=4;decide,L1,a,L2,hsp,rfl,rfl,rfl,rfl,rfl,fun b hb cl=>?_,fun k=>?_⟩⟩
   ·have q1:=ow (.slot a.version a.zi a.end_ a.slot);have q2:=VI w a.version a.zi a.end_ a.slot;have q3:=LZ hb (.slot a.version a.zi a.end_ a.slot);have e1:iV a (.slot a.version a.zi a.end_ a.slot)=1:=by simp [iV,qf]
    have e2:iV b (.slot a.version a.zi a.end_ a.slot)=1:=by simp [iV,qf,cl.1,cl.2.1,cl.2.2.1,cl.2.2.2]
    rw [hon,hsp,B9,Dq] at q1;omega
   rw [hon k,hsp,B9,B9,Dq,jw n7];show _=_+iV a k;omega
  ·have eb:Beg.j7 t p x.given=⟨p,t,9,0,0, -1,0,0,0,0,0,0,0,0,0,false,Beg.ky,iu⟩:=by
    unfold Beg.j7;rw [dU k2,Beg.Rq hL hn]
    rfl
   rw [eb];obtain ⟨ty,v,g,e,su⟩:=idle (pc:=9) rfl (.inr rfl);have p0:ph ⟨p,t,9,0,0, -1,0,0,0,0,0,0,0,0,0,false,Beg.ky,iu⟩=0:=im rfl k2 rfl;exact ⟨hp,rfl,ty,⟨v,g,e,su,.inr (.inl ⟨k2,⟨.inr rfl,fun h=>absurd (show (9:Int)<=4 from h) ar,(fun h=>by dsimp only at h;omega),fun h=>absurd (show (9:Int)=2 from h) ar⟩⟩)⟩,.inl ⟨.inr rfl,fun k=>by rw [hon k,jw p0,kC];rfl⟩⟩
 ·rw [Dp k2];obtain ⟨ty,v,g,e,su⟩:=idle (pc:=0) rfl (.inl rfl)
  have p0:ph ⟨p,t,0,0,0, -1,0,0,0,0,0,0,0,0,0,false,Beg.ky,iu⟩=0:=by
   by_cases k1:p.kind=1
   ·exact eQ rfl k1 rfl
   by_cases k3:p.kind=3
   ·exact n7 rfl k3 rfl
   by_cases k5:p.kind=5
   ·exact ib rfl k5 rfl
   exact Cd rfl k1 k2 k3 k5
  refine ⟨hp,rfl,ty,⟨v,g,e,su,?_⟩,.inl ⟨.inl k2,fun k=>by rw [hon k,jw p0,kC];rfl⟩⟩;rcases (by omega:p.kind=1∨p.kind=3∨p.kind=4∨p.kind=5∨p.kind=6) with k | k | k | k | k
  ·exact .inl ⟨k,⟨.inl ⟨gy _,by show (0:Int)<=12;decide⟩,(fun h=>by dsimp only at h;omega),(fun h=>by dsimp only at h;omega),(fun h=>by dsimp only at h;omega),(fun h=>by dsimp only at h;omega),fun h=>absurd (show (0:Int)=6 from h) ar,(fun h=>by dsimp only at h;omega),fun h=>absurd (show (0:Int)=11 from h) ar,fun h=>absurd (show (20:Int)<=0 from h) ar,fun h=>absurd (show (0:Int)=22 from h) ar⟩⟩
  ·exact .inr (.inr (.inl ⟨k,⟨⟨gy _,by show (0:Int)<=2;decide⟩,fun h=>absurd (show (0:Int)=2 from h) ar⟩⟩))
  ·exact .inr (.inr (.inr (.inl ⟨k,rfl⟩)))
  ·exact .inr (.inr (.inr (.inr (.inl ⟨k,⟨.inl ⟨gy _,by show (0:Int)<=6;decide⟩,fun h=>absurd (show (0:Int)=2 from h) ar,(fun h=>by dsimp only at h;omega),fun h=>absurd (show (0:Int)=5 from h) ar,(fun h=>by dsimp only at h;omega)⟩⟩))))
  ·exact .inr (.inr (.inr (.inr (.inr ⟨k,⟨rfl,by show (0:Int) < 6;decide,by show (0:Int) < (w.counts.length:Nat);have:=gr.counts.1;have:=gr.pins.1;omega⟩⟩))))
def FW {w:Wor} {m:u3} {v:u9} {g:Gr} {e:En} {r:Wor × u3 × u6} (h:yv w m v g e=some r):r.2.1.version=m.version∧r.2.1.zi=m.zi∧r.2.1.end_=m.end_∧r.2.1.slot=m.slot∧r.2.1.listen=m.listen∧(m.pc=9->r.2.1.pc=9∧r.2.1.done=true)∧(m.pc<=4->r.2.1.pc<=4)∧(r.2.1.done=true->m.done=false->r.2.1.pc=m.pc):=by
 have c4:∀ {a b:Int},a=b->(a=9->(1:Int)=2)->b=9->False:=fun h1 h2 h3=>absurd (h2 (h1.trans h3)) ar
 unfold yv iI at h;split at h
 ·rename_i p;cases h
  exact ⟨rfl,rfl,rfl,rfl,rfl,fun h=>by omega,fun _=>by show (1:Int)<=4;decide,fun a b=>absurd (b.symm.trans a) ar⟩
 split at h
 ·rename_i p;cases h
  exact ⟨rfl,rfl,rfl,rfl,rfl,fun h=>by omega,fun _=>by show (2:Int)<=4;decide,fun a b=>absurd (b.symm.trans a) ar⟩
 split at h
 ·rename_i p;split at h
  ·cases h
   exact ⟨rfl,rfl,rfl,rfl,rfl,fun h=>by omega,fun _=>by show (3:Int)<=4;decide,fun a b=>absurd (b.symm.trans a) ar⟩
  ·cases h
   exact ⟨rfl,rfl,rfl,rfl,rfl,fun h=>by omega,fun _=>by show (0:Int)<=4;decide,fun a b=>absurd (b.symm.trans a) ar⟩
 split at h
 ·rename_i p;cases h
  exact ⟨rfl,rfl,rfl,rfl,rfl,fun h=>by omega,fun _=>by show (4:Int)<=4;decide,fun a b=>absurd (b.symm.trans a) ar⟩
 split at h
 ·rename_i p;split at h
  ·cases h
  ·obtain ⟨x,_,rfl⟩:=gK.1 h;exact ⟨rfl,rfl,rfl,rfl,rfl,fun h=>by omega,fun h=>h,fun _ _=>rfl⟩
 split at h
 ·cases h
  exact ⟨rfl,rfl,rfl,rfl,rfl,fun h=>⟨h,rfl⟩,fun h=>h,fun _ _=>rfl⟩
 ·cases h
def Du {x:eE} {m:u3} (h:m.done=true):jE x m=⟨x.ops,x.done+1,false,m,x.given++[m.answer]⟩:=dU h
def DY {x:eE} {m:u3} (h:m.done=false):jE x m=⟨x.ops,x.done,true,m,x.given⟩:=dR aH
def V2 {N K:Nat} {w:Wor} {t:Int} {x:eE} {o:Key->Nat} (st:St N K w) (tg:Tg N w) (ti:TI w t x o) (hon:x.on=true) (hN:N<=100000000) (hK:K<=1099511627776) (ow:∀ k,o k<=Has w k):
  z6 w x.m=true∧fe x.m∧(∀ k,j8 x.m k<=o k)∧∃ r,vz w x.m=some r∧r.2.2.access≠0∧St (N+1) (K+1) r.1∧Tg (N+1) r.1∧jY w r.1 (j8 x.m)∧∃ o',TI r.1 t (jE x r.2.1) o'∧Mv w r.1 o o':=by
 obtain ⟨hle,hgl,L,hL,hk,hon'⟩:=ti
 have on:H4 w t x x.m L o:=by
  rcases hon' with ⟨h,_⟩ | ⟨_,h⟩
  ·rw [hon] at h;cases h
  ·exact h
 clear hon'
 obtain ⟨hat,hth,htm,⟨v,g,e,su,lc⟩,hown⟩:=on
 have om:∀ k,j8 x.m k<=o k:=fun k=>by
  rcases hown with ⟨_,h⟩ | ⟨_,_,_,_,_,_,_,_,_,_,_,_,h⟩
  ·rw [h k];omega
  ·rw [h k];omega
 have oh:∀ k,j8 x.m k<=Has w k:=fun k=>gY (om k) (ow k)
 obtain ⟨r,h1,nc⟩:=Vd st tg su htm lc hN hK oh;refine ⟨JM su,htm,om,r,h1,nc.ev,nc.st,nc.tg,nc.keep,?_⟩;have lt:x.done < x.ops.length:=(dP.1 hat).1;have fs:x.m.op.kind=2->yv w x.m v g e=some r:=fun hk=>by rw [Ul su,dR aw,dU hk] at h1;exact h1
 rcases nc.go with ⟨hd,hf⟩ | ⟨v',g',e',su',lc'⟩
 ·rw [Du hd];have hgl':(x.given++[r.2.1.answer]).length=x.done+1:=by simp [hgl]
  rcases hf with ⟨k1,f1,f2,f3⟩ | ⟨k2,f⟩ | ⟨k3,k4,f⟩
  ·rw [nc.op] at k1
   have hb:∀ k,o k=wJ L k+j8 x.m k:=by
    rcases hown with ⟨_,h⟩ | ⟨h,_⟩
    ·exact h
    ·omega
   by_cases a1:r.2.1.answer.kind=1
   ·obtain ⟨ea,el⟩:=f3 a1;have p3:ph r.2.1=3:=Km hd (by rw [nc.op];exact k1) a1
    have eo:∀ k,j8 r.2.1 k=iV r.2.1.answer k:=fun k=>by
     rw [jw p3];unfold iV;rw [ea]
    refine ⟨fun k=>wJ (L++[r.2.1.answer]) k,⟨aV,hgl',L++[r.2.1.answer],hL.WV a1,fun a ha=>?_,.inl ⟨rfl,fun _=>rfl⟩⟩,fun k=>?_⟩
    ·rcases gJ.1 ha with ha | ha
     ·exact hk a ha
     ·rw [gM.1 ha];exact ⟨a1,by rw [ea];exact el⟩
    ·have:=nc.mv k;dsimp only;rw [hb k,B9,UA,<- eo k];omega
   ·have p0:ph r.2.1=0:=yL hd fun h=>a1 h.2
    refine ⟨fun k=>wJ L k,⟨aV,hgl',L,hL.other a1 aw,hk,.inl ⟨rfl,fun _=>rfl⟩⟩,fun k=>?_⟩;have:=nc.mv k
    try dsimp only
    rw [jw p0,kC] at this;rw [hb k];omega
  ·rw [nc.op] at k2;have fsm:=FW (fs k2);obtain ⟨e1,e2,e3,e4,e5,e6,e7,e8⟩:=fsm;have p0:ph r.2.1=0:=yL hd fun h=>by rw [nc.op] at h;omega
   have pc:=e8 hd su.done;rcases hown with ⟨h9,hb⟩ | ⟨_,h4,L1,a,L2,hsp,q1,q2,q3,q4,q5,hcl,hb⟩
   ·have a7:r.2.1.answer=iK 7:=by
     rcases f with ⟨_,f⟩ | ⟨f,_⟩
     ·omega
     ·exact f
    refine ⟨fun k=>wJ L k,⟨aV,hgl',L,hL.other (by rw [a7];show (7:Int)≠1;decide) (by rw [a7];show (7:Int)≠6;decide),hk,.inl ⟨rfl,fun _=>rfl⟩⟩,fun k=>?_⟩;have:=nc.mv k
    try dsimp only
    rw [jw p0,kC] at this;rw [hb k];omega
   ·have a6:r.2.1.answer=MQ r.2.1:=by
     rcases f with ⟨f,_⟩ | ⟨_,f⟩
     ·exact f
     ·omega
    have hka:=hk a (by rw [hsp];simp)
    have en:Pla.wm r.2.1.answer a=true:=by
     rw [a6];unfold Pla.wm;simp [hka.1,e1,e2,e3,e4,e5,q1,q2,q3,q4,q5]
    have en2:∀ b ∈ L1,wm r.2.1.answer b=false:=fun b hb2=>by
     cases he:Pla.wm r.2.1.answer b with
     | false=>rfl
     | true=>
      rw [a6] at he;unfold Pla.wm at he;simp only [dY,gp,e1,e2,e3,e4,e5] at he;exact absurd ⟨he.2.2.1.symm.trans q1.symm,he.2.2.2.1.symm.trans q2.symm,he.2.2.2.2.1.symm.trans q3.symm,he.2.2.2.2.2.1.symm.trans q4.symm⟩ (hcl b hb2)
    rw [hsp] at hL
    refine ⟨fun k=>wJ (L1++L2) k,⟨aV,hgl',L1++L2,hL.Vv en en2,fun b hb2=>hk b (by
     rw [hsp];rcases gJ.1 hb2 with h | h
     ·exact gJ.2 (.inl h)
     ·exact gJ.2 (.inr (px _ h))),.inl ⟨rfl,fun _=>rfl⟩⟩,fun k=>?_⟩
    have:=nc.mv k
    try dsimp only
    rw [jw p0,kC] at this;rw [hb k];omega
  ·rw [nc.op] at k3 k4;have p0:ph r.2.1=0:=yL hd fun h=>by rw [nc.op] at h;omega
   have hb:∀ k,o k=wJ L k+j8 x.m k:=by
    rcases hown with ⟨_,h⟩ | ⟨h,_⟩
    ·exact h
    ·omega
   refine ⟨fun k=>wJ L k,⟨aV,hgl',L,hL.other (by have:=f.1;omega) (by have:=f.1;omega),hk,.inl ⟨rfl,fun _=>rfl⟩⟩,fun k=>?_⟩;have:=nc.mv k
   try dsimp only
   rw [jw p0,kC] at this;rw [hb k];omega
 ·rw [DY su'.done];rcases hown with ⟨h9,hb⟩ | ⟨k2,h4,L1,a,L2,hsp,q1,q2,q3,q4,q5,hcl,hb⟩
  ·have k2:x.m.op.kind≠2:=fun k2=>by
    rcases h9 with h | h
    ·exact h k2
    ·have:=(FW (fs k2)).2.2.2.2.2.1 h;have h2:=su'.done;rw [this.2] at h2;cases h2
   refine ⟨fun k=>wJ L k+j8 r.2.1 k,⟨hle,hgl,L,hL,hk,.inr ⟨rfl,⟨by rw [hat,nc.op],nc.th.trans hth,nc.tm,⟨v',g',e',su',lc'⟩,.inl ⟨.inl (by rw [nc.op];exact k2),fun _=>rfl⟩⟩⟩⟩,fun k=>?_⟩;have:=nc.mv k
   try dsimp only
   rw [hb k];omega
  ·obtain ⟨e1,e2,e3,e4,e5,e6,e7,e8⟩:=FW (fs k2);refine ⟨fun k=>wJ (L1++L2) k+j8 r.2.1 k,⟨hle,hgl,L,hL,hk,.inr ⟨rfl,⟨by rw [hat,nc.op],nc.th.trans hth,nc.tm,⟨v',g',e',su',lc'⟩,.inr ⟨by rw [nc.op];exact k2,e7 h4,L1,a,L2,hsp,q1.trans e1.symm,q2.trans e2.symm,q3.trans e3.symm,q4.trans e4.symm,q5.trans e5.symm,hcl,fun _=>rfl⟩⟩⟩⟩,fun k=>?_⟩;have:=nc.mv k
   try dsimp only
   rw [hb k];omega
def V5 {w w':Wor} {t:Int} {x:eE} {o p:Key->Nat} (ti:TI w t x o) (gw:jO w) (gw':jO w') (kp:jY w w' p) (ow:∀ k,p k+o k<=Has w k):TI w' t x o:=by
 obtain ⟨hle,hgl,L,hL,hk,hon⟩:=ti;refine ⟨hle,hgl,L,hL,hk,hon.imp id fun ⟨h1,on⟩=>⟨h1,?_⟩⟩;obtain ⟨hat,hth,htm,⟨v,g,e,su,lc⟩,hown⟩:=on
 have om:∀ k,j8 x.m k<=o k:=fun k=>by
  rcases hown with ⟨_,h⟩ | ⟨_,_,_,_,_,_,_,_,_,_,_,_,h⟩
  ·rw [h k];omega
  ·rw [h k];omega
 obtain ⟨v',g',e',su',lc'⟩:=VF su lc gw gw' kp fun k=>by have:=om k;have:=ow k;omega
 exact ⟨hat,hth,htm,⟨v',g',e',su',lc'⟩,hown⟩
def Eb:∀ (l:List Nat) (i:Nat) {a:Nat},l[i]?= some a->a<=l.sum
 | [],i,a,h=>by simp at h
 | x::l,0,a,h=>by
  have:x=a:=aq h
  rw [pG];omega
 | x::l,i+1,a,h=>by
  have:=Eb l i tX;rw [pG];omega
def L6:∀ (l:List Nat) (i j:Nat) {a b:Nat},i≠j->l[i]?= some a->l[j]?= some b->a+b<=l.sum
 | [],i,j,a,b,_,h,_=>by simp at h
 | x::l,0,0,a,b,h,_,_=>absurd rfl h
 | x::l,0,j+1,a,b,_,h1,h2=>by
  have:=Eb l j tU;have:x=a:=aq h1
  rw [pG];omega
 | x::l,i+1,0,a,b,_,h1,h2=>by
  have:=Eb l i tH;have:x=b:=aq h2
  rw [pG];omega
 | x::l,i+1,j+1,a,b,h,h1,h2=>by
  have:=L6 l i j aw tH tU;rw [pG];omega
structure GI (N K:Nat) (w:Wor) (X:List eE):Prop where
 st:St N K w
 tg:Tg N w
 len:w.pins.length=X.length
 ops:∀ x ∈ X,∀ p ∈ x.ops,HK p
 own:∃ os:List (Key->Nat),os.length=X.length∧(∀ (i:Nat) x o,X[i]?= some x->os[i]?= some o->TI w i x o)∧∀ k,Has w k=(os.map (· k)).sum
def VB {N K:Nat} {w:Wor} {X:List eE} {t:Nat} {x:eE} {p:eK} (gi:GI N K w X) (hx:X[t]?= some x) (hp:x.ops[x.done]?= some p) (hN:N<=100000000) (hK:K<=1099511627776):
  z6 w (yr x t p)=true∧fe (yr x t p)∧∃ r,vz w (yr x t p)=some r∧r.2.2.access≠0∧GI (N+1) (K+1) r.1 (X.set t (jE x r.2.1)):=by
 obtain ⟨st,tg,hlen,hops,os,hol,hti,hsum⟩:=gi;have u4:=(dP.1 hx).1;obtain ⟨o,ho⟩:∃ o,os[t]?= some o:=⟨_,dQ aw⟩;have ti:=hti t x o hx ho;have ow:∀ k,o k<=Has w k:=fun k=>by rw [hsum k];exact Eb _ t (by rw [dT,ho];rfl)
 have po:=hops x (dS hx) p (dS hp)
 obtain ⟨x',hx1,hx2,hx3,hx4⟩:∃ x',x'.m=yr x t p∧x'.on=true∧TI w t x' o∧∀ m,jE x' m=jE x m:=by
  cases hon:x.on with
  | true=>exact ⟨x,aW,hon,ti,fun _=>rfl⟩
  | false=>exact ⟨⟨x.ops,x.done,true,Beg.j7 t p x.given,x.given⟩,aW,rfl,Sg st tg aw ti hon hp po hN ow,fun _=>rfl⟩
 obtain ⟨s1,s2,s3,r,s4,s5,s6,s7,s8,o',s9,s10⟩:=V2 st tg hx3 hx2 hN hK ow;rw [hx1] at s1 s2 s4;refine ⟨s1,s2,r,s4,s5,s6,s7,by have:=s8.pins;simp;omega,fun y hy q hq=>?_,os.set t o',by simp [hol],fun i y oi hy hoi=>?_,fun k=>?_⟩
 ·rcases mem_set hy with hy | rfl
  ·exact hops y hy q hq
  ·have:(jE x r.2.1).ops=x.ops:=by unfold jE;split <;> rfl
   rw [this] at hq;exact hops x (dS hx) q hq
 ·rcases xZ hy with ⟨rfl,rfl,_⟩ | ⟨hne,hy⟩
  ·rw [dW aw] at hoi;cases hoi
   rw [<- hx4];exact s9
  ·rw [gZ hne] at hoi;refine V5 (hti i y oi hy hoi) st.ji s6.ji s8 fun k=>?_
   have h2:=L6 (os.map (· k)) t i hne (by rw [dT,ho];rfl) (by rw [dT,hoi];rfl);have:=s3 k;rw [hsum k];dsimp only at h2 ⊢;omega
 ·have q1:=Cy (fun f:Key->Nat=>f k) os t o' ho;have q2:=s10 k;have q3:=hsum k;(try dsimp only at q1)
  (try dsimp only at q3)
  (try dsimp only)
  omega
def S6 {l:List ec} {i:Nat} {s:ec} (h:l[i]?= some s) (hn:zU ((l.take i).map kh) s < 0):zU (l.map kh) s=i:=by
 have u4:=(dP.1 h).1
 have h0:((l.take i).map kh).findIdx? (fun r=>r.name == s)=none:=by
  unfold zU at hn;split at hn
  ·omega
  ·rename_i q;exact q
 have e:(l.map kh).findIdx? (fun r=>r.name == s)=some i:=by
  rw [gD];refine ⟨aq u4,?_,fun j hj=>?_⟩
  ·have:=(dP.1 h).2;simp [kh,this]
  ·have q:=gG.1 h0 (kh (l[j]'aw)) (gL.2 ⟨_,List.mem_take_iff_getElem.2 ⟨j,aw,rfl⟩,rfl⟩);simpa using q
 unfold zU;rw [e]
def C2 {α:Type}:∀ (T:List α),(T.map fun _=>(0:Nat)).sum=0
 | []=>rfl
 | _::T=>by rw [pF,pG,C2 T]
def VM {s:Sna} {l:List ec} {n:Int} {w:Wor} {N:Nat} {T:List (List eK)} (h:ir s l n=(w,0)) (hs:nB s) (hl:l.length<=N) (hN:1<=N) (hn:∀ x ∈ l,x.length<=reachBytes) (hT:(T.length:Int)=n) (hO:∀ L ∈ T,∀ o ∈ L,HK o):
  GI N 0 w (T.map wG):=by
 unfold ir at h;split at h
 ·have:=pS Prod.snd h;exact absurd (show (1:Int)=0 from this) ar
 rename_i q;have hw:=(pS Prod.fst h).symm;have hw:w=⟨0,0,0,List.replicate n.toNat 0,[(qR s).1],l.map kh,List.replicate n.toNat [0,0,0,0,0,0],[]⟩:=hw
 have q1:vn s=true:=by
  cases z:vn s with
  | true=>rfl
  | false=>exact absurd (.inl z) q
 have q2:1<=n:=aw
 have q3:n<=8:=aw
 have q4:∀ i x,l[i]?= some x->xJ x=true∧zU ((l.take i).map kh) x < 0:=fun i x hx=>by
  have z:Ak l=true:=by
   cases z:Ak l with
   | true=>rfl
   | false=>exact absurd (.inr (.inr (.inr z))) q
  have:=dZ.1 z i (pN.2 (dP.1 hx).1);unfold Bg at this;rw [hx] at this;simpa using this
 subst hw;have hc:(qR s).1=⟨s,s.zk.map iz,false⟩:=by unfold qR;rw [dU q1]
 have fr:∀ g ∈ (qR s).1.zm,g.zt=0∧∀ e ∈ g.ends,e.zf=0∧e.ok:=fun g hg=>by
  rw [hc] at hg;obtain ⟨x,hx,rfl⟩:=gL.1 (show g ∈ s.zk.map iz from hg);refine ⟨rfl,fun e he=>?_⟩;rw [gQ (show e ∈ List.replicate x.zL.length (xG x) from he)];have f:=kb ((jB q1).all x hx);exact f.2.2
 have one:∀ v,v ∈ [(qR s).1]->v=(qR s).1:=fun v hv=>gM.1 hv
 have lz:∀ x ∈ l.map kh,∃ y ∈ l,x=kh y:=fun x hx=>by
  obtain ⟨y,hy,e⟩:=gL.1 hx;exact ⟨y,hy,e.symm⟩
 have fv:=J6 q1 0
 have ends:∀ i j k e,ig ⟨0,0,0,List.replicate n.toNat 0,[(qR s).1],l.map kh,List.replicate n.toNat [0,0,0,0,0,0],[]⟩ i j k=some e->e.zf=0∧∀ t,fO e t=0:=fun i j k e he=>by
  unfold ig at he;split at he
  ·obtain ⟨v,g,a1,a2,a3⟩:=MN he;have hv:=one v (dS a1);subst hv;exact (fv g (dS a2) e (dS a3)).2
  ·cases he
 refine ⟨⟨⟨zY.2 ⟨?_,⟨?_,?_⟩,⟨gy _,by show (0:Int)<=1000000000000;decide⟩,.inl rfl,?_⟩,⟨gy _,by show (0:Int) < 1;decide⟩,(by show Go.Lim.eF []=true;rfl),(fun r hr=>nomatch hr),?_,?_⟩,⟨by show 1<=N;omega,aq hl,by show 0<=N;omega,?_,?_⟩,⟨?_,?_⟩⟩,?_,?_,?_,?_⟩
 ·simp only [sb];omega
 ·simp
 ·intro r hr;rw [gQ hr];rfl
 ·intro p hp;rw [gQ hp];exact ⟨gy _,by show (0:Int)<=0+1;decide⟩
 ·intro i v hv;have hi:i=0:=by have:=(dP.1 hv).1;exact cQ
  subst hi;cases hv
  exact ⟨JI q1,by rw [hc];rfl⟩
 ·intro i x hx;obtain ⟨y,hy,rfl⟩:=gK.1 ((dT ..).symm.trans hx);have z:=q4 i y hy;refine ⟨DE z.1 (gy _) rfl,S6 hy z.2⟩
 ·intro v hv;rw [one v hv];exact ⟨by rw [hc];exact hs,fun g hg=>⟨by rw [(fr g hg).1];decide,fun e he=>((fr g hg).2 e he).2⟩⟩
 ·intro x hx;obtain ⟨y,hy,rfl⟩:=lz x hx;exact ⟨hn y hy,by show i64 0;decide⟩
 ·intro x hx;obtain ⟨y,hy,rfl⟩:=lz x hx;show (0:Int)<=_
  decide
 ·intro v hv g hg e he;rw [one v hv] at hg;rw [((fr g hg).2 e he).1]
  decide
 ·intro v hv g hg e he;rw [one v hv] at hg;exact ((fv g hg e he).1:oK 0 e) |> fun z=>⟨by have:=z.1;omega,z.2⟩
 ·simp only [sb,dV];omega
 ·intro x hx p hp;obtain ⟨L,hL,rfl⟩:=gL.1 hx;exact hO L hL p hp
 ·refine ⟨T.map fun _=>fun _=>0,aj,fun i x o hx ho=>?_,fun k=>?_⟩
  ·obtain ⟨L,hL,rfl⟩:=gK.1 ((dT ..).symm.trans hx);obtain ⟨_,_,rfl⟩:=gK.1 ((dT ..).symm.trans ho);exact ⟨gF _,rfl,[],Vb,⟨fun a ha=>(by cases ha),.inl ⟨rfl,fun _=>rfl⟩⟩⟩
  ·have z:((T.map fun _=>fun (_:Key)=>0).map (· k)).sum=0:=by
    rw [pX];exact C2 T
   rw [z];cases k with
   | slot i j k s'=>
    simp only [Has];split
    ·rename_i e he;exact (ends i j k e he).2 s'
    ·rfl
   | act i j k=>
    simp only [Has];split
    ·rename_i e he;rw [(ends i j k e he).1];rfl
    ·rfl
   | ey i=>
    simp only [Has];split
    ·split
     ·rename_i x hx;obtain ⟨y,_,rfl⟩:=lz x (dS hx)
      rfl
     ·rfl
    ·rfl
   | eR i=>
    simp only [Has];rw [dR];rintro ⟨h1,h2,h3,_⟩;have h2:i < 1:=h2;exact h3 (by show i=0;omega)
   | lock=>rfl
abbrev fJ:=Wor × List eE × List u6
def w9 (e:u6) (x:eE):u6:={ e with op:=x.done,jf:=!x.on }
def ET (s:fJ) (t:Nat):fJ:=match s.2.1[t]? with
 | some x=>match x.ops[x.done]? with
  | some o=>match vz s.1 (yr x t o) with
   | some r=>(r.1,s.2.1.set t (jE x r.2.1),s.2.2++[w9 r.2.2 x])
   | none=>s
  | none=>s
 | none=>s
def yR (s:fJ) (p:Int):fJ:=match (qA s.2.1 s.2.1.length)[(p % (qA s.2.1 s.2.1.length).length).toNat]? with
 | some t=>ET s t
 | none=>s
def BS {X:List eE}:∀ {k t:Nat},t ∈ qA X k↔t < k∧∃ x,X[t]?= some x∧x.done < x.ops.length
 | 0,t=>by simp [qA]
 | k+1,t=>by
  unfold qA;cases hx:X[k]? with
  | none=>
   dsimp only;rw [BS];constructor
   ·rintro ⟨h,q⟩;exact ⟨aw,q⟩
   ·rintro ⟨h,x,hx2,q⟩;refine ⟨?_,x,hx2,q⟩;rcases rz t k with h | h
    ·exact h
    ·have:t=k:=by omega
     subst this;rw [hx] at hx2;cases hx2
  | some y=>
   dsimp only;split
   ·rename_i hd;rw [BS];constructor
    ·rintro ⟨h,q⟩;exact ⟨aw,q⟩
    ·rintro ⟨h,x,hx2,q⟩;refine ⟨?_,x,hx2,q⟩;rcases rz t k with h | h
     ·exact h
     ·have:t=k:=by omega
      subst this;rw [hx] at hx2;cases hx2
      omega
   ·rename_i hd;rw [gJ,BS,gM];constructor
    ·rintro (⟨h,q⟩ | rfl)
     ·exact ⟨aw,q⟩
     ·exact ⟨aw,y,hx,aw⟩
    ·rintro ⟨h,x,hx2,q⟩;rcases rz t k with h | h
     ·exact .inl ⟨h,x,hx2,q⟩
     ·exact .inr aw
def yG {N K:Nat} {s:fJ} (gi:GI N K s.1 s.2.1) (p:Int) (hN:N<=100000000) (hK:K<=1099511627776):
  (qA s.2.1 s.2.1.length=[]∧yR s p=s)∨∃ t x o r,(qA s.2.1 s.2.1.length)[(p % (qA s.2.1 s.2.1.length).length).toNat]?= some t∧s.2.1[t]?= some x∧x.ops[x.done]?= some o∧z6 s.1 (yr x t o)=true∧fe (yr x t o)∧vz s.1 (yr x t o)=some r∧r.2.2.access≠0∧
   yR s p=(r.1,s.2.1.set t (jE x r.2.1),s.2.2++[w9 r.2.2 x])∧GI (N+1) (K+1) r.1 (s.2.1.set t (jE x r.2.1)):=by
 by_cases ha:qA s.2.1 s.2.1.length=[]
 ·refine .inl ⟨ha,?_⟩;unfold yR;rw [ha]
  rfl
 ·right
  have hl:0 < (qA s.2.1 s.2.1.length).length:=sH.2 ha;have b0:=r4 p (show ((qA s.2.1 s.2.1.length).length:Int)≠0 by omega);have b1:=r5 p (show (0:Int) < (qA s.2.1 s.2.1.length).length by omega);obtain ⟨t,ht⟩:∃ t,(qA s.2.1 s.2.1.length)[(p % (qA s.2.1 s.2.1.length).length).toNat]?= some t:=⟨_,dQ aw⟩;obtain ⟨_,x,hx,hd⟩:=BS.1 (dS ht);obtain ⟨o,ho⟩:∃ o,x.ops[x.done]?= some o:=⟨_,dQ hd⟩;obtain ⟨h1,h2,r,h3,h4,h5⟩:=VB gi hx ho hN hK;refine ⟨t,x,o,r,ht,hx,ho,h1,h2,h3,h4,?_,h5⟩;unfold yR ET;rw [ht];dsimp only;rw [hx];dsimp only;rw [ho];dsimp only;rw [h3]
def GI.mono {N K N' K':Nat} {w:Wor} {X:List eE} (h:GI N K w X) (hN:N<=N') (hK:K<=K'):GI N' K' w X:=⟨h.st.mono hN hK,h.tg.mono hN,h.len,h.ops,h.own⟩
def UR {N K:Nat} {s:fJ} (gi:GI N K s.1 s.2.1) (p:Int) (hN:N<=100000000) (hK:K<=1099511627776):GI (N+1) (K+1) (yR s p).1 (yR s p).2.1:=by
 rcases yG gi p hN hK with ⟨_,h⟩ | ⟨t,x,o,r,_,_,_,_,_,_,_,h,h2⟩
 ·rw [h];exact gi.mono aw aw
 ·rw [h];exact h2
def fD (s:fJ) (l:List Int) (k:Nat):fJ:=(l.take k).foldl yR s
def we {s:fJ} {l:List Int} {k:Nat} {p:Int} (h:l[k]?= some p):fD s l (k+1)=yR (fD s l k) p:=by
 unfold fD;obtain ⟨h1,h2⟩:=dP.1 h;rw [gR h1,rS,h2]
 rfl
def Bl {N K:Nat} {s:fJ} (gi:GI N K s.1 s.2.1) (l:List Int):∀ k,k<=l.length->N+k<=100000000->K+k<=1099511627776->GI (N+k) (K+k) (fD s l k).1 (fD s l k).2.1
 | 0,_,_,_=>gi
 | k+1,hk,hN,hK=>by
  have ih:=Bl gi l k aw aw aw;rw [we (dQ aw)];exact UR ih _ aw aw
def KM {l:List Int}:∀ {s:fJ},qA s.2.1 s.2.1.length=[]->l.foldl yR s=s:=by
 induction l with
 | nil=>intro s _;rfl
 | cons p l ih=>
  intro s h;have:yR s p=s:=by unfold yR;rw [h];rfl
  rw [tY,this];exact ih h
end Go.Wor
