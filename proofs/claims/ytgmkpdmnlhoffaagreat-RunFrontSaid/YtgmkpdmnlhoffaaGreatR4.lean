import Derived.Test.YtgmkpdmnlhoffaaGreatR3
import Derived.Test.YtgmkpdmnlhoffaaGreatR1
import Derived.Test.YtgmkpdmnlhoffaaGreatR2
set_option linter.all false
set_option maxRecDepth 100000
set_option maxHeartbeats 4000000
namespace Go.Wor
open Go.Ab Go.Proofs Go.Gat Go.Nam Go.Hos Go.Con Go.Sna
open Go.Hy hiding encI
section
variable {N K:Nat} {w:Wor} {m:Mac} {v:Ver} {g:Gr} {e:En}
theorem zhx (hat:AtE w m v g e) (ow:∀ x,jM m x<=Has w x) {p:Nat} (h:ph m=p) (hp:p=2∨p=3):0<=m.slot∧m.slot < e.next.length∧m.slot ∉ (Slp.qt e).1:=by
 have:=zc1 ow h (.slot m.version m.zf m.end_ m.slot) (by simp [qa,hp]);rw [zfQ hat] at this;unfold slE at this;split at this
 ·assumption
 ·omega
theorem zpX (hat:AtE w m v g e) (ow:∀ x,jM m x<=Has w x) {p:Nat} (h:ph m=p) (hp:p=3∨p=4):1<=e.zg:=by
 have:=zc1 ow h (.act m.version m.zf m.end_) (by simp [qa,hp]);rw [zm1 hat] at this;omega
theorem zl5 (st:St N K w) (tg:Tg N w) (su:qC w m v g e) (tm:TyM m) (lo:LcF w m v g e) (hk:m.op.kind=2) (hN:N<=100000000) (hK:K<=1099511627776) (ow:∀ x,jM m x<=Has w x):∃ r,vm w m v g e=some r∧Nc N K w m LcF FiF r:=by
 obtain ⟨f1,f2,f3,f4,f5,f6,f7⟩:=y7 st su;have st1:St (N+1) (K+1) w:=st.mono (by omega) (by omega);have tg1:=tg.mono (Nat.le_succ N);have te:=zhV tg su.at_;have hs:=zlu f1 f2;have pc:=lo.pc;unfold vm;rcases (by omega:m.pc=0∨m.pc=1∨m.pc=2∨m.pc=3∨m.pc=4∨m.pc=9) with p | p | p | p | p | p
 ·have l0:=lo.lis (by omega);rw [if_pos p];exact zL rfl ⟨uW,st1,tg1,⟨tm.listen,f6.1,tm.link,tm.host,tm.path,tm.d0,tm.d1,tm.cfg,tm.ans⟩,rfl,rfl,jJ.refl w _,qg w (zhH (p:=3) (ph2 su.done hk uM) (ph2 su.done hk uM) rfl rfl rfl rfl rfl),.inr ⟨v,g,e,uQ,⟨uL,fun _=>l0,fun _=>⟨Int.le_refl _,hs⟩,uK⟩⟩⟩
 ·have l0:=lo.lis (by omega);have lt:=lo.tag (.inl p);obtain ⟨h0,h1,h2⟩:=zhx su.at_ ow (p:=3) (ph2 su.done hk uM) (.inr rfl);have hw: -1<=zC m.word:=by show -1<=m.word % 4294967296 - 1;omega
  obtain ⟨b1,b2⟩:=Slp.zoc (v:=zC m.word) f1 h0 h2;have hlen:(yQ m e).next.length=e.next.length:=List.length_set
  have hok:(yQ m e).ok:=⟨f6.1,⟨fun x hx=>by
   rcases mem_set hx with hx | rfl
   ·exact f6.2.1.1 x hx
   ·unfold i64;omega,by rw [hlen];exact f6.2.1.2⟩,f6.2.2⟩
  have st2:=st1.zbM su.at_ (e':=qp (yQ m e) e.head e.zg) (tk:=g.zr) b2 hlen hok f7 (by show e.zg<=_;omega);rw [if_neg (by omega),if_pos p]
  exact zL rfl ⟨tI,st2,zbG tg1 su.at_ (e':=qp (yQ m e) e.head e.zg) ⟨by have:=te.1;show zbL e<=_;omega,fun x hx=>by
    rcases mem_set hx with hx | rfl
    ·exact te.2 x hx
    ·exact ⟨hw,lt.2⟩⟩,uO,rfl,rfl,kf su.at_ (e':=qp (yQ m e) e.head e.zg) ⟨hlen,Int.le_refl _,fun _=>rfl,fun s s0 hso=>by
    show (e.next.set m.slot.toNat _)[s.toNat]?= _;rw [List.getElem?_set_ne];intro hc;have hc:s=m.slot:=by omega
    rw [hc,jg (p:=3) (ph2 su.done hk uM)] at hso;simp [qa] at hso⟩,zm8 su.at_ (e':=qp (yQ m e) e.head e.zg) hlen (by rw [show Slp.qt (qp (yQ m e) e.head e.zg)=Slp.qt e from b1]) rfl (zhH (p:=3) (ph2 su.done hk uM) (ph2 su.done hk uM) rfl rfl rfl rfl rfl),
   .inr ⟨_,_,_,kM (e':=qp (yQ m e) e.head e.zg) (m':={ m with pc:=2 }) su hlen st2.jj rfl su.done rfl rfl rfl rfl rfl rfl rfl rfl,⟨uL,fun _=>l0,fun _=>lt,fun _=>by
    show (e.next.set m.slot.toNat _)[m.slot.toNat]?= _;rw [List.getElem?_set_self (by omega)]⟩⟩⟩
 ·have l0:=lo.lis (by omega);obtain ⟨h0,h1,h2⟩:=zhx su.at_ ow (p:=3) (ph2 su.done hk uM) (.inr rfl);rw [if_neg (by omega),if_neg (by omega),if_pos p];by_cases q:e.head=m.word
  ·rw [if_pos q];have hx:=lo.next p;have hh:zC m.word=Slp.zC e:=by rw [<- q];rfl
   rw [hh] at hx;obtain ⟨c1,c2,c3⟩:=zoH f6 f1 h0 h1 h2;rw [yg _ _ hx,q] at c1 c2 c3;have nt:=zjY (i:=m.slot) te.1 f6.1 hN (by omega) (by omega);rw [q] at nt;have st2:=st1.zbM su.at_ (e':=qp e (Slp.qP m.word m.slot) e.zg) (tk:=g.zr) c1 rfl c2 f7 (by show e.zg<=_;omega);have ta:zbL (qp e (Slp.qP m.word m.slot) e.zg)=zbL e+1:=by unfold zbL;rw [q];exact nt
   exact zL rfl ⟨(by show (4:Int)≠0;decide),st2,zbG tg1 su.at_ (e':=qp e (Slp.qP m.word m.slot) e.zg) ⟨by have:=te.1;omega,te.2⟩,uO,rfl,rfl,kf su.at_ (e':=qp e (Slp.qP m.word m.slot) e.zg) ⟨rfl,by omega,fun h=>by omega,fun _ _ _=>rfl⟩,
    za4 (p:=3) (p':=4) (ph2 su.done hk uM) (ph2 su.done hk uM) (zrG su.at_ (e':=qp e (Slp.qP m.word m.slot) e.zg) rfl h0 h1 c3 h2 rfl m.listen),.inr ⟨_,_,_,kM (e':=qp e (Slp.qP m.word m.slot) e.zg) (m':={ m with pc:=3 }) su rfl st2.jj rfl su.done rfl rfl rfl rfl rfl rfl rfl rfl,
    ⟨uL,fun _=>l0,uK,uK⟩⟩⟩
  ·rw [if_neg q];exact zL rfl ⟨(by show (5:Int)≠0;decide),st1,tg1,uO,rfl,rfl,jJ.refl w _,qg w (zhH (p:=3) (ph2 su.done hk uM) (ph2 su.done hk uM) rfl rfl rfl rfl rfl),.inr ⟨v,g,e,uQ,⟨uL,fun _=>l0,uK,uK⟩⟩⟩
 ·have l0:=lo.lis (by omega);have a1:=zpX su.at_ ow (p:=4) (ph2 su.done hk uM) (.inr rfl);have hw:IntKind.i64.wrap (e.zg - 1)=e.zg - 1:=q0 (by omega) (by omega);have st2:=st1.zbM su.at_ (e':=qp e e.head (e.zg - 1)) (tk:=g.zr) (zm3 f1 _ (by omega)) rfl ⟨f6.1,f6.2.1,by show i64 (e.zg - 1);unfold i64;omega⟩ f7 (by show e.zg - 1<=_;omega);rw [if_neg (by omega),if_neg (by omega),if_neg (by omega),if_pos p,hw]
  exact zL rfl ⟨tM,st2,zbG tg1 su.at_ (e':=qp e e.head (e.zg - 1)) (show TgE (N+1) e from zhV tg1 su.at_),uO,rfl,rfl,kf su.at_ (e':=qp e e.head (e.zg - 1)) ⟨rfl,Int.le_refl _,fun _=>rfl,fun _ _ _=>rfl⟩,
   za4 (p:=4) (p':=1) (ph2 su.done hk uM) (ph2 su.done hk uM) (zrD su.at_ (e':=qp e e.head (e.zg - 1)) rfl rfl a1 rfl m.slot m.listen),.inr ⟨_,_,_,kM (e':=qp e e.head (e.zg - 1)) (m':={ m with pc:=4 }) su rfl st2.jj rfl su.done rfl rfl rfl rfl rfl rfl rfl rfl,
   ⟨uL,fun _=>l0,uK,uK⟩⟩⟩
 ·have l0:=lo.lis (by omega);have p1:ph m=1:=(ph2 su.done hk uM);obtain ⟨_,x,hx,x1⟩:=zjG ow p1 (by decide);have ca:=st.cal.lis x (List.mem_of_getElem? hx);have hw:IntKind.i64.wrap (x.zg - 1)=x.zg - 1:=q0 (by omega) (by omega);have st2:=ziK st su hx (x.zg - 1) (by omega) (by omega) hK;unfold zfX;rw [if_neg (by omega),if_neg (by omega),if_neg (by omega),if_neg (by omega),if_pos p,if_neg (by omega),hx,Option.map_some];unfold zev;rw [hw];exact zL rfl ⟨tM,st2,tg1,uP,rfl,rfl,zaZ hx rfl id,za4 (p:=1) (p':=0) p1 (yk rfl (fun h=>absurd (hk.symm.trans h.1) (by decide))) (zjU l0 hx x1 rfl _ _ _ _ _ _ _ _ _),.inl ⟨rfl,.inl ⟨rfl,p⟩⟩⟩
 ·rw [if_neg (by omega),if_neg (by omega),if_neg (by omega),if_neg (by omega),if_neg (by omega),if_pos p];exact zL rfl ⟨uW,st1,tg1,uP,rfl,rfl,jJ.refl w _,qg w (vC (ph2 su.done hk uM) (yk rfl (fun h=>absurd (hk.symm.trans h.1) (by decide)))),.inl ⟨rfl,.inr ⟨rfl,p⟩⟩⟩
theorem zpY (ow:∀ x,jM m x<=Has w x) (h:ph m=5):m.version≠w.current∧∀ r ∈ w.zt,r.version≠m.version:=by
 have:=zc1 ow h (.ver m.version) (by simp [qa]);simp only [Has] at this;split at this
 ·rename_i q;exact ⟨q.2.2.1,q.2.2.2⟩
 ·omega
theorem zjp (w:Wor) (n:Int) {x:Ver} (hx:∀ g ∈ x.zm,∀ e ∈ g.ends,e.zg=0∧∀ s,slE e s=0) (i j k:Int):
  wg { w with current := n, ze := w.ze ++ [x] } i j k = wg w i j k ∨ (wg w i j k = none ∧ ∃ e, wg { w with current := n, ze := w.ze ++ [x] } i j k = some e ∧ e.zg = 0 ∧ ∀ s, slE e s = 0) := by
 unfold wg kz;dsimp only;by_cases q:0<=i∧0<=j∧0<=k
 ·rw [if_pos q,if_pos q];by_cases h:i.toNat < w.ze.length
  ·rw [List.getElem?_append_left h];exact .inl rfl
  ·rw [List.getElem?_append_right (by omega),List.getElem?_eq_none (show w.ze.length<=i.toNat by omega),Option.bind_none];cases hv:[x][i.toNat - w.ze.length]? with
   | none=>exact .inl rfl
   | some y=>
    have:y=x:=List.mem_singleton.1 (List.mem_of_getElem? hv);subst this;rw [Option.bind_some];cases hg:y.zm[j.toNat]? with
    | none=>exact .inl rfl
    | some g=>
     rw [Option.bind_some];cases he:g.ends[k.toNat]? with
     | none=>exact .inl rfl
     | some e=>exact .inr ⟨rfl,e,rfl,hx g (List.mem_of_getElem? hg) e (List.mem_of_getElem? he)⟩
 ·rw [if_neg q,if_neg q];exact .inl rfl
theorem zlY (gw:jH w) {x:Ver} (hx:∀ g ∈ x.zm,∀ e ∈ g.ends,e.zg=0∧∀ s,slE e s=0) (a b c d l a' b' c' l':Int):Mv w { w with current:=w.ze.length,ze:=w.ze++[x] } (qa 0 d a b c l) (qa 5 w.current a' b' c' l'):=fun y=>by
 have cu:=gw.current;rw [vL];cases y with
 | slot i j k s=>
  have:qa 5 w.current a' b' c' l' (.slot i j k s)=0:=by simp [qa]
  rw [this];rcases zjp w w.ze.length hx i j k with q | ⟨q,e,q1,q2,q3⟩
  ·simp only [Has,q]
  ·simp only [Has,q,q1,q3]
 | act i j k=>
  have:qa 5 w.current a' b' c' l' (.act i j k)=0:=by simp [qa]
  rw [this];rcases zjp w w.ze.length hx i j k with q | ⟨q,e,q1,q2,q3⟩
  ·simp only [Has,q]
  ·simp only [Has,q,q1,q2];rfl
 | lis i=>simp [Has,qa]
 | lock=>simp [Has,qa]
 | ver i=>
  have la:∀ r ∈ w.zt,r.version≠w.current∧r.version < w.ze.length:=fun r hr=>by
   obtain ⟨i,hi⟩:=List.mem_iff_getElem?.1 hr;have:=wH gw hi;exact ⟨this.2.2.2.2,this.2.2.2.1⟩
  simp only [Has,qa,true_and,List.length_append,List.length_singleton];by_cases q:w.current=i
  ·rw [if_pos (show 0<=i∧_∧_∧_ from ⟨by omega,by omega,by omega,fun r hr=>by have:=la r hr;omega⟩),if_neg (by omega),if_pos q]
  ·rw [if_neg q];by_cases q2:0<=i∧i < w.ze.length∧i≠w.current∧∀ r ∈ w.zt,r.version≠i
   ·rw [if_pos q2,if_pos ⟨q2.1,by omega,by omega,q2.2.2.2⟩]
   ·rw [if_neg q2,if_neg (fun z=>q2 ⟨z.1,by omega,by omega,z.2.2.2⟩)]
theorem zoi {x:Ret} (h0:0<=x.version∧x.version < w.ze.length) (h1:x.version≠w.current) (h2:∀ r ∈ w.zt,r.version≠x.version) (a b c a' b' c' d' l l':Int):Mv w { w with zt:=w.zt++[x] } (qa 5 x.version a b c l) (qa 0 d' a' b' c' l'):=fun y=>by
 rw [vL];cases y with
 | slot i j k s=>simp [Has,qa];rfl
 | act i j k=>simp [Has,qa];rfl
 | lis i=>simp [Has,qa]
 | lock=>simp [Has,qa]
 | ver i=>
  simp only [Has,qa,true_and];by_cases q:x.version=i
  ·rw [if_neg (fun z=>z.2.2.2 x (by simp) q),if_pos q,if_pos (q ▸ ⟨h0.1,h0.2,h1,h2⟩)]
  ·rw [if_neg q];by_cases q2:0<=i∧i < w.ze.length∧i≠w.current∧∀ r ∈ w.zt,r.version≠i
   ·rw [if_pos q2,if_pos ⟨q2.1,q2.2.1,q2.2.2.1,fun r hr=>by
     rcases List.mem_append.1 hr with hr | hr
     ·exact q2.2.2.2 r hr
     ·rw [List.mem_singleton.1 hr];exact q⟩]
   ·rw [if_neg q2,if_neg (fun z=>q2 ⟨z.1,z.2.1,z.2.2.1,fun r hr=>z.2.2.2 r (List.mem_append.2 (.inl hr))⟩)]
theorem zqQ {x:Clu} (h:zmI x) (n:Nat):TgE n (xj x)∧∀ s,slE (xj x) s=0:=by
 have hs:=h.xv;unfold xj;have:x.xv=1∨x.xv=2∨x.xv=3∨x.xv=4:=by omega
 rcases this with e | e | e | e <;> rw [e]
 ·refine ⟨⟨by show (0:Int)<=n;omega,by decide⟩,fun s=>?_⟩;unfold slE;rw [if_neg];rintro ⟨h1,h2,h3⟩;have h2:s < 1:=h2;have:s=0:=by omega
  subst this;exact absurd h3 (by decide)
 ·refine ⟨⟨by show (0:Int)<=n;omega,by decide⟩,fun s=>?_⟩;unfold slE;rw [if_neg];rintro ⟨h1,h2,h3⟩;have h2:s < 2:=h2;have:s=0∨s=1:=by omega
  rcases this with rfl | rfl
  ·exact absurd h3 (by decide)
  ·exact absurd h3 (by decide)
 ·refine ⟨⟨by show (0:Int)<=n;omega,by decide⟩,fun s=>?_⟩;unfold slE;rw [if_neg];rintro ⟨h1,h2,h3⟩;have h2:s < 3:=h2;have:s=0∨s=1∨s=2:=by omega
  rcases this with rfl | rfl | rfl
  ·exact absurd h3 (by decide)
  ·exact absurd h3 (by decide)
  ·exact absurd h3 (by decide)
 ·refine ⟨⟨by show (0:Int)<=n;omega,by decide⟩,fun s=>?_⟩;unfold slE;rw [if_neg];rintro ⟨h1,h2,h3⟩;have h2:s < 4:=h2;have:s=0∨s=1∨s=2∨s=3:=by omega
  rcases this with rfl | rfl | rfl | rfl
  ·exact absurd h3 (by decide)
  ·exact absurd h3 (by decide)
  ·exact absurd h3 (by decide)
  ·exact absurd h3 (by decide)
theorem zhq {s:Sna} (h:yT s=true) (n:Nat):∀ g ∈ (qI s).1.zm,∀ e ∈ g.ends,TgE n e∧e.zg=0∧∀ t,slE e t=0:=fun g hg e he=>by
 unfold qI at hg;rw [if_pos h] at hg;obtain ⟨x,hx,rfl⟩:=List.mem_map.1 (show g ∈ s.zl.map zaD from hg);rw [List.eq_of_mem_replicate (show e ∈ List.replicate x.zR.length (xj x) from he)];have gc:=(jk h).all x hx;have f:=vw gc;have q:=zqQ gc n;exact ⟨q.1,f.2.2.1,q.2⟩
theorem zqo (st:St N K w) (tg:Tg N w) (su:qC w m v g e) (tm:TyM m) (lo:LcS w m v g e) (hk:m.op.kind=3) (ow:∀ x,jM m x<=Has w x):∃ r,vP w m=some r∧Nc N K w m LcS FiO r:=by
 have gw:=st.jj;have st1:St (N+1) (K+1) w:=st.mono (by omega) (by omega);have tg1:=tg.mono (Nat.le_succ N);have pc:=lo.pc;have cu:=gw.current;unfold vP;rcases (by omega:m.pc=0∨m.pc=1∨m.pc=2) with p | p | p
 ·rw [if_pos p];by_cases q:wQ m.op.config=0
  ·rw [if_pos q];have hc:(qY m.op.config).1=0:=by rw [<- wa];exact q
   have st2:=st.znd hc (tm.cfg hk);have fr:=zhq (zb7 hc);obtain ⟨v',hv'⟩:∃ v',w.ze[w.current.toNat]?= some v':=⟨_,List.getElem?_eq_getElem (by omega)⟩;have gv:=(gw.ver _ v' hv').1;have h0:0 < v'.zm.length:=by have:=(jk gv.snap).zl.1;have:=gv.len;omega
   obtain ⟨g',e',hg,he,l1,l2⟩:=vu gv h0
   exact zL rfl ⟨(by show (6:Int)≠0;decide),st2,fun v2 hv g2 hg e2 he=>by
     rcases List.mem_append.1 hv with hv | hv
     ·exact tg1 v2 hv g2 hg e2 he
     ·rw [List.mem_singleton.1 hv] at hg;exact (fr (N+1) g2 hg e2 he).1,uO,rfl,rfl,zoa,za4 (p:=0) (p':=5) (ph3 su.done hk uM) (ph3 su.done hk uM) (zlY gw (fun g hg e he=>(fr 0 g hg e he).2) _ _ _ _ _ _ _ _ _),.inr ⟨v',g',e',⟨qe.2 st2.jj,su.zj,su.done,⟨cu.1,by show w.current < ((w.ze++[yJ m.op.config]).length:Nat);simp only [List.length_append,List.length_singleton];omega⟩,
    by show (w.ze++[yJ m.op.config])[w.current.toNat]?= some v';rw [List.getElem?_append_left (by omega)];exact hv',⟨Int.le_refl _,by show (0:Int) < _;omega⟩,hg,⟨Int.le_refl _,by show (0:Int) < _;omega⟩,he,⟨Int.le_refl _,by show (0:Int) < _;omega⟩,⟨Int.le_refl _,by show (0:Int) < _;omega⟩,su.listen,by show (0:Int)<=(w.ze.length:Nat);omega,su.k⟩,
    ⟨uL,uK⟩⟩⟩
  ·rw [if_neg q];exact zL rfl ⟨uW,st1,tg1,uP,rfl,rfl,jJ.refl w _,qg w (vC (ph3 su.done hk uM) (yk rfl (fun h=>absurd (hk.symm.trans h.1) (by decide)))),.inl ⟨rfl,by show (7:Int)<=9∧(9:Int)<=13;decide⟩⟩
 ·have ep:=(qb.1 gw.ground).zn;rw [if_neg (by omega),if_pos p];exact zL rfl ⟨uW,st1,tg1,uO,rfl,rfl,jJ.refl w _,qg w (ztW (ph3 su.done hk uM) (ph3 su.done hk uM) rfl),.inr ⟨v,g,e,uQ,⟨uL,fun _=>⟨ep.1,Int.le_refl _⟩⟩⟩⟩
 ·have p5:ph m=5:=(ph3 su.done hk uM);have vf:=zpY ow p5;have ep:=lo.ep p;have sv:=su.version
  have nl:kF w m=false:=by
   unfold kF;simp only [Bool.or_eq_false_iff,List.any_eq_false,beq_iff_eq,beq_eq_false_iff_ne,decide_eq_false_iff_not];exact ⟨⟨⟨fun r hr=>vf.2 r hr,vf.1⟩,by omega⟩,by omega⟩
  have st2:=st.zqz (x:=⟨m.version,m.zn,false⟩) sv.1 sv.2 vf.1 ep.1 ep.2 rfl vf.2;rw [if_neg (by omega),if_neg (by omega),if_pos p,nl];exact zL rfl ⟨tI,st2,tg1,uP,rfl,rfl,zp2,za4 (p:=5) (p':=0) p5 (yk rfl (fun h=>absurd (hk.symm.trans h.1) (by decide))) (zoi (x:=⟨m.version,m.zn,false⟩) sv vf.1 vf.2 _ _ _ _ _ _ _ _ _),.inl ⟨rfl,by show (7:Int)<=8∧(8:Int)<=13;decide⟩⟩
theorem zoB (st:St N K w) (tg:Tg N w) (su:qC w m v g e) (tm:TyM m) (lo:m.pc=0) (hk:m.op.kind=4) (hN:N<=100000000):∃ r,zb9 w m=some r∧Nc N K w m (fun _ m _ _ _=>m.pc=0) FiO r:=by
 have gw:=st.jj;have st1:St (N+1) (K+1) w:=st.mono (by omega) (by omega);have tg1:=tg.mono (Nat.le_succ N);have pr:=za6 w.zd m.op.listen;have hl:=st.ty.lis;have p0:ph m=0:=zde su.done (by omega) (by omega) (by omega) (by omega);unfold zb9;rw [if_pos lo];by_cases q:z7 w.zd m.op.listen < 0
 ·rw [if_pos q];exact zL rfl ⟨uW,st1,tg1,uP,rfl,rfl,jJ.refl w _,qg w (vC p0 (yk rfl (fun h=>absurd (hk.symm.trans h.1) (by decide)))),.inl ⟨rfl,by show (7:Int)<=7∧(7:Int)<=13;decide⟩⟩
 ·rw [if_neg q];obtain ⟨x,hx⟩:∃ x,w.zd[(z7 w.zd m.op.listen).toNat]?= some x:=⟨_,List.getElem?_eq_getElem (by omega)⟩;have li:=zfd (gw.lis _ x hx).1;have lk:=st.ty.okl x (List.mem_of_getElem? hx);have ca:=st.cal.lis x (List.mem_of_getElem? hx);rw [hx,Option.map_some];have st2:=st1.zc6 hx (y:=Go.Gat.we x) rfl (zc5 li.1 li.2.1 rfl) lk.2 (by show x.zg<=_;omega);exact zL rfl ⟨tI,st2,tg1,⟨by show i64 (z7 w.zd m.op.listen);unfold i64;omega,tm.word,tm.link,tm.host,tm.path,tm.d0,tm.d1,tm.cfg,(fun h=>absurd ((show m.op.kind=6 from h).symm.trans hk) (by decide))⟩,rfl,rfl,zaZ hx rfl (fun _=>rfl),zf7 (y:=Go.Gat.we x) (by omega) hx rfl (vC p0 (yk rfl (fun h=>absurd (hk.symm.trans h.1) (by decide)))),.inl ⟨rfl,by show (7:Int)<=10∧(10:Int)<=13;decide⟩⟩
theorem zoC (st:St N K w) (tg:Tg N w) (su:qC w m v g e) (tm:TyM m) (lo:LcT w m v g e) (hk:m.op.kind=6):∃ r,zct w m=some r∧Nc N K w m LcT FiO r:=by
 have st1:St (N+1) (K+1) w:=st.mono (by omega) (by omega);have tg1:=tg.mono (Nat.le_succ N);have i0:=su.i;have k0:=su.k;have ik:=lo.i;have kk:=lo.k;have hlt:m.i.toNat < w.counts.length:=by omega
 have hl:=(qb.1 st.jj.ground).counts.2 _ (List.getElem_mem hlt);have p0:ph m=0:=zde su.done (by omega) (by omega) (by omega) (by omega);unfold zct;rw [if_pos ⟨lo.pc,lo.k⟩,List.getElem?_eq_getElem hlt,Option.bind_some,List.getElem?_eq_getElem (show m.k.toNat < (w.counts[m.i.toNat]).length by omega),Option.map_some];generalize (w.counts[m.i.toNat])[m.k.toNat]'(by omega)=n;by_cases h6:m.k+1=6
 ·by_cases h7:m.i+1=w.counts.length
  ·have e3:=zi1 (n:=n) h6 h7
   exact zL rfl ⟨uW,st1,tg1,by
     show TyM (jQ w m n);rw [e3];exact ⟨tm.listen,tm.word,tm.link,tm.host,tm.path,tm.d0,tm.d1,tm.cfg,fun _ h=>(by cases h)⟩,by show (jQ w m n).op=m.op;rw [e3],by show (jQ w m n).zj=m.zj;rw [e3],jJ.refl w _,qg w (vC p0 (by show ph (jQ w m n)=0;rw [e3];exact yk rfl (fun h=>absurd (hk.symm.trans h.1) (by decide)))),.inl (by
     show (jQ w m n).done=true∧FiO (jQ w m n);rw [e3];exact ⟨rfl,by show (7:Int)<=13∧(13:Int)<=13;decide⟩)⟩
  ·have e2:=zi0 (n:=n) h6 h7
   exact zL rfl ⟨uW,st1,tg1,by
     show TyM (jQ w m n);rw [e2];exact uO,by show (jQ w m n).op=m.op;rw [e2],by show (jQ w m n).zj=m.zj;rw [e2],jJ.refl w _,qg w (vC p0 (by show ph (jQ w m n)=0;rw [e2];exact zde su.done (by show m.op.kind≠1;omega) (by show m.op.kind≠2;omega) (by show m.op.kind≠3;omega) (by show m.op.kind≠5;omega))),.inr ⟨v,g,e,by
     show qC w (jQ w m n) v g e;rw [e2];exact ⟨su.world,su.zj,su.done,su.version,su.atv,su.zf,su.atg,su.end_,su.ate,su.other,su.slot,su.listen,by show 0<=m.i+1;omega,Int.le_refl _⟩,by
     show LcT w (jQ w m n) v g e;rw [e2];exact ⟨lo.pc,by show (0:Int) < 6;decide,by show m.i+1 < _;omega⟩⟩⟩
 ·have e1:=ziZ (w:=w) (n:=n) h6 (by omega)
  exact zL rfl ⟨uW,st1,tg1,by
    show TyM (jQ w m n);rw [e1];exact uO,by show (jQ w m n).op=m.op;rw [e1],by show (jQ w m n).zj=m.zj;rw [e1],jJ.refl w _,qg w (vC p0 (by show ph (jQ w m n)=0;rw [e1];exact zde su.done (by show m.op.kind≠1;omega) (by show m.op.kind≠2;omega) (by show m.op.kind≠3;omega) (by show m.op.kind≠5;omega))),.inr ⟨v,g,e,by
    show qC w (jQ w m n) v g e;rw [e1];exact ⟨su.world,su.zj,su.done,su.version,su.atv,su.zf,su.atg,su.end_,su.ate,su.other,su.slot,su.listen,su.i,by show 0<=m.k+1;omega⟩,by
    show LcT w (jQ w m n) v g e;rw [e1];exact ⟨lo.pc,by show m.k+1 < 6;omega,lo.i⟩⟩⟩
end
theorem zrE {w:Wor} (h:w.lock=0) (a b c d l a' b' c' d' l':Int):Mv w { w with lock:=1 } (qa 0 a b c d l) (qa 6 a' b' c' d' l'):=fun y=>by
 rw [vL];cases y with
 | slot i j k s=>simp [Has,qa];rfl
 | act i j k=>simp [Has,qa];rfl
 | lis i=>simp [Has,qa]
 | ver i=>simp [Has,qa]
 | lock=>simp [Has,qa,h]
theorem zoj {w:Wor} (h:w.lock=1) (a b c d l a' b' c' d' l':Int):Mv w { w with lock:=0 } (qa 6 a' b' c' d' l') (qa 0 a b c d l):=fun y=>by
 rw [vL];cases y with
 | slot i j k s=>simp [Has,qa];rfl
 | act i j k=>simp [Has,qa];rfl
 | lis i=>simp [Has,qa]
 | ver i=>simp [Has,qa]
 | lock=>simp [Has,qa,h]
theorem zqa {w:Wor} {i k:Nat} {v:Ver} {x:Ret} {a b:Key->Nat} (hv:w.ze[k]?= some v) (hx:w.zt[i]?= some x) (h:a=b):Mv w { w with ze:=w.ze.set k (zaa v),zt:=w.zt.set i (kD x) } a b:=fun y=>by
 rw [h]
 have en:∀ p q r,wg { w with ze:=w.ze.set k (zaa v),zt:=w.zt.set i (kD x) } p q r=wg w p q r:=fun p q r=>by
  unfold wg kz;dsimp only;by_cases z:k=p.toNat
  ·subst z;rw [List.getElem?_set_self (List.getElem?_eq_some_iff.1 hv).1,hv,Option.bind_some,Option.bind_some]
  ·rw [List.getElem?_set_ne z]
 cases y with
 | slot p q r s=>simp only [Has,en]
 | act p q r=>simp only [Has,en]
 | lis p=>rfl
 | lock=>rfl
 | ver p=>
  have ml:(∀ r ∈ w.zt.set i (kD x),r.version≠p)↔∀ r ∈ w.zt,r.version≠p:=by
   constructor
   ·intro z r hr;obtain ⟨j,hj⟩:=List.mem_iff_getElem?.1 hr;by_cases e:i=j
    ·subst e;rw [hx] at hj;cases hj
     exact z (kD x) (List.mem_iff_getElem?.2 ⟨i,List.getElem?_set_self (List.getElem?_eq_some_iff.1 hx).1⟩)
    ·exact z r (List.mem_iff_getElem?.2 ⟨j,by rw [List.getElem?_set_ne e];exact hj⟩)
   ·intro z r hr;rcases mem_set hr with hr | rfl
    ·exact z r hr
    ·exact z x (List.mem_of_getElem? hx)
  simp only [Has,List.length_set,ml]
section
variable {N K:Nat} {w:Wor} {m:Mac} {v:Ver} {g:Gr} {e:En}
theorem zqP {i k:Nat} {x:Ret} (tg:Tg N w) (hv:w.ze[k]?= some v):Tg N { w with ze:=w.ze.set k (zaa v),zt:=w.zt.set i (kD x) }:=fun v2 hv2 g hg e he=>by
 rcases mem_set hv2 with hv2 | rfl
 ·exact tg v2 hv2 g hg e he
 ·exact tg v (List.mem_of_getElem? hv) g hg e he
theorem zn2 (ow:∀ x,jM m x<=Has w x) (gw:jH w) (h:ph m=6):w.lock=1:=by
 have:=zc1 ow h .lock (by simp [qa]);have l:=(qb.1 gw.ground).lock;simp only [Has] at this;omega
theorem zqn {m1:Mac} (st:St N K w) (tg:Tg N w) (su:qC w m1 v g e) (tm:TyM m1) (hk:m1.op.kind=5) (hN:N<=100000000) (hpc:m1.pc=8) (ho:m1.op=m.op) (ht:m1.zj=m.zj) (p6:ph m=6) (lk:w.lock=1):Nc N K w m LcC FiO (ldS w m1):=by
 have st1:St (N+1) (K+1) w:=st.mono (by omega) (by omega);have tg1:=tg.mono (Nat.le_succ N);have i0:=su.i;have hl:=st.ty.lis;unfold ldS;cases hx:w.zd[m1.i.toNat]? with
 | none=>
  have st2:=st1.lck (n:=0) (.inl rfl);exact ⟨tI,st2,tg1,⟨tm.listen,tm.word,tm.link,tm.host,tm.path,tm.d0,tm.d1,tm.cfg,fun h=>absurd ((show m1.op.kind=6 from h).symm.trans hk) (by decide)⟩,ho,ht,xE (Int.le_refl _) rfl rfl rfl rfl rfl,za4 (p:=6) (p':=0) p6 (yk rfl (fun h=>absurd (hk.symm.trans h.1) (by decide))) (zoj lk _ _ _ _ _ _ _ _ _ _),.inl ⟨rfl,by show (7:Int)<=11∧(11:Int)<=13;decide⟩⟩
 | some l=>
  have hlt:=(List.getElem?_eq_some_iff.1 hx).1;have hw:IntKind.i64.wrap (m1.i+1)=m1.i+1:=q0 (by omega) (by omega);dsimp only;by_cases q:l.drain=true∧l.closed=false
  ·unfold ldM;rw [if_pos q];exact ⟨uW,st1,tg1,uO,ho,ht,jJ.refl w _,qg w (vD p6 (ph5 su.done hk uM)),.inr ⟨v,g,e,uQ,⟨uL,uK,uK,uK,fun _=>⟨l,hx,q.1⟩⟩⟩⟩
  ·unfold ldM;rw [if_neg q,hw];exact ⟨uW,st1,tg1,uO,ho,ht,jJ.refl w _,qg w (vD p6 (ph5 su.done hk uM)),.inr ⟨v,g,e,⟨su.world,su.zj,su.done,su.version,su.atv,su.zf,su.atg,su.end_,su.ate,su.other,su.slot,su.listen,(by show 0<=m1.i+1;omega),su.k⟩,⟨by show _∨(8<=m1.pc∧m1.pc<=10);omega,uK,uK,uK,uK⟩⟩⟩
theorem zj1 (st:St N K w) (tg:Tg N w) (su:qC w m v g e) (tm:TyM m) (lo:LcC w m v g e) (hk:m.op.kind=5) (hN:N<=100000000) (ow:∀ x,jM m x<=Has w x):∃ r,ks w m=some r∧Nc N K w m LcC FiO r:=by
 have gw:=st.jj;have st1:St (N+1) (K+1) w:=st.mono (by omega) (by omega);have tg1:=tg.mono (Nat.le_succ N);have i0:=su.i;have k0:=su.k;have gr:=qb.1 gw.ground;have lT:=st.ty.lis;have lL:=st.ty.lim;have pc:=lo.pc;have pcs:m.pc=0∨m.pc=1∨m.pc=2∨m.pc=3∨m.pc=4∨m.pc=5∨m.pc=6∨m.pc=8∨m.pc=9∨m.pc=10:=by omega
 unfold ks;by_cases p:m.pc=0
 ·rw [if_pos p];by_cases q:w.lock=0
  ·rw [if_pos q];have st2:=st1.lck (n:=1) (.inr rfl);exact zL rfl ⟨(by show (4:Int)≠0;decide),st2,tg1,uO,rfl,rfl,xE (Int.le_refl _) rfl rfl rfl rfl rfl,za4 (p:=0) (p':=6) (ph5 su.done hk uM) (ph5 su.done hk uM) (zrE q _ _ _ _ _ _ _ _ _ _),.inr ⟨v,g,e,⟨qe.2 st2.jj,su.zj,su.done,su.version,su.atv,su.zf,su.atg,su.end_,su.ate,su.other,su.slot,su.listen,su.i,su.k⟩,⟨uL,uK,uK,uK,uK⟩⟩⟩
  ·rw [if_neg q];exact zL rfl ⟨(by show (5:Int)≠0;decide),st1,tg1,uP,rfl,rfl,jJ.refl w _,qg w (vC (ph5 su.done hk uM) (yk rfl (fun h=>absurd (hk.symm.trans h.1) (by decide)))),.inl ⟨rfl,by show (7:Int)<=12∧(12:Int)<=13;decide⟩⟩
 replace pcs:=pcs.resolve_left p
 have p6:ph m=6:=(ph5 su.done hk uM);have lk:=zn2 ow gw p6;have kl:jM m .lock=1:=by rw [jg p6];simp [qa]
 rw [if_neg p];clear p
 by_cases p:m.pc=1
 ·rw [if_pos p];exact zL rfl ⟨uW,st1,tg1,uO,rfl,rfl,jJ.refl w _,qg w (vD p6 (ph5 su.done hk uM)),.inr ⟨v,g,e,uS,⟨uL,fun _=>by show (0:Int) < (w.pins.length:Nat);have:=gr.pins.1;omega,uK,uK,uK⟩⟩⟩
 replace pcs:=pcs.resolve_left p
 rw [if_neg p];clear p
 by_cases p:m.pc=2
 ·rw [if_pos p];have hi:=lo.pin p;obtain ⟨x,hx⟩:∃ x,w.pins[m.i.toNat]?= some x:=⟨_,List.getElem?_eq_getElem (by omega)⟩;have hw:IntKind.i64.wrap (m.i+1)=m.i+1:=q0 (by omega) (by have:=gr.pins.2;omega);rw [hx,Option.map_some];unfold lpM;rw [hw];by_cases q:x≠0∧x≠IntKind.i64.wrap (m.zn+1)
  ·rw [if_pos q];exact zL rfl ⟨uW,st1,tg1,uO,rfl,rfl,jJ.refl w _,qg w (vD p6 (ph5 su.done hk uM)),.inr ⟨v,g,e,uS,⟨uL,uK,uK,uK,uK⟩⟩⟩
  rw [if_neg q];by_cases q2:m.i+1 < w.pins.length
  ·rw [if_pos q2];exact zL rfl ⟨uW,st1,tg1,uO,rfl,rfl,jJ.refl w _,qg w (vD p6 (ph5 su.done hk uM)),.inr ⟨v,g,e,uR,⟨by show (0<=m.pc∧m.pc<=6)∨_;omega,fun _=>q2,uK,uK,uK⟩⟩⟩
  ·rw [if_neg q2];exact zL rfl ⟨uW,st1,tg1,uO,rfl,rfl,jJ.refl w _,qg w (vD p6 (ph5 su.done hk uM)),.inr ⟨v,g,e,uR,⟨uL,uK,uK,uK,uK⟩⟩⟩
 replace pcs:=pcs.resolve_left p
 rw [if_neg p];clear p
 by_cases p:m.pc=3
 ·rw [if_pos p];by_cases q:w.zn=m.zn∧w.zn < 1000000000000
  ·have hw:IntKind.i64.wrap (w.zn+1)=w.zn+1:=q0 (by have:=gr.zn;omega) (by omega);rw [if_pos q,hw];have st2:=st1.epo (n:=w.zn+1) (by omega) (by omega);exact zL rfl ⟨(by show (4:Int)≠0;decide),st2,tg1,uO,rfl,rfl,xE (by show w.zn<=w.zn+1;omega) rfl rfl rfl rfl rfl,wK rfl rfl rfl rfl rfl (vD p6 (ph5 su.done hk uM)),.inr ⟨v,g,e,⟨qe.2 st2.jj,su.zj,su.done,su.version,su.atv,su.zf,su.atg,su.end_,su.ate,su.other,su.slot,su.listen,Int.le_refl _,su.k⟩,⟨uL,uK,uK,uK,uK⟩⟩⟩
  ·rw [if_neg q];exact zL rfl ⟨(by show (5:Int)≠0;decide),st1,tg1,uO,rfl,rfl,jJ.refl w _,qg w (vD p6 (ph5 su.done hk uM)),.inr ⟨v,g,e,uS,⟨uL,uK,uK,uK,uK⟩⟩⟩
 replace pcs:=pcs.resolve_left p
 rw [if_neg p];clear p
 by_cases p:m.pc=4
 ·rw [if_pos p];cases hx:w.zt[m.i.toNat]? with
  | none=>exact zL rfl (zqn st tg (m1:=atM m 8 0) uS uO hk hN rfl rfl rfl p6 lk)
  | some r=>
   have hlt:=(List.getElem?_eq_some_iff.1 hx).1;have hw:IntKind.i64.wrap (m.i+1)=m.i+1:=q0 (by omega) (by omega);have la:=wH gw hx;dsimp only;unfold llM;rw [hw];by_cases q:r.gone=true∨Go.Lim.zeH r.at_ m.zn=false
   ·rw [if_pos q];exact zL rfl ⟨uW,st1,tg1,uO,rfl,rfl,jJ.refl w _,qg w (vD p6 (ph5 su.done hk uM)),.inr ⟨v,g,e,uR,⟨by show (0<=m.pc∧m.pc<=6)∨_;omega,uK,uK,uK,uK⟩⟩⟩
   ·rw [if_neg q];obtain ⟨v',hv'⟩:∃ v',w.ze[r.version.toNat]?= some v':=⟨_,List.getElem?_eq_getElem (by omega)⟩;have gv:=(gw.ver _ v' hv').1;have h0:0 < v'.zm.length:=by have:=(jk gv.snap).zl.1;have:=gv.len;omega
    obtain ⟨g',e',hg,he,l1,l2⟩:=vu gv h0;have el:=zjr gv
    exact zL rfl ⟨uW,st1,tg1,uO,rfl,rfl,jJ.refl w _,qg w (vD p6 (ph5 su.done hk uM)),.inr ⟨v',g',e',⟨su.world,su.zj,su.done,⟨la.2.2.1,la.2.2.2.1⟩,hv',⟨Int.le_refl _,by show (0:Int) < _;omega⟩,hg,⟨Int.le_refl _,by show (0:Int) < _;omega⟩,he,⟨Int.le_refl _,by show (0:Int) < _;omega⟩,⟨Int.le_refl _,by show (0:Int) < _;omega⟩,su.listen,su.i,Int.le_refl _⟩,
     ⟨uL,uK,fun _=>⟨r,hx,rfl,by cases hgo:r.gone with | false=>rfl | true=>exact absurd (.inl hgo) q⟩,fun _=>by show (0:Int) < _;omega,uK⟩⟩⟩
 replace pcs:=pcs.resolve_left p
 rw [if_neg p];clear p
 by_cases p:m.pc=5
 ·rw [if_pos p];obtain ⟨r,hr,hrv,hrg⟩:=lo.lim (.inl p);have hlt:=(List.getElem?_eq_some_iff.1 hr).1;have hk2:=lo.act p;have gv:=(gw.ver _ v su.atv).1;have el:=zjr gv;have hw:IntKind.i64.wrap (m.i+1)=m.i+1:=q0 (by omega) (by omega);have hwk:IntKind.i64.wrap (m.k+1)=m.k+1:=q0 (by omega) (by omega);obtain ⟨x,hx⟩:∃ x,(xU v)[m.k.toNat]?= some x:=⟨_,List.getElem?_eq_getElem (by omega)⟩;rw [su.atv,Option.bind_some,hx,Option.map_some];unfold laM;rw [hw,hwk];by_cases q:x.zg≠0
  ·rw [if_pos q];exact zL rfl ⟨uW,st1,tg1,uO,rfl,rfl,jJ.refl w _,qg w (vD p6 (ph5 su.done hk uM)),.inr ⟨v,g,e,uR,⟨uL,uK,uK,uK,uK⟩⟩⟩
  rw [if_neg q];by_cases q2:m.k+1 < (xU v).length
  ·rw [if_pos q2];exact zL rfl ⟨uW,st1,tg1,uO,rfl,rfl,jJ.refl w _,qg w (vD p6 (ph5 su.done hk uM)),.inr ⟨v,g,e,⟨su.world,su.zj,su.done,su.version,su.atv,su.zf,su.atg,su.end_,su.ate,su.other,su.slot,su.listen,su.i,(by show 0<=m.k+1;omega)⟩,⟨by show (0<=m.pc∧m.pc<=6)∨_;omega,uK,fun _=>⟨r,hr,hrv,hrg⟩,fun _=>q2,uK⟩⟩⟩
  ·rw [if_neg q2];exact zL rfl ⟨uW,st1,tg1,uO,rfl,rfl,jJ.refl w _,qg w (vD p6 (ph5 su.done hk uM)),.inr ⟨v,g,e,⟨su.world,su.zj,su.done,su.version,su.atv,su.zf,su.atg,su.end_,su.ate,su.other,su.slot,su.listen,su.i,(by show 0<=m.k+1;omega)⟩,⟨uL,uK,fun _=>⟨r,hr,hrv,hrg⟩,uK,uK⟩⟩⟩
 replace pcs:=pcs.resolve_left p
 rw [if_neg p];clear p
 by_cases p:m.pc=6
 ·rw [if_pos p];obtain ⟨r,hr,hrv,hrg⟩:=lo.lim (.inr p);have hlt:=(List.getElem?_eq_some_iff.1 hr).1;have hw:IntKind.i64.wrap (m.i+1)=m.i+1:=q0 (by omega) (by omega);have st2:=st.qj su.version.1 su.atv hr hrv;have s1:=(List.getElem?_eq_some_iff.1 su.atv).1;rw [su.atv,Option.bind_some,hr,Option.bind_some,if_pos ⟨hrv,hrg⟩];unfold frM;rw [hw]
  exact zL rfl ⟨tI,st2,zqP tg1 su.atv,uP,rfl,rfl,zlK kl su.atv hr,zqa su.atv hr (vD p6 (ph5 su.done hk uM)),.inr ⟨zaa v,g,e,⟨qe.2 st2.jj,su.zj,su.done,by simpa using su.version,List.getElem?_set_self s1,su.zf,su.atg,su.end_,su.ate,su.other,su.slot,su.listen,by show 0<=m.i+1;omega,su.k⟩,
   ⟨uL,uK,uK,uK,uK⟩⟩⟩
 replace pcs:=pcs.resolve_left p
 rw [if_neg p];clear p
 by_cases p:m.pc=8
 ·rw [if_pos p];exact zL rfl (zqn st tg su tm hk hN p rfl rfl p6 lk)
 replace pcs:=pcs.resolve_left p
 rw [if_neg p];clear p
 by_cases p:m.pc=9
 ·rw [if_pos p];obtain ⟨l,hl,hd⟩:=lo.lis (.inl p);have hlt:=(List.getElem?_eq_some_iff.1 hl).1;have hw:IntKind.i64.wrap (m.i+1)=m.i+1:=q0 (by omega) (by omega);rw [hl,Option.map_some,hw];by_cases q:l.zg=0
  ·rw [if_pos q];exact zL rfl ⟨uW,st1,tg1,uO,rfl,rfl,jJ.refl w _,qg w (vD p6 (ph5 su.done hk uM)),.inr ⟨v,g,e,uQ,⟨uL,uK,uK,uK,fun _=>⟨l,hl,hd⟩⟩⟩⟩
  ·rw [if_neg q];exact zL rfl ⟨uW,st1,tg1,uO,rfl,rfl,jJ.refl w _,qg w (vD p6 (ph5 su.done hk uM)),.inr ⟨v,g,e,uR,⟨uL,uK,uK,uK,uK⟩⟩⟩
 rw [if_neg p];have p:m.pc=10:=pcs.resolve_left p;obtain ⟨l,hl,hd⟩:=lo.lis (.inr p);have hlt:=(List.getElem?_eq_some_iff.1 hl).1;have hw:IntKind.i64.wrap (m.i+1)=m.i+1:=q0 (by omega) (by omega);have li:=zfd (gw.lis _ l hl).1;have st2:=st1.zc6 hl (y:=zkg l) rfl (zc5 li.1 li.2.1 (by show (l.drain || !true)=true;rw [hd];rfl)) (st.ty.okl l (List.mem_of_getElem? hl)).2 (by have:=st.cal.lis l (List.mem_of_getElem? hl);show l.zg<=_;omega);rw [if_pos p,hl,Option.bind_some,if_pos hd,hw];exact zL rfl ⟨tI,st2,tg1,uO,rfl,rfl,zaZ hl rfl id,zf7 (y:=zkg l) i0 hl rfl (vD p6 (ph5 su.done hk uM)),.inr ⟨v,g,e,⟨qe.2 st2.jj,su.zj,su.done,su.version,su.atv,su.zf,su.atg,su.end_,su.ate,su.other,su.slot,by simpa using su.listen,by show 0<=m.i+1;omega,su.k⟩,⟨uL,uK,uK,uK,uK⟩⟩⟩
end
theorem kC {α:Type} {l l':List α} {i:Nat} {x:α} (h:l[i]?= some x) (hl:l.length<=l'.length):∃ y,l'[i]?= some y:=
 ⟨_,List.getElem?_eq_getElem (by have:=(List.getElem?_eq_some_iff.1 h).1;omega)⟩
theorem zho:∀ {l l':List Gr},l'.length=l.length->(∀ (j:Nat) g g',l[j]?= some g->l'[j]?= some g'->g'.ends.length=g.ends.length)->(l'.flatMap (·.ends)).length=(l.flatMap (·.ends)).length
 | [],[],_,_=>rfl
 | g::l,g'::l',h,hh=>by
  have ih:=zho (l:=l) (l':=l') (by simpa using h) fun j a b ha hb=>hh (j+1) a b (by simpa using ha) (by simpa using hb)
  have h0:=hh 0 g g' rfl rfl;simp only [List.flatMap_cons,List.length_append];omega
 | [],_::_,h,_=>by simp at h
 | _::_,[],h,_=>by simp at h
theorem zn1 {e:En} (h:Slp.isV e=true) (h0:0<=Slp.zC e):Slp.zC e ∈ (Slp.qt e).1:=by
 have ok:=(Slp.zaY h).1;rw [Slp.zab ok,(Slp.zb8 ok (by omega)).2.2];exact List.mem_cons_self ..
theorem zqF (e:En) (s:Int):slE e s<=1:=by unfold slE;split <;> omega
theorem zrz {w w':Wor} {m:Mac} {v:Ver} {g:Gr} {e:En} {o:Key->Nat} (su:qC w m v g e) (lc:Lc w m v g e) (gw:jH w) (gw':jH w') (kp:jJ w w' o) (ow:∀ x,o x+jM m x<=Has w x):
  ∃ v' g' e',qC w' m v' g' e'∧Lc w' m v' g' e':=by
 have hv:=su.version;have hg:=su.zf;have he:=su.end_;obtain ⟨v',av⟩:=kC su.atv kp.zbm;have kv:=kp.ver _ v v' su.atv av;obtain ⟨g',ag⟩:=kC su.atg (Nat.le_of_eq kv.len.symm);have kg:=kv.grp _ g g' su.atg ag;obtain ⟨e',ae⟩:=kC su.ate (Nat.le_of_eq kg.len.symm);have ke:=kg.ends _ e e' su.ate ae;rw [Int.toNat_of_nonneg hv.1,Int.toNat_of_nonneg hg.1,Int.toNat_of_nonneg he.1] at ke;have l1:=kp.zbm;have l2:=kv.len;have l3:=kg.len;have l4:=ke.len;have l5:=kp.pins;have l6:=kp.lis;have su':qC w' m v' g' e':=⟨qe.2 gw',by have:=su.zj;omega,su.done,by omega,av,by omega,ag,by omega,ae,by have:=su.other;omega,by have:=su.slot;omega,by have:=su.listen;omega,su.i,su.k⟩;refine ⟨v',g',e',su',?_⟩;have isv:=(((gw.ver _ v su.atv).1.few.2 g (List.mem_of_getElem? su.atg)).2.2 e (List.mem_of_getElem? su.ate)).1;have hsl:=zfQ su.at_ m.slot;have s0:=su.slot;have slo:=ow (.slot m.version m.zf m.end_ m.slot);rw [hsl] at slo;have sle:=zqF e m.slot;rcases lc with ⟨hk,lo⟩ | ⟨hk,lo⟩ | ⟨hk,lo⟩ | ⟨hk,lo⟩ | ⟨hk,lo⟩ | ⟨hk,lo⟩
 ·refine .inl ⟨hk,⟨lo.pc,fun h=>?_,lo.lis,lo.early,lo.mid,fun h=>?_,fun h=>?_,fun h h2=>?_,lo.ans,lo.kind⟩⟩
  ·have:=lo.ep h;have:=kp.zn;omega
  ·obtain ⟨c,h1,h2⟩:=lo.draw h;exact ⟨c,by rw [kv.snap];exact h1,h2⟩
  ·have:=lo.slot h;have:=ke.tag;exact ⟨(lo.slot h).1,by omega⟩
  ·have q:=lo.slot (.inr h);have t1:=ke.tag;have t2:zbL e'=m.word / 4294967296:=by unfold zbL;rw [h2]
   have hh:=ke.head (by omega);have hm:e.head=m.word:=by rw [<- hh];exact h2
   have hs:Slp.zC e=m.slot:=by rw [q.1,<- hm];rfl
   have fr:=zn1 isv (by omega)
   have z:slE e m.slot=0:=by
    unfold slE;rw [if_neg (fun z=>z.2.2 (hs ▸ fr))]
   rw [ke.next m.slot s0.1 (by show o _=0;omega)];exact lo.link h hm
 ·refine .inr (.inl ⟨hk,⟨lo.pc,lo.lis,fun h=>?_,fun h=>?_⟩⟩)
  ·have:=lo.tag h;have:=ke.tag;omega
  ·have p3:ph m=3:=ph2 su.done hk (by rw [if_pos (by omega)]);have:jM m (.slot m.version m.zf m.end_ m.slot)=1:=by rw [jg p3];simp [qa]
   rw [ke.next m.slot s0.1 (by show o _=0;omega)];exact lo.next h
 ·refine .inr (.inr (.inl ⟨hk,⟨lo.pc,fun h=>?_⟩⟩));have:=lo.ep h;have:=kp.zn;omega
 ·exact .inr (.inr (.inr (.inl ⟨hk,lo⟩)))
 ·refine .inr (.inr (.inr (.inr (.inl ⟨hk,⟨lo.pc,fun h=>?_,fun h=>?_,fun h=>?_,fun h=>?_⟩⟩))))
  ·have:=lo.pin h;omega
  ·obtain ⟨r,h1,h2,h3⟩:=lo.lim h;obtain ⟨r',h4⟩:=kC h1 kp.lim;have q:=kp.zt _ r r' h1 h4;have p6:ph m=6:=ph5 su.done hk (by rw [if_pos (by omega)]);have k1:jM m .lock=1:=by rw [jg p6];simp [qa]
   have lk:=(qb.1 gw.ground).lock;have k2:=ow .lock;have k3:Has w .lock=w.lock.toNat:=rfl;exact ⟨r',h4,by rw [q.1];exact h2,by rw [q.2.2 (by omega)];exact h3⟩
  ·have:=lo.act h;have fl:(xU v').length=(xU v).length:=zho l2 fun j a b ha hb=>(kv.grp j a b ha hb).len
   omega
  ·obtain ⟨l,h1,h2⟩:=lo.lis h;obtain ⟨l',h3⟩:=kC h1 (Nat.le_of_eq l6.symm);exact ⟨l',h3,(kp.kY _ l l' h1 h3).2 h2⟩
 ·exact .inr (.inr (.inr (.inr (.inr ⟨hk,⟨lo.pc,lo.k,by have:=lo.i;have:=kp.counts;omega⟩⟩))))
theorem zrU {N K:Nat} {w:Wor} {m:Mac} {v:Ver} {g:Gr} {e:En} (st:St N K w) (tg:Tg N w) (su:qC w m v g e) (tm:TyM m) (lo:Lc w m v g e) (hN:N<=100000000) (hK:K<=1099511627776) (ow:∀ x,jM m x<=Has w x):∃ r,zbf w m=some r∧Nc N K w m Lc Fi' r:=by
 have up:∀ {L:Wor->Mac->Ver->Gr->En->Prop} {F:Mac->Prop} {r:Wor × Mac × Eve},Nc N K w m L F r->(∀ w' m' v g e,m'.op=m.op->L w' m' v g e->Lc w' m' v g e)->(∀ m',m'.op=m.op->F m'->Fi' m')->Nc N K w m Lc Fi' r:=fun h hL hF=>
  ⟨h.ev,h.st,h.tg,h.tm,h.op,h.th,h.keep,h.mv,h.go.imp (fun z=>⟨z.1,hF _ h.op z.2⟩) (fun ⟨v,g,e,z1,z2⟩=>⟨v,g,e,z1,hL _ _ _ _ _ h.op z2⟩)⟩
 rw [show zbf w m=if m.op.kind=1 then qi w m v g e else if m.op.kind=2 then vm w m v g e else if m.op.kind=3 then vP w m else if m.op.kind=4 then zb9 w m
  else if m.op.kind=5 then ks w m else if m.op.kind=6 then zct w m else none by
   unfold zbf;rw [su.atv];dsimp only;rw [su.atg];dsimp only;rw [su.ate]]
 rcases lo with ⟨hk,lo⟩ | ⟨hk,lo⟩ | ⟨hk,lo⟩ | ⟨hk,lo⟩ | ⟨hk,lo⟩ | ⟨hk,lo⟩
 ·rw [if_pos hk];obtain ⟨r,h1,h2⟩:=zl6 st tg su tm lo hk hN hK ow;exact ⟨r,h1,up h2 (fun _ m' _ _ _ ho z=>.inl ⟨by rw [ho];exact hk,z⟩) fun m' ho z=>.inl ⟨by rw [ho];exact hk,z⟩⟩
 ·rw [if_neg (by omega),if_pos hk];obtain ⟨r,h1,h2⟩:=zl5 st tg su tm lo hk hN hK ow;exact ⟨r,h1,up h2 (fun _ m' _ _ _ ho z=>.inr (.inl ⟨by rw [ho];exact hk,z⟩)) fun m' ho z=>.inr (.inl ⟨by rw [ho];exact hk,z⟩)⟩
 ·rw [if_neg (by omega),if_neg (by omega),if_pos hk];obtain ⟨r,h1,h2⟩:=zqo st tg su tm lo hk ow;exact ⟨r,h1,up h2 (fun _ m' _ _ _ ho z=>.inr (.inr (.inl ⟨by rw [ho];exact hk,z⟩))) fun m' ho z=>.inr (.inr ⟨by rw [ho];omega,by rw [ho];omega,z⟩)⟩
 ·rw [if_neg (by omega),if_neg (by omega),if_neg (by omega),if_pos hk];obtain ⟨r,h1,h2⟩:=zoB st tg su tm lo hk hN;exact ⟨r,h1,up h2 (fun _ m' _ _ _ ho z=>.inr (.inr (.inr (.inl ⟨by rw [ho];exact hk,z⟩)))) fun m' ho z=>.inr (.inr ⟨by rw [ho];omega,by rw [ho];omega,z⟩)⟩
 ·rw [if_neg (by omega),if_neg (by omega),if_neg (by omega),if_neg (by omega),if_pos hk];obtain ⟨r,h1,h2⟩:=zj1 st tg su tm lo hk hN ow;exact ⟨r,h1,up h2 (fun _ m' _ _ _ ho z=>.inr (.inr (.inr (.inr (.inl ⟨by rw [ho];exact hk,z⟩))))) fun m' ho z=>.inr (.inr ⟨by rw [ho];omega,by rw [ho];omega,z⟩)⟩
 ·rw [if_neg (by omega),if_neg (by omega),if_neg (by omega),if_neg (by omega),if_neg (by omega),if_pos hk];obtain ⟨r,h1,h2⟩:=zoC st tg su tm lo hk;exact ⟨r,h1,up h2 (fun _ m' _ _ _ ho z=>.inr (.inr (.inr (.inr (.inr ⟨by rw [ho];exact hk,z⟩))))) fun m' ho z=>.inr (.inr ⟨by rw [ho];omega,by rw [ho];omega,z⟩)⟩
end Go.Wor
namespace Go.Pla
open Go.Ab Go.Proofs Go.Hy
theorem vQ.at_ {given L1 L2:List Ans} {b:Ans} (h:vQ given (L1++b::L2)):∃ l1 i l2,jo given=l1++i::l2∧l1.map (fun i=>given[i]?)=L1.map some∧given[i]?= some b∧l2.map (fun i=>given[i]?)=L2.map some:=by
 unfold vQ at h;rw [List.map_append,List.map_cons] at h;obtain ⟨l1,l',h1,h2,h3⟩:=List.map_eq_append_iff.1 h;obtain ⟨i,l2,h4,h5,h6⟩:=List.map_eq_cons_iff.1 h3;exact ⟨l1,i,l2,by rw [h1,h4],h2,h5,h6⟩
theorem vQ.zrp {given L1 L2:List Ans} {b f:Ans} (h:vQ given (L1++b::L2)) (he:xV f b=true) (hn:∀ x ∈ L1,xV f x=false):vQ (given++[f]) (L1++L2):=by
 have hlt:∀ n ∈ jo given,n < given.length:=vA given given.length (Nat.le_refl _)
 have h6:f.kind=6:=by
  unfold xV at he;simp only [Bool.and_eq_true,decide_eq_true_eq] at he;exact he.1
 obtain ⟨l1,i,l2,h1,h2,h3,h4⟩:=h.at_
 have a1:∀ n ∈ l1,atV given f n=false:=fun n hm=>by
  have:given[n]? ∈ l1.map (fun i=>given[i]?):=List.mem_map.2 ⟨n,hm,rfl⟩;rw [h2] at this;obtain ⟨x,hx,e⟩:=List.mem_map.1 this;unfold atV;rw [<- e];exact hn x hx
 have e:(jo given).findIdx? (atV given f)=some l1.length:=by
  rw [h1,List.findIdx?_append,List.findIdx?_eq_none_iff.2 a1,List.findIdx?_cons];have:atV given f i=true:=by unfold atV;rw [h3];exact he
  rw [if_pos this];simp
 unfold vQ;rw [zdY,if_neg (by omega),e,h1];dsimp only
 rw [List.eraseIdx_append_of_length_le (Nat.le_refl _),Nat.sub_self,List.eraseIdx_cons_zero,zf1 given f _ (fun n hn=>hlt n (by
  rw [h1];rcases List.mem_append.1 hn with hn | hn
  ·exact List.mem_append.2 (.inl hn)
  ·exact List.mem_append.2 (.inr (List.mem_cons_of_mem _ hn)))),List.map_append,h2,h4,List.map_append]
end Go.Pla
namespace Go.Beg
open Go.Ab Go.Proofs Go.Hy Go.Pla
theorem zqO {o:Opn} {given L:List Ans} (h:vQ given L) (h0:0<=o.n) (h1:o.n < L.length):∃ a,L[o.n.toNat]?= some a∧zcv o given=a:=by
 obtain ⟨i,a,h2,h3,h4⟩:=zkw h0 (by rw [h.len];exact h1);refine ⟨a,?_,h4⟩;have:=congrArg (fun l=>l[o.n.toNat]?) h;simp only [List.getElem?_map,h2,Option.map_some,h3] at this;cases hl:L[o.n.toNat]? with
 | none=>rw [hl] at this;cases this
 | some b=>rw [hl] at this;simp only [Option.map_some,Option.some.injEq] at this;rw [this]
theorem zmx {o:Opn} {given L:List Ans} (h:vQ given L) (h1:¬(0<=o.n∧o.n < L.length)):zcv o given=vR:=zd6 (by rw [h.len];exact h1)
end Go.Beg
namespace Go.Wor
open Go.Ab Go.Proofs Go.Gat Go.Nam Go.Hos Go.Con Go.Sna Go.Pla
open Go.Hy hiding encI
def zga (x:Thr) (t:Int) (o:Opn):Mac:=if x.on then x.m else Beg.xY t o x.given
def kP (L:List Ans) (x:Key):Nat:=(L.map fun a=>zbI a x).sum
theorem za5 (L L':List Ans) (x:Key):kP (L++L') x=kP L x+kP L' x:=by unfold kP;rw [List.map_append,List.sum_append]
theorem zbz (a:Ans) (L:List Ans) (x:Key):kP (a::L) x=zbI a x+kP L x:=by unfold kP;rw [List.map_cons,List.sum_cons]
theorem zql (a:Ans) (x:Key):kP [a] x=zbI a x:=by rw [zbz];rfl
structure OnT (w:Wor) (t:Int) (x:Thr) (m:Mac) (L:List Ans) (o:Key->Nat):Prop where
 at_:x.ops[x.done]?= some m.op
 th:m.zj=t
 tm:TyM m
 lc:∃ v g e,qC w m v g e∧Lc w m v g e
 own:(((m.op.kind≠2∨m.pc=9)∧∀ k,o k=kP L k+jM m k)∨(m.op.kind=2∧m.pc<=4∧∃ L1 a L2,L=L1++a::L2∧a.version=m.version∧a.zf=m.zf∧a.end_=m.end_∧a.slot=m.slot∧a.listen=m.listen∧(∀ b ∈ L1,¬zo5 b a)∧∀ k,o k=kP (L1++L2) k+jM m k))
structure TI (w:Wor) (t:Int) (x:Thr) (o:Key->Nat):Prop where
 le:x.done<=x.ops.length
 given:x.given.length=x.done
 open_ : ∃ L, vQ x.given L ∧ (∀ a ∈ L, a.kind = 1 ∧ 0 <= a.listen) ∧ ((x.on = false ∧ ∀ k, o k = kP L k) ∨ (x.on = true ∧ OnT w t x x.m L o))
theorem zna {L:List Ans} {a:Ans} (h:a ∈ L) (k:Key):zbI a k<=kP L k:=by
 obtain ⟨L1,L2,rfl⟩:=List.append_of_mem h;rw [za5,zbz];omega
theorem zrq {w:Wor} {a:Ans} (h:∀ k,zbI a k<=Has w k):zgI w a:=by
 have h1:=h (.slot a.version a.zf a.end_ a.slot);have h2:=h (.lis a.listen);have e1:zbI a (.slot a.version a.zf a.end_ a.slot)=1:=by simp [zbI,qa]
 have e2:zbI a (.lis a.listen)=1:=by simp [zbI,qa]
 rw [e1] at h1;rw [e2] at h2;simp only [Has] at h1 h2;split at h1
 ·rename_i e he;unfold wg at he;split at he
  ·rename_i q;unfold slE at h1;split at h1
   ·rename_i z;split at h2
    ·rename_i l0;split at h2
     ·rename_i l hl;have:=(List.getElem?_eq_some_iff.1 hl).1;exact ⟨⟨q.1,q.2.1,q.2.2,z.1⟩,⟨l0,by omega⟩,e,he,z.2⟩
     ·omega
    ·omega
   ·omega
  ·cases he
 ·omega
theorem zsV (w:Wor) (i j k s:Int):Has w (.slot i j k s)<=1:=by
 simp only [Has];split
 ·exact zqF _ _
 ·omega
theorem zod {t:Int} {o:Opn} {given:List Ans} (h:o.kind≠2):Beg.xY t o given=⟨o,t,0,0,0, -1,0,0,0,0,0,0,0,0,0,false,Beg.vR,zbd⟩:=by
 unfold Beg.xY;rw [if_neg h]
structure zsF (o:Opn):Prop where
 kind:1<=o.kind∧o.kind<=6
 host:o.host.length < 1000000000000
 path:o.path.length < 1000000000000
 d0:i64 o.d0
 d1:i64 o.d1
 cfg:o.kind=3->xf o.config
theorem zny {N K:Nat} {w:Wor} {t:Int} {x:Thr} {o:Key->Nat} {p:Opn} (st:St N K w) (tg:Tg N w) (ht:0<=t∧t < w.pins.length) (ti:TI w t x o) (hoff:x.on=false) (hp:x.ops[x.done]?= some p) (po:zsF p) (hN:N<=100000000) (ow:∀ k,o k<=Has w k):
  TI w t ⟨x.ops,x.done,true,Beg.xY t p x.given,x.given⟩ o:=by
 obtain ⟨hle,hgl,L,hL,hk,hon⟩:=ti
 have hon:∀ k,o k=kP L k:=by
  rcases hon with ⟨_,h⟩ | ⟨h,_⟩
  ·exact h
  ·rw [hoff] at h;cases h
 refine ⟨hle,hgl,L,hL,hk,.inr ⟨rfl,?_⟩⟩;have pk:=po.kind;have gr:=qb.1 st.jj.ground
 have idle:∀ {pc:Int} {op:Opn},op=p->(pc=0∨pc=9)->TyM ⟨op,t,pc,0,0, -1,0,0,0,0,0,0,0,0,0,false,Beg.vR,zbd⟩∧∃ v g e,qC w ⟨op,t,pc,0,0, -1,0,0,0,0,0,0,0,0,0,false,Beg.vR,zbd⟩ v g e:=fun e _=>by
  subst e;exact ⟨⟨(by decide:i64 (-1)),(by decide:u64 0),(by decide:(-1:Int)<=0∧(0:Int)<=2147483646),po.host,po.path,po.d0,po.d1,po.cfg,fun _ _=>rfl⟩,zeO st.jj ht rfl rfl rfl rfl rfl rfl rfl rfl rfl⟩
 by_cases k2:p.kind=2
 ·by_cases hn:0<=p.n∧p.n < L.length
  ·obtain ⟨a,ha,hta⟩:=Beg.zqO hL hn.1 hn.2;have am:=List.mem_of_getElem? ha;obtain ⟨ak,al⟩:=hk a am;have fa:zgI w a:=zrq fun k=>Nat.le_trans (zna am k) (by rw [<- hon k];exact ow k)
   obtain ⟨⟨p1,p2,p3,p4⟩,⟨l0,l1⟩,e,hat,hs,hf⟩:=fa;obtain ⟨v,g,a1,a2,a3⟩:=zss hat;have s1:=(List.getElem?_eq_some_iff.1 a1).1;have s2:=(List.getElem?_eq_some_iff.1 a2).1;have s3:=(List.getElem?_eq_some_iff.1 a3).1
   have eb:Beg.xY t p x.given=⟨p,t,0,0,a.version,a.listen,a.zf,a.end_,0,a.slot,0,0,0,0,0,false,Beg.vR,zbd⟩:=by
    unfold Beg.xY;rw [if_pos k2,hta];unfold Beg.zcV;rw [if_pos ak,if_pos ak]
   rw [eb];have lN:=st.ty.lis
   obtain ⟨L1,L2,hsp,hln⟩:∃ L1 L2,L=L1++a::L2∧L1.length=p.n.toNat:=⟨L.take p.n.toNat,L.drop (p.n.toNat+1),by
    have hlt:=(List.getElem?_eq_some_iff.1 ha).1;have he:=(List.getElem?_eq_some_iff.1 ha).2;rw [<- he,List.getElem_cons_drop,List.take_append_drop],by simp;omega⟩
   have ph3:ph ⟨p,t,0,0,a.version,a.listen,a.zf,a.end_,0,a.slot,0,0,0,0,0,false,Beg.vR,zbd⟩=3:=ph2 rfl k2 rfl
   refine ⟨hp,rfl,⟨by show i64 a.listen;unfold i64;omega,(by decide:u64 0),(by decide:(-1:Int)<=0∧(0:Int)<=2147483646),po.host,po.path,po.d0,po.d1,po.cfg,fun _ _=>rfl⟩,
    ⟨v,g,e,⟨qe.2 st.jj,ht,rfl,⟨p1,by show a.version < _;omega⟩,a1,⟨p2,by show a.zf < _;omega⟩,a2,⟨p3,by show a.end_ < _;omega⟩,a3,⟨Int.le_refl _,by show (0:Int) < _;omega⟩,⟨p4,hs⟩,⟨by show -1<=a.listen;omega,l1⟩,Int.le_refl _,Int.le_refl _⟩,
     .inr (.inl ⟨k2,⟨.inl ⟨Int.le_refl _,by show (0:Int)<=4;decide⟩,fun _=>l0,(fun h=>by dsimp only at h;omega),fun h=>absurd (show (0:Int)=2 from h) (by decide)⟩⟩)⟩,
    .inr ⟨k2,by show (0:Int)<=4;decide,L1,a,L2,hsp,rfl,rfl,rfl,rfl,rfl,fun b hb cl=>?_,fun k=>?_⟩⟩
   ·have q1:=ow (.slot a.version a.zf a.end_ a.slot);have q2:=zsV w a.version a.zf a.end_ a.slot;have q3:=zna hb (.slot a.version a.zf a.end_ a.slot);have e1:zbI a (.slot a.version a.zf a.end_ a.slot)=1:=by simp [zbI,qa]
    have e2:zbI b (.slot a.version a.zf a.end_ a.slot)=1:=by simp [zbI,qa,cl.1,cl.2.1,cl.2.2.1,cl.2.2.2]
    rw [hon,hsp,za5,zbz] at q1;omega
   rw [hon k,hsp,za5,za5,zbz,jg ph3];show _=_+zbI a k;omega
  ·have eb:Beg.xY t p x.given=⟨p,t,9,0,0, -1,0,0,0,0,0,0,0,0,0,false,Beg.vR,zbd⟩:=by
    unfold Beg.xY;rw [if_pos k2,Beg.zmx hL hn]
    rfl
   rw [eb];obtain ⟨ty,v,g,e,su⟩:=idle (pc:=9) rfl (.inr rfl);have p0:ph ⟨p,t,9,0,0, -1,0,0,0,0,0,0,0,0,0,false,Beg.vR,zbd⟩=0:=ph2 rfl k2 rfl;exact ⟨hp,rfl,ty,⟨v,g,e,su,.inr (.inl ⟨k2,⟨.inr rfl,fun h=>absurd (show (9:Int)<=4 from h) (by decide),(fun h=>by dsimp only at h;omega),fun h=>absurd (show (9:Int)=2 from h) (by decide)⟩⟩)⟩,.inl ⟨.inr rfl,fun k=>by rw [hon k,jg p0,vL];rfl⟩⟩
 ·rw [zod k2];obtain ⟨ty,v,g,e,su⟩:=idle (pc:=0) rfl (.inl rfl)
  have p0:ph ⟨p,t,0,0,0, -1,0,0,0,0,0,0,0,0,0,false,Beg.vR,zbd⟩=0:=by
   by_cases k1:p.kind=1
   ·exact ph1 rfl k1 rfl
   by_cases k3:p.kind=3
   ·exact ph3 rfl k3 rfl
   by_cases k5:p.kind=5
   ·exact ph5 rfl k5 rfl
   exact zde rfl k1 k2 k3 k5
  refine ⟨hp,rfl,ty,⟨v,g,e,su,?_⟩,.inl ⟨.inl k2,fun k=>by rw [hon k,jg p0,vL];rfl⟩⟩;rcases (by omega:p.kind=1∨p.kind=3∨p.kind=4∨p.kind=5∨p.kind=6) with k | k | k | k | k
  ·exact .inl ⟨k,⟨.inl ⟨Int.le_refl _,by show (0:Int)<=12;decide⟩,(fun h=>by dsimp only at h;omega),(fun h=>by dsimp only at h;omega),(fun h=>by dsimp only at h;omega),(fun h=>by dsimp only at h;omega),fun h=>absurd (show (0:Int)=6 from h) (by decide),(fun h=>by dsimp only at h;omega),fun h=>absurd (show (0:Int)=11 from h) (by decide),fun h=>absurd (show (20:Int)<=0 from h) (by decide),fun h=>absurd (show (0:Int)=22 from h) (by decide)⟩⟩
  ·exact .inr (.inr (.inl ⟨k,⟨⟨Int.le_refl _,by show (0:Int)<=2;decide⟩,fun h=>absurd (show (0:Int)=2 from h) (by decide)⟩⟩))
  ·exact .inr (.inr (.inr (.inl ⟨k,rfl⟩)))
  ·exact .inr (.inr (.inr (.inr (.inl ⟨k,⟨.inl ⟨Int.le_refl _,by show (0:Int)<=6;decide⟩,fun h=>absurd (show (0:Int)=2 from h) (by decide),(fun h=>by dsimp only at h;omega),fun h=>absurd (show (0:Int)=5 from h) (by decide),(fun h=>by dsimp only at h;omega)⟩⟩))))
  ·exact .inr (.inr (.inr (.inr (.inr ⟨k,⟨rfl,by show (0:Int) < 6;decide,by show (0:Int) < (w.counts.length:Nat);have:=gr.counts.1;have:=gr.pins.1;omega⟩⟩))))
theorem zfK {w:Wor} {m:Mac} {v:Ver} {g:Gr} {e:En} {r:Wor × Mac × Eve} (h:vm w m v g e=some r):r.2.1.version=m.version∧r.2.1.zf=m.zf∧r.2.1.end_=m.end_∧r.2.1.slot=m.slot∧r.2.1.listen=m.listen∧(m.pc=9->r.2.1.pc=9∧r.2.1.done=true)∧(m.pc<=4->r.2.1.pc<=4)∧(r.2.1.done=true->m.done=false->r.2.1.pc=m.pc):=by
 have c4:∀ {a b:Int},a=b->(a=9->(1:Int)=2)->b=9->False:=fun h1 h2 h3=>absurd (h2 (h1.trans h3)) (by decide)
 unfold vm zfX at h;split at h
 ·rename_i p;cases h
  exact ⟨rfl,rfl,rfl,rfl,rfl,fun h=>by omega,fun _=>by show (1:Int)<=4;decide,fun a b=>absurd (b.symm.trans a) (by decide)⟩
 split at h
 ·rename_i p;cases h
  exact ⟨rfl,rfl,rfl,rfl,rfl,fun h=>by omega,fun _=>by show (2:Int)<=4;decide,fun a b=>absurd (b.symm.trans a) (by decide)⟩
 split at h
 ·rename_i p;split at h
  ·cases h
   exact ⟨rfl,rfl,rfl,rfl,rfl,fun h=>by omega,fun _=>by show (3:Int)<=4;decide,fun a b=>absurd (b.symm.trans a) (by decide)⟩
  ·cases h
   exact ⟨rfl,rfl,rfl,rfl,rfl,fun h=>by omega,fun _=>by show (0:Int)<=4;decide,fun a b=>absurd (b.symm.trans a) (by decide)⟩
 split at h
 ·rename_i p;cases h
  exact ⟨rfl,rfl,rfl,rfl,rfl,fun h=>by omega,fun _=>by show (4:Int)<=4;decide,fun a b=>absurd (b.symm.trans a) (by decide)⟩
 split at h
 ·rename_i p;split at h
  ·cases h
  ·obtain ⟨x,_,rfl⟩:=Option.map_eq_some_iff.1 h;exact ⟨rfl,rfl,rfl,rfl,rfl,fun h=>by omega,fun h=>h,fun _ _=>rfl⟩
 split at h
 ·cases h
  exact ⟨rfl,rfl,rfl,rfl,rfl,fun h=>⟨h,rfl⟩,fun h=>h,fun _ _=>rfl⟩
 ·cases h
theorem zoS {x:Thr} {m:Mac} (h:m.done=true):xu x m=⟨x.ops,x.done+1,false,m,x.given++[m.answer]⟩:=if_pos h
theorem zsg {x:Thr} {m:Mac} (h:m.done=false):xu x m=⟨x.ops,x.done,true,m,x.given⟩:=if_neg (by simp [h])
theorem zsi {N K:Nat} {w:Wor} {t:Int} {x:Thr} {o:Key->Nat} (st:St N K w) (tg:Tg N w) (ti:TI w t x o) (hon:x.on=true) (hN:N<=100000000) (hK:K<=1099511627776) (ow:∀ k,o k<=Has w k):
  zW w x.m=true∧TyM x.m∧(∀ k,jM x.m k<=o k)∧∃ r,zbf w x.m=some r∧r.2.2.access≠0∧St (N+1) (K+1) r.1∧Tg (N+1) r.1∧jJ w r.1 (jM x.m)∧∃ o',TI r.1 t (xu x r.2.1) o'∧Mv w r.1 o o':=by
 obtain ⟨hle,hgl,L,hL,hk,hon'⟩:=ti
 have on:OnT w t x x.m L o:=by
  rcases hon' with ⟨h,_⟩ | ⟨_,h⟩
  ·rw [hon] at h;cases h
  ·exact h
 clear hon'
 obtain ⟨hat,hth,htm,⟨v,g,e,su,lc⟩,hown⟩:=on
 have om:∀ k,jM x.m k<=o k:=fun k=>by
  rcases hown with ⟨_,h⟩ | ⟨_,_,_,_,_,_,_,_,_,_,_,_,h⟩
  ·rw [h k];omega
  ·rw [h k];omega
 have oh:∀ k,jM x.m k<=Has w k:=fun k=>Nat.le_trans (om k) (ow k)
 obtain ⟨r,h1,nc⟩:=zrU st tg su htm lc hN hK oh;refine ⟨zgA su,htm,om,r,h1,nc.ev,nc.st,nc.tg,nc.keep,?_⟩;have lt:x.done < x.ops.length:=(List.getElem?_eq_some_iff.1 hat).1;have fs:x.m.op.kind=2->vm w x.m v g e=some r:=fun hk=>by rw [zqI su,if_neg (by omega),if_pos hk] at h1;exact h1
 rcases nc.go with ⟨hd,hf⟩ | ⟨v',g',e',su',lc'⟩
 ·rw [zoS hd];have hgl':(x.given++[r.2.1.answer]).length=x.done+1:=by simp [hgl]
  rcases hf with ⟨k1,f1,f2,f3⟩ | ⟨k2,f⟩ | ⟨k3,k4,f⟩
  ·rw [nc.op] at k1
   have hb:∀ k,o k=kP L k+jM x.m k:=by
    rcases hown with ⟨_,h⟩ | ⟨h,_⟩
    ·exact h
    ·omega
   by_cases a1:r.2.1.answer.kind=1
   ·obtain ⟨ea,el⟩:=f3 a1;have p3:ph r.2.1=3:=zhI hd (by rw [nc.op];exact k1) a1
    have eo:∀ k,jM r.2.1 k=zbI r.2.1.answer k:=fun k=>by
     rw [jg p3];unfold zbI;rw [ea]
    refine ⟨fun k=>kP (L++[r.2.1.answer]) k,⟨by show x.done+1<=x.ops.length;omega,hgl',L++[r.2.1.answer],hL.ztn a1,fun a ha=>?_,.inl ⟨rfl,fun _=>rfl⟩⟩,fun k=>?_⟩
    ·rcases List.mem_append.1 ha with ha | ha
     ·exact hk a ha
     ·rw [List.mem_singleton.1 ha];exact ⟨a1,by rw [ea];exact el⟩
    ·have:=nc.mv k;dsimp only;rw [hb k,za5,zql,<- eo k];omega
   ·have p0:ph r.2.1=0:=yk hd fun h=>a1 h.2
    refine ⟨fun k=>kP L k,⟨by show x.done+1<=x.ops.length;omega,hgl',L,hL.other a1 (by omega),hk,.inl ⟨rfl,fun _=>rfl⟩⟩,fun k=>?_⟩;have:=nc.mv k
    try dsimp only
    rw [jg p0,vL] at this;rw [hb k];omega
  ·rw [nc.op] at k2;have fsm:=zfK (fs k2);obtain ⟨e1,e2,e3,e4,e5,e6,e7,e8⟩:=fsm;have p0:ph r.2.1=0:=yk hd fun h=>by rw [nc.op] at h;omega
   have pc:=e8 hd su.done;rcases hown with ⟨h9,hb⟩ | ⟨_,h4,L1,a,L2,hsp,q1,q2,q3,q4,q5,hcl,hb⟩
   ·have a7:r.2.1.answer=zaH 7:=by
     rcases f with ⟨_,f⟩ | ⟨f,_⟩
     ·omega
     ·exact f
    refine ⟨fun k=>kP L k,⟨by show x.done+1<=x.ops.length;omega,hgl',L,hL.other (by rw [a7];show (7:Int)≠1;decide) (by rw [a7];show (7:Int)≠6;decide),hk,.inl ⟨rfl,fun _=>rfl⟩⟩,fun k=>?_⟩;have:=nc.mv k
    try dsimp only
    rw [jg p0,vL] at this;rw [hb k];omega
   ·have a6:r.2.1.answer=zsu r.2.1:=by
     rcases f with ⟨f,_⟩ | ⟨_,f⟩
     ·exact f
     ·omega
    have hka:=hk a (by rw [hsp];simp)
    have en:Pla.xV r.2.1.answer a=true:=by
     rw [a6];unfold Pla.xV;simp [hka.1,e1,e2,e3,e4,e5,q1,q2,q3,q4,q5]
    have en2:∀ b ∈ L1,xV r.2.1.answer b=false:=fun b hb2=>by
     cases he:Pla.xV r.2.1.answer b with
     | false=>rfl
     | true=>
      rw [a6] at he;unfold Pla.xV at he;simp only [Bool.and_eq_true,decide_eq_true_eq,e1,e2,e3,e4,e5] at he;exact absurd ⟨he.2.2.1.symm.trans q1.symm,he.2.2.2.1.symm.trans q2.symm,he.2.2.2.2.1.symm.trans q3.symm,he.2.2.2.2.2.1.symm.trans q4.symm⟩ (hcl b hb2)
    rw [hsp] at hL
    refine ⟨fun k=>kP (L1++L2) k,⟨by show x.done+1<=x.ops.length;omega,hgl',L1++L2,hL.zrp en en2,fun b hb2=>hk b (by
     rw [hsp];rcases List.mem_append.1 hb2 with h | h
     ·exact List.mem_append.2 (.inl h)
     ·exact List.mem_append.2 (.inr (List.mem_cons_of_mem _ h))),.inl ⟨rfl,fun _=>rfl⟩⟩,fun k=>?_⟩
    have:=nc.mv k
    try dsimp only
    rw [jg p0,vL] at this;rw [hb k];omega
  ·rw [nc.op] at k3 k4;have p0:ph r.2.1=0:=yk hd fun h=>by rw [nc.op] at h;omega
   have hb:∀ k,o k=kP L k+jM x.m k:=by
    rcases hown with ⟨_,h⟩ | ⟨h,_⟩
    ·exact h
    ·omega
   refine ⟨fun k=>kP L k,⟨by show x.done+1<=x.ops.length;omega,hgl',L,hL.other (by have:=f.1;omega) (by have:=f.1;omega),hk,.inl ⟨rfl,fun _=>rfl⟩⟩,fun k=>?_⟩;have:=nc.mv k
   try dsimp only
   rw [jg p0,vL] at this;rw [hb k];omega
 ·rw [zsg su'.done];rcases hown with ⟨h9,hb⟩ | ⟨k2,h4,L1,a,L2,hsp,q1,q2,q3,q4,q5,hcl,hb⟩
  ·have k2:x.m.op.kind≠2:=fun k2=>by
    rcases h9 with h | h
    ·exact h k2
    ·have:=(zfK (fs k2)).2.2.2.2.2.1 h;have h2:=su'.done;rw [this.2] at h2;cases h2
   refine ⟨fun k=>kP L k+jM r.2.1 k,⟨hle,hgl,L,hL,hk,.inr ⟨rfl,⟨by rw [hat,nc.op],nc.th.trans hth,nc.tm,⟨v',g',e',su',lc'⟩,.inl ⟨.inl (by rw [nc.op];exact k2),fun _=>rfl⟩⟩⟩⟩,fun k=>?_⟩;have:=nc.mv k
   try dsimp only
   rw [hb k];omega
  ·obtain ⟨e1,e2,e3,e4,e5,e6,e7,e8⟩:=zfK (fs k2);refine ⟨fun k=>kP (L1++L2) k+jM r.2.1 k,⟨hle,hgl,L,hL,hk,.inr ⟨rfl,⟨by rw [hat,nc.op],nc.th.trans hth,nc.tm,⟨v',g',e',su',lc'⟩,.inr ⟨by rw [nc.op];exact k2,e7 h4,L1,a,L2,hsp,q1.trans e1.symm,q2.trans e2.symm,q3.trans e3.symm,q4.trans e4.symm,q5.trans e5.symm,hcl,fun _=>rfl⟩⟩⟩⟩,fun k=>?_⟩;have:=nc.mv k
   try dsimp only
   rw [hb k];omega
theorem zsl {w w':Wor} {t:Int} {x:Thr} {o p:Key->Nat} (ti:TI w t x o) (gw:jH w) (gw':jH w') (kp:jJ w w' p) (ow:∀ k,p k+o k<=Has w k):TI w' t x o:=by
 obtain ⟨hle,hgl,L,hL,hk,hon⟩:=ti;refine ⟨hle,hgl,L,hL,hk,hon.imp id fun ⟨h1,on⟩=>⟨h1,?_⟩⟩;obtain ⟨hat,hth,htm,⟨v,g,e,su,lc⟩,hown⟩:=on
 have om:∀ k,jM x.m k<=o k:=fun k=>by
  rcases hown with ⟨_,h⟩ | ⟨_,_,_,_,_,_,_,_,_,_,_,_,h⟩
  ·rw [h k];omega
  ·rw [h k];omega
 obtain ⟨v',g',e',su',lc'⟩:=zrz su lc gw gw' kp fun k=>by have:=om k;have:=ow k;omega
 exact ⟨hat,hth,htm,⟨v',g',e',su',lc'⟩,hown⟩
theorem zi3:∀ (l:List Nat) (i:Nat) {a:Nat},l[i]?= some a->a<=l.sum
 | [],i,a,h=>by simp at h
 | x::l,0,a,h=>by
  have:x=a:=by simpa using h
  rw [List.sum_cons];omega
 | x::l,i+1,a,h=>by
  have:=zi3 l i (by simpa using h);rw [List.sum_cons];omega
theorem zni:∀ (l:List Nat) (i j:Nat) {a b:Nat},i≠j->l[i]?= some a->l[j]?= some b->a+b<=l.sum
 | [],i,j,a,b,_,h,_=>by simp at h
 | x::l,0,0,a,b,h,_,_=>absurd rfl h
 | x::l,0,j+1,a,b,_,h1,h2=>by
  have:=zi3 l j tS;have:x=a:=by simpa using h1
  rw [List.sum_cons];omega
 | x::l,i+1,0,a,b,_,h1,h2=>by
  have:=zi3 l i tE;have:x=b:=by simpa using h2
  rw [List.sum_cons];omega
 | x::l,i+1,j+1,a,b,h,h1,h2=>by
  have:=zni l i j (by omega) tE tS;rw [List.sum_cons];omega
structure GI (N K:Nat) (w:Wor) (X:List Thr):Prop where
 st:St N K w
 tg:Tg N w
 len:w.pins.length=X.length
 ops:∀ x ∈ X,∀ p ∈ x.ops,zsF p
 own:∃ os:List (Key->Nat),os.length=X.length∧(∀ (i:Nat) x o,X[i]?= some x->os[i]?= some o->TI w i x o)∧∀ k,Has w k=(os.map (· k)).sum
theorem zru {N K:Nat} {w:Wor} {X:List Thr} {t:Nat} {x:Thr} {p:Opn} (gi:GI N K w X) (hx:X[t]?= some x) (hp:x.ops[x.done]?= some p) (hN:N<=100000000) (hK:K<=1099511627776):
  zW w (zga x t p)=true∧TyM (zga x t p)∧∃ r,zbf w (zga x t p)=some r∧r.2.2.access≠0∧GI (N+1) (K+1) r.1 (X.set t (xu x r.2.1)):=by
 obtain ⟨st,tg,hlen,hops,os,hol,hti,hsum⟩:=gi;have hlt:=(List.getElem?_eq_some_iff.1 hx).1;obtain ⟨o,ho⟩:∃ o,os[t]?= some o:=⟨_,List.getElem?_eq_getElem (by omega)⟩;have ti:=hti t x o hx ho;have ow:∀ k,o k<=Has w k:=fun k=>by rw [hsum k];exact zi3 _ t (by rw [List.getElem?_map,ho];rfl)
 have po:=hops x (List.mem_of_getElem? hx) p (List.mem_of_getElem? hp)
 obtain ⟨x',hx1,hx2,hx3,hx4⟩:∃ x',x'.m=zga x t p∧x'.on=true∧TI w t x' o∧∀ m,xu x' m=xu x m:=by
  cases hon:x.on with
  | true=>exact ⟨x,by unfold zga;rw [hon];rfl,hon,ti,fun _=>rfl⟩
  | false=>exact ⟨⟨x.ops,x.done,true,Beg.xY t p x.given,x.given⟩,by unfold zga;rw [hon];rfl,rfl,zny st tg (by omega) ti hon hp po hN ow,fun _=>rfl⟩
 obtain ⟨s1,s2,s3,r,s4,s5,s6,s7,s8,o',s9,s10⟩:=zsi st tg hx3 hx2 hN hK ow;rw [hx1] at s1 s2 s4;refine ⟨s1,s2,r,s4,s5,s6,s7,by have:=s8.pins;simp;omega,fun y hy q hq=>?_,os.set t o',by simp [hol],fun i y oi hy hoi=>?_,fun k=>?_⟩
 ·rcases mem_set hy with hy | rfl
  ·exact hops y hy q hq
  ·have:(xu x r.2.1).ops=x.ops:=by unfold xu;split <;> rfl
   rw [this] at hq;exact hops x (List.mem_of_getElem? hx) q hq
 ·rcases yj hy with ⟨rfl,rfl,_⟩ | ⟨hne,hy⟩
  ·rw [List.getElem?_set_self (by omega)] at hoi;cases hoi
   rw [<- hx4];exact s9
  ·rw [List.getElem?_set_ne hne] at hoi;refine zsl (hti i y oi hy hoi) st.jj s6.jj s8 fun k=>?_
   have h2:=zni (os.map (· k)) t i hne (by rw [List.getElem?_map,ho];rfl) (by rw [List.getElem?_map,hoi];rfl);have:=s3 k;rw [hsum k];dsimp only at h2 ⊢;omega
 ·have q1:=znh (fun f:Key->Nat=>f k) os t o' ho;have q2:=s10 k;have q3:=hsum k;(try dsimp only at q1)
  (try dsimp only at q3)
  (try dsimp only)
  omega
theorem zoD {l:List Str} {i:Nat} {s:Str} (h:l[i]?= some s) (hn:z7 ((l.take i).map vy) s < 0):z7 (l.map vy) s=i:=by
 have hlt:=(List.getElem?_eq_some_iff.1 h).1
 have h0:((l.take i).map vy).findIdx? (fun r=>r.name == s)=none:=by
  unfold z7 at hn;split at hn
  ·omega
  ·rename_i q;exact q
 have e:(l.map vy).findIdx? (fun r=>r.name == s)=some i:=by
  rw [List.findIdx?_eq_some_iff_getElem];refine ⟨by simpa using hlt,?_,fun j hj=>?_⟩
  ·have:=(List.getElem?_eq_some_iff.1 h).2;simp [vy,this]
  ·have q:=List.findIdx?_eq_none_iff.1 h0 (vy (l[j]'(by omega))) (List.mem_map.2 ⟨_,List.mem_take_iff_getElem.2 ⟨j,by omega,rfl⟩,rfl⟩);simpa using q
 unfold z7;rw [e]
theorem zt9 {α:Type}:∀ (T:List α),(T.map fun _=>(0:Nat)).sum=0
 | []=>rfl
 | _::T=>by rw [List.map_cons,List.sum_cons,zt9 T]
theorem zs3 {s:Sna} {l:List Str} {n:Int} {w:Wor} {N:Nat} {T:List (List Opn)} (h:zck s l n=(w,0)) (hs:wc s) (hl:l.length<=N) (hN:1<=N) (hn:∀ x ∈ l,x.length<=reachBytes) (hT:(T.length:Int)=n) (hO:∀ L ∈ T,∀ o ∈ L,zsF o):
  GI N 0 w (T.map zbi):=by
 unfold zck at h;split at h
 ·have:=congrArg Prod.snd h;exact absurd (show (1:Int)=0 from this) (by decide)
 rename_i q;have hw:=(congrArg Prod.fst h).symm;have hw:w=⟨0,0,0,List.replicate n.toNat 0,[(qI s).1],l.map vy,List.replicate n.toNat [0,0,0,0,0,0],[]⟩:=hw
 have q1:yT s=true:=by
  cases z:yT s with
  | true=>rfl
  | false=>exact absurd (.inl z) q
 have q2:1<=n:=by omega
 have q3:n<=8:=by omega
 have q4:∀ i x,l[i]?= some x->xm x=true∧z7 ((l.take i).map vy) x < 0:=fun i x hx=>by
  have z:zak l=true:=by
   cases z:zak l with
   | true=>rfl
   | false=>exact absurd (.inr (.inr (.inr z))) q
  have:=List.all_eq_true.1 z i (List.mem_range.2 (List.getElem?_eq_some_iff.1 hx).1);unfold zdX at this;rw [hx] at this;simpa using this
 subst hw;have hc:(qI s).1=⟨s,s.zl.map zaD,false⟩:=by unfold qI;rw [if_pos q1]
 have fr:∀ g ∈ (qI s).1.zm,g.zr=0∧∀ e ∈ g.ends,e.zg=0∧e.ok:=fun g hg=>by
  rw [hc] at hg;obtain ⟨x,hx,rfl⟩:=List.mem_map.1 (show g ∈ s.zl.map zaD from hg);refine ⟨rfl,fun e he=>?_⟩;rw [List.eq_of_mem_replicate (show e ∈ List.replicate x.zR.length (xj x) from he)];have f:=vw ((jk q1).all x hx);exact f.2.2
 have one:∀ v,v ∈ [(qI s).1]->v=(qI s).1:=fun v hv=>List.mem_singleton.1 hv
 have lz:∀ x ∈ l.map vy,∃ y ∈ l,x=vy y:=fun x hx=>by
  obtain ⟨y,hy,e⟩:=List.mem_map.1 hx;exact ⟨y,hy,e.symm⟩
 have fv:=zhq q1 0
 have ends:∀ i j k e,wg ⟨0,0,0,List.replicate n.toNat 0,[(qI s).1],l.map vy,List.replicate n.toNat [0,0,0,0,0,0],[]⟩ i j k=some e->e.zg=0∧∀ t,slE e t=0:=fun i j k e he=>by
  unfold wg at he;split at he
  ·obtain ⟨v,g,a1,a2,a3⟩:=zss he;have hv:=one v (List.mem_of_getElem? a1);subst hv;exact (fv g (List.mem_of_getElem? a2) e (List.mem_of_getElem? a3)).2
  ·cases he
 refine ⟨⟨⟨qb.2 ⟨?_,⟨?_,?_⟩,⟨Int.le_refl _,by show (0:Int)<=1000000000000;decide⟩,.inl rfl,?_⟩,⟨Int.le_refl _,by show (0:Int) < 1;decide⟩,(by show Go.Lim.isV []=true;rfl),(fun r hr=>nomatch hr),?_,?_⟩,⟨by show 1<=N;omega,by simpa using hl,by show 0<=N;omega,?_,?_⟩,⟨?_,?_⟩⟩,?_,?_,?_,?_⟩
 ·simp only [List.length_replicate];omega
 ·simp
 ·intro r hr;rw [List.eq_of_mem_replicate hr];rfl
 ·intro p hp;rw [List.eq_of_mem_replicate hp];exact ⟨Int.le_refl _,by show (0:Int)<=0+1;decide⟩
 ·intro i v hv;have hi:i=0:=by have:=(List.getElem?_eq_some_iff.1 hv).1;simp at this;omega
  subst hi;cases hv
  exact ⟨zfs q1,by rw [hc];rfl⟩
 ·intro i x hx;obtain ⟨y,hy,rfl⟩:=Option.map_eq_some_iff.1 ((List.getElem?_map ..).symm.trans hx);have z:=q4 i y hy;refine ⟨zc5 z.1 (Int.le_refl _) rfl,zoD hy z.2⟩
 ·intro v hv;rw [one v hv];exact ⟨by rw [hc];exact hs,fun g hg=>⟨by rw [(fr g hg).1];decide,fun e he=>((fr g hg).2 e he).2⟩⟩
 ·intro x hx;obtain ⟨y,hy,rfl⟩:=lz x hx;exact ⟨hn y hy,by show i64 0;decide⟩
 ·intro x hx;obtain ⟨y,hy,rfl⟩:=lz x hx;show (0:Int)<=_
  decide
 ·intro v hv g hg e he;rw [one v hv] at hg;rw [((fr g hg).2 e he).1]
  decide
 ·intro v hv g hg e he;rw [one v hv] at hg;exact ((fv g hg e he).1:TgE 0 e) |> fun z=>⟨by have:=z.1;omega,z.2⟩
 ·simp only [List.length_replicate,List.length_map];omega
 ·intro x hx p hp;obtain ⟨L,hL,rfl⟩:=List.mem_map.1 hx;exact hO L hL p hp
 ·refine ⟨T.map fun _=>fun _=>0,by simp,fun i x o hx ho=>?_,fun k=>?_⟩
  ·obtain ⟨L,hL,rfl⟩:=Option.map_eq_some_iff.1 ((List.getElem?_map ..).symm.trans hx);obtain ⟨_,_,rfl⟩:=Option.map_eq_some_iff.1 ((List.getElem?_map ..).symm.trans ho);exact ⟨Nat.zero_le _,rfl,[],zrR,⟨fun a ha=>(by cases ha),.inl ⟨rfl,fun _=>rfl⟩⟩⟩
  ·have z:((T.map fun _=>fun (_:Key)=>0).map (· k)).sum=0:=by
    rw [List.map_map];exact zt9 T
   rw [z];cases k with
   | slot i j k s'=>
    simp only [Has];split
    ·rename_i e he;exact (ends i j k e he).2 s'
    ·rfl
   | act i j k=>
    simp only [Has];split
    ·rename_i e he;rw [(ends i j k e he).1];rfl
    ·rfl
   | lis i=>
    simp only [Has];split
    ·split
     ·rename_i x hx;obtain ⟨y,_,rfl⟩:=lz x (List.mem_of_getElem? hx)
      rfl
     ·rfl
    ·rfl
   | ver i=>
    simp only [Has];rw [if_neg];rintro ⟨h1,h2,h3,_⟩;have h2:i < 1:=h2;exact h3 (by show i=0;omega)
   | lock=>rfl
abbrev Pst:=Wor × List Thr × List Eve
def zky (e:Eve) (x:Thr):Eve:={ e with op:=x.done,ym:=!x.on }
def goT (s:Pst) (t:Nat):Pst:=match s.2.1[t]? with
 | some x=>match x.ops[x.done]? with
  | some o=>match zbf s.1 (zga x t o) with
   | some r=>(r.1,s.2.1.set t (xu x r.2.1),s.2.2++[zky r.2.2 x])
   | none=>s
  | none=>s
 | none=>s
def vE (s:Pst) (p:Int):Pst:=match (qx s.2.1 s.2.1.length)[(p % (qx s.2.1 s.2.1.length).length).toNat]? with
 | some t=>goT s t
 | none=>s
theorem zbq {X:List Thr}:∀ {k t:Nat},t ∈ qx X k↔t < k∧∃ x,X[t]?= some x∧x.done < x.ops.length
 | 0,t=>by simp [qx]
 | k+1,t=>by
  unfold qx;cases hx:X[k]? with
  | none=>
   dsimp only;rw [zbq];constructor
   ·rintro ⟨h,q⟩;exact ⟨by omega,q⟩
   ·rintro ⟨h,x,hx2,q⟩;refine ⟨?_,x,hx2,q⟩;rcases Nat.lt_or_ge t k with h | h
    ·exact h
    ·have:t=k:=by omega
     subst this;rw [hx] at hx2;cases hx2
  | some y=>
   dsimp only;split
   ·rename_i hd;rw [zbq];constructor
    ·rintro ⟨h,q⟩;exact ⟨by omega,q⟩
    ·rintro ⟨h,x,hx2,q⟩;refine ⟨?_,x,hx2,q⟩;rcases Nat.lt_or_ge t k with h | h
     ·exact h
     ·have:t=k:=by omega
      subst this;rw [hx] at hx2;cases hx2
      omega
   ·rename_i hd;rw [List.mem_append,zbq,List.mem_singleton];constructor
    ·rintro (⟨h,q⟩ | rfl)
     ·exact ⟨by omega,q⟩
     ·exact ⟨by omega,y,hx,by omega⟩
    ·rintro ⟨h,x,hx2,q⟩;rcases Nat.lt_or_ge t k with h | h
     ·exact .inl ⟨h,x,hx2,q⟩
     ·exact .inr (by omega)
theorem zam {N K:Nat} {s:Pst} (gi:GI N K s.1 s.2.1) (p:Int) (hN:N<=100000000) (hK:K<=1099511627776):
  (qx s.2.1 s.2.1.length=[]∧vE s p=s)∨∃ t x o r,(qx s.2.1 s.2.1.length)[(p % (qx s.2.1 s.2.1.length).length).toNat]?= some t∧s.2.1[t]?= some x∧x.ops[x.done]?= some o∧zW s.1 (zga x t o)=true∧TyM (zga x t o)∧zbf s.1 (zga x t o)=some r∧r.2.2.access≠0∧
   vE s p=(r.1,s.2.1.set t (xu x r.2.1),s.2.2++[zky r.2.2 x])∧GI (N+1) (K+1) r.1 (s.2.1.set t (xu x r.2.1)):=by
 by_cases ha:qx s.2.1 s.2.1.length=[]
 ·refine .inl ⟨ha,?_⟩;unfold vE;rw [ha]
  rfl
 ·right
  have hl:0 < (qx s.2.1 s.2.1.length).length:=List.length_pos_iff.2 ha;have b0:=Int.emod_nonneg p (show ((qx s.2.1 s.2.1.length).length:Int)≠0 by omega);have b1:=Int.emod_lt_of_pos p (show (0:Int) < (qx s.2.1 s.2.1.length).length by omega);obtain ⟨t,ht⟩:∃ t,(qx s.2.1 s.2.1.length)[(p % (qx s.2.1 s.2.1.length).length).toNat]?= some t:=⟨_,List.getElem?_eq_getElem (by omega)⟩;obtain ⟨_,x,hx,hd⟩:=zbq.1 (List.mem_of_getElem? ht);obtain ⟨o,ho⟩:∃ o,x.ops[x.done]?= some o:=⟨_,List.getElem?_eq_getElem hd⟩;obtain ⟨h1,h2,r,h3,h4,h5⟩:=zru gi hx ho hN hK;refine ⟨t,x,o,r,ht,hx,ho,h1,h2,h3,h4,?_,h5⟩;unfold vE goT;rw [ht];dsimp only;rw [hx];dsimp only;rw [ho];dsimp only;rw [h3]
theorem GI.mono {N K N' K':Nat} {w:Wor} {X:List Thr} (h:GI N K w X) (hN:N<=N') (hK:K<=K'):GI N' K' w X:=⟨h.st.mono hN hK,h.tg.mono hN,h.len,h.ops,h.own⟩
theorem zr5 {N K:Nat} {s:Pst} (gi:GI N K s.1 s.2.1) (p:Int) (hN:N<=100000000) (hK:K<=1099511627776):GI (N+1) (K+1) (vE s p).1 (vE s p).2.1:=by
 rcases zam gi p hN hK with ⟨_,h⟩ | ⟨t,x,o,r,_,_,_,_,_,_,_,h,h2⟩
 ·rw [h];exact gi.mono (by omega) (by omega)
 ·rw [h];exact h2
def atP (s:Pst) (l:List Int) (k:Nat):Pst:=(l.take k).foldl vE s
theorem zcF {s:Pst} {l:List Int} {k:Nat} {p:Int} (h:l[k]?= some p):atP s l (k+1)=vE (atP s l k) p:=by
 unfold atP;obtain ⟨h1,h2⟩:=List.getElem?_eq_some_iff.1 h;rw [List.take_succ_eq_append_getElem h1,List.foldl_append,h2]
 rfl
theorem zkP {N K:Nat} {s:Pst} (gi:GI N K s.1 s.2.1) (l:List Int):∀ k,k<=l.length->N+k<=100000000->K+k<=1099511627776->GI (N+k) (K+k) (atP s l k).1 (atP s l k).2.1
 | 0,_,_,_=>gi
 | k+1,hk,hN,hK=>by
  have ih:=zkP gi l k (by omega) (by omega) (by omega);rw [zcF (List.getElem?_eq_getElem (by omega))];exact zr5 ih _ (by omega) (by omega)
theorem znM {l:List Int}:∀ {s:Pst},qx s.2.1 s.2.1.length=[]->l.foldl vE s=s:=by
 induction l with
 | nil=>intro s _;rfl
 | cons p l ih=>
  intro s h;have:vE s p=s:=by unfold vE;rw [h];rfl
  rw [List.foldl_cons,this];exact ih h
end Go.Wor
