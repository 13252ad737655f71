import Derived.Test.YtoeaoedlpmohoaaGreatT3
import Derived.Test.YtoeaoedlpmohoaaGreatT1
import Derived.Test.YtoeaoedlpmohoaaGreatT2
set_option linter.all false
set_option maxRecDepth 100000
set_option maxHeartbeats 4000000
namespace Go.Wor
open Go.Ab Go.Proofs Tryz Go.Gat Go.Nam Go.Hos Go.Con Go.Sna
open Go.Hy hiding encI
section
variable {N K:Nat} {w:Wor} {m:fi} {v:fp} {g:Gr} {e:En}
def M6(hat:ic w m v g e)(ow:∀x,j3 m x<=Has w x){p:Nat}(h:ph m=p)(hp:p=2\/p=3):0<=m.slot/\m.slot<e.next.length/\m.slot∉(Slp.qh e).1:=by
 have:=D5 ow h (.slot m.version m.zg m.end_ m.slot) (by simp[qg,hp]);rw[Iv hat]at this;unfold iM at this;split at this
 ·assumption
 ·omega
def W9(hat:ic w m v g e)(ow:∀x,j3 m x<=Has w x){p:Nat}(h:ph m=p)(hp:p=3\/p=4):1<=e.zi:=by
 have:=D5 ow h (.act m.version m.zg m.end_) (by simp[qg,hp]);rw[F4 hat]at this;omega
def UZ(st:St N K w)(tg:Tg N w)(su:qS w m v g e)(tm:iq m)(lo:G5 w m v g e)(hk:m.op.kind=2)(hN:N<=100000000)(hK:K<=1099511627776)(ow:∀x,j3 m x<=Has w x):∃r,j9 w m v g e=some r/\Nc N K w m G5 Ky r:=by
 obtain⟨f1,f2,f3,f4,f5,f6,f7⟩:=kj st su;have st1:St (N+1) (K+1) w:=st.mono aw aw;have tg1:=tg.mono (pW N);have te:=Dm tg su.at_;have hs:=TO f1 f2;have pc:=lo.pc;unfold j9;rcases(by omega:m.pc=0\/m.pc=1\/m.pc=2\/m.pc=3\/m.pc=4\/m.pc=9) with p|p|p|p|p|p
 ·have l0:=lo.fC aw;rw[gh p];exact zS J ⟨uX,st1,tg1,⟨tm.listen,f6.1,tm.link,tm.host,tm.path,tm.d0,tm.d1,tm.cfg,tm.mM⟩,rfl,rfl,xb.refl w _,qq w (Dc (p:=3) (iT su.done hk uM) (iT su.done hk uM) J J J J J),.inr ⟨v,g,e,uQ,⟨uL,λ_=>l0,λ_=>⟨gL _,hs⟩,uK⟩⟩⟩
 ·have l0:=lo.fC aw;have lt:=lo.tag (.inl p);obtain⟨h0,h1,h2⟩:=M6 su.at_ ow (p:=3) (iT su.done hk uM) (.inr J);have hw: -1<=zB m.word:=by show -1<=m.word%4294967296-1;omega
  obtain⟨b1,b2⟩:=Slp.VL (v:=zB m.word) f1 h0 h2;have hlen:(vQ m e).next.length=e.next.length:=pU
  have hok:(vQ m e).ok:=⟨f6.1,⟨λx hx=>by
   rcases mem_set hx with hx|rfl
   ·exact f6.2.1.1 x hx
   ·unfold i64;omega,by rw[hlen];exact f6.2.1.2⟩,f6.2.2⟩
  have st2:=st1.mG su.at_ (e':=qs (vQ m e) e.head e.zi) (tk:=g.zu) b2 hlen hok f7 aN;rw[dZ aw,gh p]
  exact zS J ⟨tN,st2,C2 tg1 su.at_ (e':=qs (vQ m e) e.head e.zi) ⟨by have:=te.1;show mF e<=_;omega,λx hx=>by
    rcases mem_set hx with hx|rfl
    ·exact te.2 x hx
    ·exact⟨hw,lt.2⟩⟩,uO,rfl,rfl,wO su.at_ (e':=qs (vQ m e) e.head e.zi) ⟨hlen,gL _,λ_=>J,λs s0 hso=>by
    show(e.next.set m.slot.toNat _)[s.toNat]?=_;rw[gW];intro hc;have hc:s=m.slot:=aw
    rw[hc,jb (p:=3) (iT su.done hk uM)]at hso;simp[qg]at hso⟩,Oz su.at_ (e':=qs (vQ m e) e.head e.zi) hlen (by rw[show Slp.qh (qs (vQ m e) e.head e.zi)=Slp.qh e from b1]) J (Dc (p:=3) (iT su.done hk uM) (iT su.done hk uM) J J J J J),
   .inr ⟨_,_,_,DJ (e':=qs (vQ m e) e.head e.zi) (m':={m with pc:=2}) su hlen st2.ji J su.done J J J J J J J J,⟨uL,λ_=>l0,λ_=>lt,λ_=>by
    show(e.next.set m.slot.toNat _)[m.slot.toNat]?=_;rw[gk aw]⟩⟩⟩
 ·have l0:=lo.fC aw;obtain⟨h0,h1,h2⟩:=M6 su.at_ ow (p:=3) (iT su.done hk uM) (.inr J);rw[dZ aw,dZ aw,gh p];by_cases q:e.head=m.word
  ·rw[gh q];have hx:=lo.next p;have hh:zB m.word=Slp.zB e:=by rw[<-q];rfl
   rw[hh]at hx;obtain⟨c1,c2,c3⟩:=WZ f6 f1 h0 h1 h2;rw[yy _ _ hx,q]at c1 c2 c3;have nt:=NC (i:=m.slot) te.1 f6.1 hN aw aw;rw[q]at nt;have st2:=st1.mG su.at_ (e':=qs e (Slp.ja m.word m.slot) e.zi) (tk:=g.zu) c1 J c2 f7 aN;have ta:mF (qs e (Slp.ja m.word m.slot) e.zi)=mF e+1:=by unfold mF;rw[q];exact nt
   exact zS J ⟨aO,st2,C2 tg1 su.at_ (e':=qs e (Slp.ja m.word m.slot) e.zi) ⟨by have:=te.1;omega,te.2⟩,uO,rfl,rfl,wO su.at_ (e':=qs e (Slp.ja m.word m.slot) e.zi) ⟨rfl,aw,λh=>by omega,λ_ _ _=>J⟩,
    Ad (p:=3) (p':=4) (iT su.done hk uM) (iT su.done hk uM) (ZR su.at_ (e':=qs e (Slp.ja m.word m.slot) e.zi) J h0 h1 c3 h2 J m.listen),.inr ⟨_,_,_,DJ (e':=qs e (Slp.ja m.word m.slot) e.zi) (m':={m with pc:=3}) su J st2.ji J su.done J J J J J J J J,
    ⟨uL,λ_=>l0,uK,uK⟩⟩⟩
  ·rw[dZ q];exact zS J ⟨aP,st1,tg1,uO,rfl,rfl,xb.refl w _,qq w (Dc (p:=3) (iT su.done hk uM) (iT su.done hk uM) J J J J J),.inr ⟨v,g,e,uQ,⟨uL,λ_=>l0,uK,uK⟩⟩⟩
 ·have l0:=lo.fC aw;have a1:=W9 su.at_ ow (p:=4) (iT su.done hk uM) (.inr J);have hw:IntKind.i64.wrap (e.zi-1)=e.zi-1:=jx aw aw;have st2:=st1.mG su.at_ (e':=qs e e.head (e.zi-1)) (tk:=g.zu) (O5 f1 _ aw) J ⟨f6.1,f6.2.1,by show i64 (e.zi-1);unfold i64;omega⟩ f7 (by show e.zi-1<=_;omega);rw[dZ aw,dZ aw,dZ aw,gh p,hw]
  exact zS J ⟨tL,st2,C2 tg1 su.at_ (e':=qs e e.head (e.zi-1)) (show Bx (N+1) e from Dm tg1 su.at_),uO,rfl,rfl,wO su.at_ (e':=qs e e.head (e.zi-1)) ⟨rfl,gL _,λ_=>J,λ_ _ _=>J⟩,
   Ad (p:=4) (p':=1) (iT su.done hk uM) (iT su.done hk uM) (ZO su.at_ (e':=qs e e.head (e.zi-1)) J J a1 J m.slot m.listen),.inr ⟨_,_,_,DJ (e':=qs e e.head (e.zi-1)) (m':={m with pc:=4}) su J st2.ji J su.done J J J J J J J J,
   ⟨uL,λ_=>l0,uK,uK⟩⟩⟩
 ·have l0:=lo.fC aw;have p1:ph m=1:=(iT su.done hk uM);obtain⟨_,x,hx,x1⟩:=NM ow p1 ar;have ca:=st.iJ.fC x (dY hx);have hw:IntKind.i64.wrap (x.zi-1)=x.zi-1:=jx aw aw;have st2:=Jr st su hx (x.zi-1) aw aw hK;unfold iU;rw[dZ aw,dZ aw,dZ aw,dZ aw,gh p,dZ aw,hx,gF];unfold BT;rw[hw];exact zS J ⟨tL,st2,tg1,uP,rfl,rfl,DT hx J id,Ad (p:=1) (p':=0) p1 (yV J (λh=>absurd (hk.symm.trans h.1) ar)) (NU l0 hx x1 J _ _ _ _ _ _ _ _ _),.inl ⟨rfl,.inl ⟨rfl,p⟩⟩⟩
 ·rw[dZ aw,dZ aw,dZ aw,dZ aw,dZ aw,gh p];exact zS J ⟨uX,st1,tg1,uP,rfl,rfl,xb.refl w _,qq w (k8 (iT su.done hk uM) (yV J (λh=>absurd (hk.symm.trans h.1) ar))),.inl ⟨rfl,.inr ⟨rfl,p⟩⟩⟩
def Xd(ow:∀x,j3 m x<=Has w x)(h:ph m=5):m.version≠w.current/\∀r∈w.zp,r.version≠m.version:=by
 have:=D5 ow h (.fM m.version) (by simp[qg]);simp only[Has]at this;split at this
 ·rename_i q;exact⟨q.2.2.1,q.2.2.2⟩
 ·omega
def N1(w:Wor)(n:Int){x:fp}(hx:∀g∈x.zo,∀e∈g.ends,e.zi=0/\∀s,iM e s=0)(i j k:Int):
  kR {w with current := n, zd := w.zd ++ [x]} i j k = kR w i j k \/ (kR w i j k = none /\ ∃e, kR {w with current := n, zd := w.zd ++ [x]} i j k = some e /\ e.zi = 0 /\ ∀s, iM e s = 0) := by
 unfold kR kb;dsimp only;by_cases q:0<=i/\0<=j/\0<=k
 ·rw[gh q,gh q];by_cases h:i.toNat<w.zd.length
  ·rw[gy h];exact .inl J
  ·rw[gG aw,pG (show w.zd.length<=i.toNat by omega),tq];cases hv:[x][i.toNat-w.zd.length]? with
   |none=>exact .inl J
   |some y=>
    have:y=x:=gX.1 (dY hv);subst this;rw[gT];cases hg:y.zo[j.toNat]? with
    |none=>exact .inl J
    |some g=>
     rw[gT];cases he:g.ends[k.toNat]? with
     |none=>exact .inl J
     |some e=>exact .inr ⟨rfl,e,rfl,hx g (dY hg) e (dY he)⟩
 ·rw[dZ q,dZ q];exact .inl J
def UT(gw:jK w){x:fp}(hx:∀g∈x.zo,∀e∈g.ends,e.zi=0/\∀s,iM e s=0)(a b c d l a' b' c' l':Int):Mv w {w with current:=w.zd.length,zd:=w.zd++[x]} (qg 0 d a b c l) (qg 5 w.current a' b' c' l'):=λy=>by
 have cu:=gw.current;rw[wo];cases y with
 |slot i j k s=>
  have:qg 5 w.current a' b' c' l' (.slot i j k s)=0:=by simp[qg]
  rw[this];rcases N1 w w.zd.length hx i j k with q|⟨q,e,q1,q2,q3⟩
  ·simp only[Has,q]
  ·simp only[Has,q,q1,q3]
 |act i j k=>
  have:qg 5 w.current a' b' c' l' (.act i j k)=0:=by simp[qg]
  rw[this];rcases N1 w w.zd.length hx i j k with q|⟨q,e,q1,q2,q3⟩
  ·simp only[Has,q]
  ·simp only[Has,q,q1,q2];rfl
 |fC i=>simp[Has,qg]
 |lock=>simp[Has,qg]
 |fM i=>
  have la:∀r∈w.zp,r.version≠w.current/\r.version<w.zd.length:=λr hr=>by
   obtain⟨i,hi⟩:=gE.1 hr;have:=vP gw hi;exact⟨this.2.2.2.2,this.2.2.2.1⟩
  simp only[Has,qg,uy,pj,rH];by_cases q:w.current=i
  ·rw[gh (show 0<=i/\_/\_/\_ from⟨aw,aw,aw,λr hr=>by have:=la r hr;omega⟩),dZ aw,gh q]
  ·rw[dZ q];by_cases q2:0<=i/\i<w.zd.length/\i≠w.current/\∀r∈w.zp,r.version≠i
   ·rw[gh q2,gh ⟨q2.1,aw,aw,q2.2.2.2⟩]
   ·rw[dZ q2,dZ (λz=>q2 ⟨z.1,aw,aw,z.2.2.2⟩)]
def VP{x:fH}(h0:0<=x.version/\x.version<w.zd.length)(h1:x.version≠w.current)(h2:∀r∈w.zp,r.version≠x.version)(a b c a' b' c' d' l l':Int):Mv w {w with zp:=w.zp++[x]} (qg 5 x.version a b c l) (qg 0 d' a' b' c' l'):=λy=>by
 rw[wo];cases y with
 |slot i j k s=>simp[Has,qg];rfl
 |act i j k=>simp[Has,qg];rfl
 |fC i=>simp[Has,qg]
 |lock=>simp[Has,qg]
 |fM i=>
  simp only[Has,qg,uy];by_cases q:x.version=i
  ·rw[dZ (λz=>z.2.2.2 x aj q),gh q,gh (q ▸ ⟨h0.1,h0.2,h1,h2⟩)]
  ·rw[dZ q];by_cases q2:0<=i/\i<w.zd.length/\i≠w.current/\∀r∈w.zp,r.version≠i
   ·rw[gh q2,gh ⟨q2.1,q2.2.1,q2.2.2.1,λr hr=>by
     rcases gY.1 hr with hr|hr
     ·exact q2.2.2.2 r hr
     ·rw[gX.1 hr];exact q⟩]
   ·rw[dZ q2,dZ (λz=>q2 ⟨z.1,z.2.1,z.2.2.1,λr hr=>z.2.2.2 r (gY.2 (.inl hr))⟩)]
def Y7{x:fV}(h:Gw x)(n:Nat):Bx n (xU x)/\∀s,iM (xU x) s=0:=by
 have hs:=h.x4;unfold xU;have:x.x4=1\/x.x4=2\/x.x4=3\/x.x4=4:=aw
 rcases this with e|e|e|e <;> rw[e]
 ·refine⟨⟨aQ,ar⟩,λs=>?_⟩;unfold iM;rw[dZ];rintro⟨h1,h2,h3⟩;have h2:s<1:=h2;have:s=0:=by omega
  subst this;exact dU
 ·refine⟨⟨aQ,ar⟩,λs=>?_⟩;unfold iM;rw[dZ];rintro⟨h1,h2,h3⟩;have h2:s<2:=h2;have:s=0\/s=1:=by omega
  rcases this with rfl|rfl
  ·exact dU
  ·exact dU
 ·refine⟨⟨aQ,ar⟩,λs=>?_⟩;unfold iM;rw[dZ];rintro⟨h1,h2,h3⟩;have h2:s<3:=h2;have:s=0\/s=1\/s=2:=by omega
  rcases this with rfl|rfl|rfl
  ·exact dU
  ·exact dU
  ·exact dU
 ·refine⟨⟨aQ,ar⟩,λs=>?_⟩;unfold iM;rw[dZ];rintro⟨h1,h2,h3⟩;have h2:s<4:=h2;have:s=0\/s=1\/s=2\/s=3:=by omega
  rcases this with rfl|rfl|rfl|rfl
  ·exact dU
  ·exact dU
  ·exact dU
  ·exact dU
def MY{s:Sna}(h:vU s=true)(n:Nat):∀g∈(qV s).1.zo,∀e∈g.ends,Bx n e/\e.zi=0/\∀t,iM e t=0:=λg hg e he=>by
 unfold qV at hg;rw[gh h]at hg;obtain⟨x,hx,rfl⟩:=gR.1 (show g∈s.zn.map lY from hg);rw[pB (show e∈List.replicate x.zR.length (xU x) from he)];have gc:=(j7 h).all x hx;have f:=kV gc;have q:=Y7 gc n;exact⟨q.1,f.2.2.1,q.2⟩
def X5(st:St N K w)(tg:Tg N w)(su:qS w m v g e)(tm:iq m)(lo:G6 w m v g e)(hk:m.op.kind=3)(ow:∀x,j3 m x<=Has w x):∃r,wy w m=some r/\Nc N K w m G6 BX r:=by
 have gw:=st.ji;have st1:St (N+1) (K+1) w:=st.mono aw aw;have tg1:=tg.mono (pW N);have pc:=lo.pc;have cu:=gw.current;unfold wy;rcases(by omega:m.pc=0\/m.pc=1\/m.pc=2) with p|p|p
 ·rw[gh p];by_cases q:Ag m.op.config=0
  ·rw[gh q];have hc:(jn m.op.config).1=0:=by rw[<-HF];exact q
   have st2:=st.ZA hc (tm.cfg hk);have fr:=MY (HQ hc);obtain⟨v',hv'⟩:∃v',w.zd[w.current.toNat]?=some v':=⟨_,dX aw⟩;have gv:=(gw.fM _ v' hv').1;have h0:0<v'.zo.length:=aE
   obtain⟨g',e',hg,he,l1,l2⟩:=CP gv h0
   exact zS J ⟨(by show(6:Int)≠0;decide),st2,λv2 hv g2 hg e2 he=>by
     rcases gY.1 hv with hv|hv
     ·exact tg1 v2 hv g2 hg e2 he
     ·rw[gX.1 hv]at hg;exact(fr (N+1) g2 hg e2 he).1,uO,rfl,rfl,VJ,Ad (p:=0) (p':=5) (Az su.done hk uM) (Az su.done hk uM) (UT gw (λg hg e he=>(fr 0 g hg e he).2) _ _ _ _ _ _ _ _ _),.inr ⟨v',g',e',⟨qB.2 st2.ji,su.zf,su.done,⟨cu.1,by show w.current<((w.zd++[nU m.op.config]).length:Nat);simp only[pj,rH];omega⟩,
    by show(w.zd++[nU m.op.config])[w.current.toNat]?=some v';rw[gy aw];exact hv',⟨gL _,aK⟩,hg,⟨gL _,aK⟩,he,⟨gL _,aK⟩,⟨gL _,aK⟩,su.listen,by show(0:Int)<=(w.zd.length:Nat);omega,su.k⟩,
    ⟨uL,uK⟩⟩⟩
  ·rw[dZ q];exact zS J ⟨uX,st1,tg1,uP,rfl,rfl,xb.refl w _,qq w (k8 (Az su.done hk uM) (yV J (λh=>absurd (hk.symm.trans h.1) ar))),.inl ⟨rfl,by show(7:Int)<=9/\(9:Int)<=13;decide⟩⟩
 ·have ep:=(qi.1 gw.ground).zl;rw[dZ aw,gh p];exact zS J ⟨uX,st1,tg1,uO,rfl,rfl,xb.refl w _,qq w (zyS (Az su.done hk uM) (Az su.done hk uM) J),.inr ⟨v,g,e,uQ,⟨uL,λ_=>⟨ep.1,gL _⟩⟩⟩⟩
 ·have p5:ph m=5:=(Az su.done hk uM);have vf:=Xd ow p5;have ep:=lo.ep p;have sv:=su.version
  have nl:oA w m=false:=by
   unfold oA;simp only[pQ,pC,pF,beq_eq_false_iff_ne,pK];exact⟨⟨⟨λr hr=>vf.2 r hr,vf.1⟩,aw⟩,aw⟩
  have st2:=st.zyf (x:=⟨m.version,m.zl,false⟩) sv.1 sv.2 vf.1 ep.1 ep.2 J vf.2;rw[dZ aw,dZ aw,gh p,nl];exact zS J ⟨tN,st2,tg1,uP,rfl,rfl,Yi,Ad (p:=5) (p':=0) p5 (yV J (λh=>absurd (hk.symm.trans h.1) ar)) (VP (x:=⟨m.version,m.zl,false⟩) sv vf.1 vf.2 _ _ _ _ _ _ _ _ _),.inl ⟨rfl,by show(7:Int)<=8/\(8:Int)<=13;decide⟩⟩
def WT(st:St N K w)(tg:Tg N w)(su:qS w m v g e)(tm:iq m)(lo:m.pc=0)(hk:m.op.kind=4)(hN:N<=100000000):∃r,yX w m=some r/\Nc N K w m (λ_ m _ _ _=>m.pc=0) BX r:=by
 have gw:=st.ji;have st1:St (N+1) (K+1) w:=st.mono aw aw;have tg1:=tg.mono (pW N);have pr:=Lk w.ze m.op.listen;have hl:=st.ty.fC;have p0:ph m=0:=D3 su.done aw aw aw aw;unfold yX;rw[gh lo];by_cases q:zU w.ze m.op.listen<0
 ·rw[gh q];exact zS J ⟨uX,st1,tg1,uP,rfl,rfl,xb.refl w _,qq w (k8 p0 (yV J (λh=>absurd (hk.symm.trans h.1) ar))),.inl ⟨rfl,by show(7:Int)<=7/\(7:Int)<=13;decide⟩⟩
 ·rw[dZ q];obtain⟨x,hx⟩:∃x,w.ze[(zU w.ze m.op.listen).toNat]?=some x:=⟨_,dX aw⟩;have li:=D7 (gw.fC _ x hx).1;have lk:=st.ty.na x (dY hx);have ca:=st.iJ.fC x (dY hx);rw[hx,gF];have st2:=st1.D8 hx (y:=Go.Gat.AD x) J (FL li.1 li.2.1 J) lk.2 (by show x.zi<=_;omega);exact zS J ⟨tN,st2,tg1,⟨aJ,tm.word,tm.link,tm.host,tm.path,tm.d0,tm.d1,tm.cfg,(λh=>absurd ((show m.op.kind=6 from h).symm.trans hk) ar)⟩,rfl,rfl,DT hx J (λ_=>J),Mu (y:=Go.Gat.AD x) aw hx J (k8 p0 (yV J (λh=>absurd (hk.symm.trans h.1) ar))),.inl ⟨rfl,by show(7:Int)<=10/\(10:Int)<=13;decide⟩⟩
def WU(st:St N K w)(tg:Tg N w)(su:qS w m v g e)(tm:iq m)(lo:DB w m v g e)(hk:m.op.kind=6):∃r,yF w m=some r/\Nc N K w m DB BX r:=by
 have st1:St (N+1) (K+1) w:=st.mono aw aw;have tg1:=tg.mono (pW N);have i0:=su.i;have k0:=su.k;have ik:=lo.i;have kk:=lo.k;have fj:m.i.toNat<w.counts.length:=aw
 have hl:=(qi.1 st.ji.ground).counts.2 _ (gU fj);have p0:ph m=0:=D3 su.done aw aw aw aw;unfold yF;rw[gh ⟨lo.pc,lo.k⟩,dX fj,gT,dX (show m.k.toNat<(w.counts[m.i.toNat]).length by omega),gF];generalize (w.counts[m.i.toNat])[m.k.toNat]'aw=n;by_cases h6:m.k+1=6
 ·by_cases h7:m.i+1=w.counts.length
  ·have e3:=Jc (n:=n) h6 h7
   exact zS J ⟨uX,st1,tg1,by
     show iq (ju w m n);rw[e3];exact⟨tm.listen,tm.word,tm.link,tm.host,tm.path,tm.d0,tm.d1,tm.cfg,λ_ h=>aR⟩,by show(ju w m n).op=m.op;rw[e3],by show(ju w m n).zf=m.zf;rw[e3],xb.refl w _,qq w (k8 p0 (by show ph (ju w m n)=0;rw[e3];exact yV J (λh=>absurd (hk.symm.trans h.1) ar))),.inl (by
     show(ju w m n).done=true/\BX (ju w m n);rw[e3];exact⟨rfl,by show(7:Int)<=13/\(13:Int)<=13;decide⟩)⟩
  ·have e2:=Jb (n:=n) h6 h7
   exact zS J ⟨uX,st1,tg1,by
     show iq (ju w m n);rw[e2];exact uO,by show(ju w m n).op=m.op;rw[e2],by show(ju w m n).zf=m.zf;rw[e2],xb.refl w _,qq w (k8 p0 (by show ph (ju w m n)=0;rw[e2];exact D3 su.done (by show m.op.kind≠1;omega) (by show m.op.kind≠2;omega) (by show m.op.kind≠3;omega) (by show m.op.kind≠5;omega))),.inr ⟨v,g,e,by
     show qS w (ju w m n) v g e;rw[e2];exact⟨su.world,su.zf,su.done,su.version,su.fN,su.zg,su.fG,su.end_,su.fP,su.other,su.slot,su.listen,by show 0<=m.i+1;omega,gL _⟩,by
     show DB w (ju w m n) v g e;rw[e2];exact⟨lo.pc,by show(0:Int)<6;decide,by show m.i+1<_;omega⟩⟩⟩
 ·have e1:=Ja (w:=w) (n:=n) h6 aw
  exact zS J ⟨uX,st1,tg1,by
    show iq (ju w m n);rw[e1];exact uO,by show(ju w m n).op=m.op;rw[e1],by show(ju w m n).zf=m.zf;rw[e1],xb.refl w _,qq w (k8 p0 (by show ph (ju w m n)=0;rw[e1];exact D3 su.done (by show m.op.kind≠1;omega) (by show m.op.kind≠2;omega) (by show m.op.kind≠3;omega) (by show m.op.kind≠5;omega))),.inr ⟨v,g,e,by
    show qS w (ju w m n) v g e;rw[e1];exact⟨su.world,su.zf,su.done,su.version,su.fN,su.zg,su.fG,su.end_,su.fP,su.other,su.slot,su.listen,su.i,by show 0<=m.k+1;omega⟩,by
    show DB w (ju w m n) v g e;rw[e1];exact⟨lo.pc,by show m.k+1<6;omega,lo.i⟩⟩⟩
end
def ZP{w:Wor}(h:w.lock=0)(a b c d l a' b' c' d' l':Int):Mv w {w with lock:=1} (qg 0 a b c d l) (qg 6 a' b' c' d' l'):=λy=>by
 rw[wo];cases y with
 |slot i j k s=>simp[Has,qg];rfl
 |act i j k=>simp[Has,qg];rfl
 |fC i=>simp[Has,qg]
 |fM i=>simp[Has,qg]
 |lock=>simp[Has,qg,h]
def VQ{w:Wor}(h:w.lock=1)(a b c d l a' b' c' d' l':Int):Mv w {w with lock:=0} (qg 6 a' b' c' d' l') (qg 0 a b c d l):=λy=>by
 rw[wo];cases y with
 |slot i j k s=>simp[Has,qg];rfl
 |act i j k=>simp[Has,qg];rfl
 |fC i=>simp[Has,qg]
 |fM i=>simp[Has,qg]
 |lock=>simp[Has,qg,h]
def Yn{w:Wor}{i k:Nat}{v:fp}{x:fH}{a b:Key->Nat}(hv:w.zd[k]?=some v)(hx:w.zp[i]?=some x)(h:a=b):Mv w {w with zd:=w.zd.set k (wj v),zp:=w.zp.set i (vL x)} a b:=λy=>by
 rw[h]
 have en:∀p q r,kR {w with zd:=w.zd.set k (wj v),zp:=w.zp.set i (vL x)} p q r=kR w p q r:=λp q r=>by
  unfold kR kb;dsimp only;by_cases z:k=p.toNat
  ·subst z;rw[gk (dW.1 hv).1,hv,gT,gT]
  ·rw[gW z]
 cases y with
 |slot p q r s=>simp only[Has,en]
 |act p q r=>simp only[Has,en]
 |fC p=>rfl
 |lock=>rfl
 |fM p=>
  have ml:(∀r∈w.zp.set i (vL x),r.version≠p)↔∀r∈w.zp,r.version≠p:=by
   constructor
   ·intro z r hr;obtain⟨j,hj⟩:=gE.1 hr;by_cases e:i=j
    ·subst e;rw[hx]at hj;cases hj
     exact z (vL x) (gE.2 ⟨i,gk (dW.1 hx).1⟩)
    ·exact z r (gE.2 ⟨j,by rw[gW e];exact hj⟩)
   ·intro z r hr;rcases mem_set hr with hr|rfl
    ·exact z r hr
    ·exact z x (dY hx)
  simp only[Has,pU,ml]
section
variable {N K:Nat} {w:Wor} {m:fi} {v:fp} {g:Gr} {e:En}
def Y6{i k:Nat}{x:fH}(tg:Tg N w)(hv:w.zd[k]?=some v):Tg N {w with zd:=w.zd.set k (wj v),zp:=w.zp.set i (vL x)}:=λv2 hv2 g hg e he=>by
 rcases mem_set hv2 with hv2|rfl
 ·exact tg v2 hv2 g hg e he
 ·exact tg v (dY hv) g hg e he
def VA(ow:∀x,j3 m x<=Has w x)(gw:jK w)(h:ph m=6):w.lock=1:=by
 have:=D5 ow h .lock (by simp[qg]);have l:=(qi.1 gw.ground).lock;simp only[Has]at this;omega
def Ph{m1:fi}(st:St N K w)(tg:Tg N w)(su:qS w m1 v g e)(tm:iq m1)(hk:m1.op.kind=5)(hN:N<=100000000)(hpc:m1.pc=8)(ho:m1.op=m.op)(ht:m1.zf=m.zf)(p6:ph m=6)(lk:w.lock=1):Nc N K w m ET BX (iX w m1):=by
 have st1:St (N+1) (K+1) w:=st.mono aw aw;have tg1:=tg.mono (pW N);have i0:=su.i;have hl:=st.ty.fC;unfold iX;cases hx:w.ze[m1.i.toNat]? with
 |none=>
  have st2:=st1.EV (n:=0) (.inl J);exact⟨tN,st2,tg1,⟨tm.listen,tm.word,tm.link,tm.host,tm.path,tm.d0,tm.d1,tm.cfg,λh=>absurd ((show m1.op.kind=6 from h).symm.trans hk) ar⟩,ho,ht,yj (gL _) J J J J J,Ad (p:=6) (p':=0) p6 (yV J (λh=>absurd (hk.symm.trans h.1) ar)) (VQ lk _ _ _ _ _ _ _ _ _ _),.inl ⟨rfl,by show(7:Int)<=11/\(11:Int)<=13;decide⟩⟩
 |some l=>
  have fj:=(dW.1 hx).1;have hw:IntKind.i64.wrap (m1.i+1)=m1.i+1:=jx aw aw;dsimp only;by_cases q:l.drain=true/\l.closed=false
  ·unfold BA;rw[gh q];exact⟨uX,st1,tg1,uO,ho,ht,xb.refl w _,qq w (k9 p6 (iY su.done hk uM)),.inr ⟨v,g,e,uQ,⟨uL,uK,uK,uK,λ_=>⟨l,hx,q.1⟩⟩⟩⟩
  ·unfold BA;rw[dZ q,hw];exact⟨uX,st1,tg1,uO,ho,ht,xb.refl w _,qq w (k9 p6 (iY su.done hk uM)),.inr ⟨v,g,e,⟨su.world,su.zf,su.done,su.version,su.fN,su.zg,su.fG,su.end_,su.fP,su.other,su.slot,su.listen,(by show 0<=m1.i+1;omega),su.k⟩,⟨by show _\/(8<=m1.pc/\m1.pc<=10);omega,uK,uK,uK,uK⟩⟩⟩
def Su(st:St N K w)(tg:Tg N w)(su:qS w m v g e)(tm:iq m)(lo:ET w m v g e)(hk:m.op.kind=5)(hN:N<=100000000)(ow:∀x,j3 m x<=Has w x):∃r,jY w m=some r/\Nc N K w m ET BX r:=by
 have gw:=st.ji;have st1:St (N+1) (K+1) w:=st.mono aw aw;have tg1:=tg.mono (pW N);have i0:=su.i;have k0:=su.k;have gr:=qi.1 gw.ground;have lT:=st.ty.fC;have lL:=st.ty.lim;have pc:=lo.pc;have pcs:m.pc=0\/m.pc=1\/m.pc=2\/m.pc=3\/m.pc=4\/m.pc=5\/m.pc=6\/m.pc=8\/m.pc=9\/m.pc=10:=aw
 unfold jY;by_cases p:m.pc=0
 ·rw[gh p];by_cases q:w.lock=0
  ·rw[gh q];have st2:=st1.EV (n:=1) (.inr J);exact zS J ⟨aO,st2,tg1,uO,rfl,rfl,yj (gL _) J J J J J,Ad (p:=0) (p':=6) (iY su.done hk uM) (iY su.done hk uM) (ZP q _ _ _ _ _ _ _ _ _ _),.inr ⟨v,g,e,⟨qB.2 st2.ji,su.zf,su.done,su.version,su.fN,su.zg,su.fG,su.end_,su.fP,su.other,su.slot,su.listen,su.i,su.k⟩,⟨uL,uK,uK,uK,uK⟩⟩⟩
  ·rw[dZ q];exact zS J ⟨aP,st1,tg1,uP,rfl,rfl,xb.refl w _,qq w (k8 (iY su.done hk uM) (yV J (λh=>absurd (hk.symm.trans h.1) ar))),.inl ⟨rfl,by show(7:Int)<=12/\(12:Int)<=13;decide⟩⟩
 replace pcs:=pcs.resolve_left p
 have p6:ph m=6:=(iY su.done hk uM);have lk:=VA ow gw p6;have kl:j3 m .lock=1:=by rw[jb p6];simp[qg]
 rw[dZ p];clear p
 by_cases p:m.pc=1
 ·rw[gh p];exact zS J ⟨uX,st1,tg1,uO,rfl,rfl,xb.refl w _,qq w (k9 p6 (iY su.done hk uM)),.inr ⟨v,g,e,uS,⟨uL,λ_=>by show(0:Int)<(w.pins.length:Nat);have:=gr.pins.1;omega,uK,uK,uK⟩⟩⟩
 replace pcs:=pcs.resolve_left p
 rw[dZ p];clear p
 by_cases p:m.pc=2
 ·rw[gh p];have hi:=lo.nM p;obtain⟨x,hx⟩:∃x,w.pins[m.i.toNat]?=some x:=⟨_,dX aw⟩;have hw:IntKind.i64.wrap (m.i+1)=m.i+1:=jx aw (by have:=gr.pins.2;omega);rw[hx,gF];unfold oY;rw[hw];by_cases q:x≠0/\x≠IntKind.i64.wrap (m.zl+1)
  ·rw[gh q];exact zS J ⟨uX,st1,tg1,uO,rfl,rfl,xb.refl w _,qq w (k9 p6 (iY su.done hk uM)),.inr ⟨v,g,e,uS,⟨uL,uK,uK,uK,uK⟩⟩⟩
  rw[dZ q];by_cases q2:m.i+1<w.pins.length
  ·rw[gh q2];exact zS J ⟨uX,st1,tg1,uO,rfl,rfl,xb.refl w _,qq w (k9 p6 (iY su.done hk uM)),.inr ⟨v,g,e,uR,⟨aS,λ_=>q2,uK,uK,uK⟩⟩⟩
  ·rw[dZ q2];exact dC
 replace pcs:=pcs.resolve_left p
 rw[dZ p];clear p
 by_cases p:m.pc=3
 ·rw[gh p];by_cases q:w.zl=m.zl/\w.zl<1000000000000
  ·have hw:IntKind.i64.wrap (w.zl+1)=w.zl+1:=jx (by have:=gr.zl;omega) aw;rw[gh q,hw];have st2:=st1.He (n:=w.zl+1) aw aw;exact zS J ⟨aO,st2,tg1,uO,rfl,rfl,yj (by show w.zl<=w.zl+1;omega) J J J J J,CT J J J J J (k9 p6 (iY su.done hk uM)),.inr ⟨v,g,e,⟨qB.2 st2.ji,su.zf,su.done,su.version,su.fN,su.zg,su.fG,su.end_,su.fP,su.other,su.slot,su.listen,gL _,su.k⟩,⟨uL,uK,uK,uK,uK⟩⟩⟩
  ·rw[dZ q];exact zS J ⟨aP,st1,tg1,uO,rfl,rfl,xb.refl w _,qq w (k9 p6 (iY su.done hk uM)),.inr ⟨v,g,e,uS,⟨uL,uK,uK,uK,uK⟩⟩⟩
 replace pcs:=pcs.resolve_left p
 rw[dZ p];clear p
 by_cases p:m.pc=4
 ·rw[gh p];cases hx:w.zp[m.i.toNat]? with
  |none=>exact zS J (Ph st tg (m1:=iI m 8 0) uS uO hk hN J J J p6 lk)
  |some r=>
   have fj:=(dW.1 hx).1;have hw:IntKind.i64.wrap (m.i+1)=m.i+1:=jx aw aw;have la:=vP gw hx;dsimp only;unfold Ax;rw[hw];by_cases q:r.gone=true\/Go.Lim.Af r.at_ m.zl=false
   ·rw[gh q];exact zS J ⟨uX,st1,tg1,uO,rfl,rfl,xb.refl w _,qq w (k9 p6 (iY su.done hk uM)),.inr ⟨v,g,e,uR,⟨aS,uK,uK,uK,uK⟩⟩⟩
   ·rw[dZ q];obtain⟨v',hv'⟩:∃v',w.zd[r.version.toNat]?=some v':=⟨_,dX aw⟩;have gv:=(gw.fM _ v' hv').1;have h0:0<v'.zo.length:=by have:=(j7 gv.snap).zn.1;have:=gv.len;omega
    obtain⟨g',e',hg,he,l1,l2⟩:=CP gv h0;have el:=N2 gv
    exact zS J ⟨uX,st1,tg1,uO,rfl,rfl,xb.refl w _,qq w (k9 p6 (iY su.done hk uM)),.inr ⟨v',g',e',⟨su.world,su.zf,su.done,⟨la.2.2.1,la.2.2.2.1⟩,hv',⟨gL _,aK⟩,hg,⟨gL _,aK⟩,he,⟨gL _,aK⟩,⟨gL _,aK⟩,su.listen,su.i,gL _⟩,
     ⟨uL,uK,λ_=>⟨r,hx,rfl,by cases hgo:r.gone with|false=>rfl|true=>exact absurd (.inl hgo) q⟩,λ_=>by show(0:Int)<_;omega,uK⟩⟩⟩
 replace pcs:=pcs.resolve_left p
 rw[dZ p];clear p
 by_cases p:m.pc=5
 ·rw[gh p];obtain⟨r,hr,hrv,hrg⟩:=lo.lim (.inl p);have fj:=(dW.1 hr).1;have hk2:=lo.act p;have gv:=(gw.fM _ v su.fN).1;have el:=N2 gv;have hw:IntKind.i64.wrap (m.i+1)=m.i+1:=jx aw aw;have hwk:IntKind.i64.wrap (m.k+1)=m.k+1:=jx aw aw;obtain⟨x,hx⟩:∃x,(xc v)[m.k.toNat]?=some x:=⟨_,dX aw⟩;rw[su.fN,gT,hx,gF];unfold oq;rw[hw,hwk];by_cases q:x.zi≠0
  ·rw[gh q];exact dC
  rw[dZ q];by_cases q2:m.k+1<(xc v).length
  ·rw[gh q2];exact zS J ⟨uX,st1,tg1,uO,rfl,rfl,xb.refl w _,qq w (k9 p6 (iY su.done hk uM)),.inr ⟨v,g,e,⟨su.world,su.zf,su.done,su.version,su.fN,su.zg,su.fG,su.end_,su.fP,su.other,su.slot,su.listen,su.i,(by show 0<=m.k+1;omega)⟩,⟨aS,uK,λ_=>⟨r,hr,hrv,hrg⟩,λ_=>q2,uK⟩⟩⟩
  ·rw[dZ q2];exact zS J ⟨uX,st1,tg1,uO,rfl,rfl,xb.refl w _,qq w (k9 p6 (iY su.done hk uM)),.inr ⟨v,g,e,⟨su.world,su.zf,su.done,su.version,su.fN,su.zg,su.fG,su.end_,su.fP,su.other,su.slot,su.listen,su.i,(by show 0<=m.k+1;omega)⟩,⟨uL,uK,λ_=>⟨r,hr,hrv,hrg⟩,uK,uK⟩⟩⟩
 replace pcs:=pcs.resolve_left p
 rw[dZ p];clear p
 by_cases p:m.pc=6
 ·rw[gh p];obtain⟨r,hr,hrv,hrg⟩:=lo.lim (.inr p);have fj:=(dW.1 hr).1;have hw:IntKind.i64.wrap (m.i+1)=m.i+1:=jx aw aw;have st2:=st.zW su.version.1 su.fN hr hrv;have s1:=(dW.1 su.fN).1;rw[su.fN,gT,hr,gT,gh ⟨hrv,hrg⟩];unfold DC;rw[hw]
  exact zS J ⟨tN,st2,Y6 tg1 su.fN,uP,rfl,rfl,Tu kl su.fN hr,Yn su.fN hr (k9 p6 (iY su.done hk uM)),.inr ⟨wj v,g,e,⟨qB.2 st2.ji,su.zf,su.done,aq su.version,gk s1,su.zg,su.fG,su.end_,su.fP,su.other,su.slot,su.listen,by show 0<=m.i+1;omega,su.k⟩,
   ⟨uL,uK,uK,uK,uK⟩⟩⟩
 replace pcs:=pcs.resolve_left p
 rw[dZ p];clear p
 by_cases p:m.pc=8
 ·rw[gh p];exact zS J (Ph st tg su tm hk hN p J J p6 lk)
 replace pcs:=pcs.resolve_left p
 rw[dZ p];clear p
 by_cases p:m.pc=9
 ·rw[gh p];obtain⟨l,hl,hd⟩:=lo.fC (.inl p);have fj:=(dW.1 hl).1;have hw:IntKind.i64.wrap (m.i+1)=m.i+1:=jx aw aw;rw[hl,gF,hw];by_cases q:l.zi=0
  ·rw[gh q];exact zS J ⟨uX,st1,tg1,uO,rfl,rfl,xb.refl w _,qq w (k9 p6 (iY su.done hk uM)),.inr ⟨v,g,e,uQ,⟨uL,uK,uK,uK,λ_=>⟨l,hl,hd⟩⟩⟩⟩
  ·rw[dZ q];exact dC
 rw[dZ p];have p:m.pc=10:=pcs.resolve_left p;obtain⟨l,hl,hd⟩:=lo.fC (.inr p);have fj:=(dW.1 hl).1;have hw:IntKind.i64.wrap (m.i+1)=m.i+1:=jx aw aw;have li:=D7 (gw.fC _ l hl).1;have st2:=st1.D8 hl (y:=EG l) J (FL li.1 li.2.1 (by show(l.drain || !true)=true;rw[hd];rfl)) (st.ty.na l (dY hl)).2 (by have:=st.iJ.fC l (dY hl);show l.zi<=_;omega);rw[gh p,hl,gT,gh hd,hw];exact zS J ⟨tN,st2,tg1,uO,rfl,rfl,DT hl J id,Mu (y:=EG l) i0 hl J (k9 p6 (iY su.done hk uM)),.inr ⟨v,g,e,⟨qB.2 st2.ji,su.zf,su.done,su.version,su.fN,su.zg,su.fG,su.end_,su.fP,su.other,su.slot,aq su.listen,by show 0<=m.i+1;omega,su.k⟩,⟨uL,uK,uK,uK,uK⟩⟩⟩
end
def w9{α:Type}{l l':List α}{i:Nat}{x:α}(h:l[i]?=some x)(hl:l.length<=l'.length):∃y,l'[i]?=some y:=
 ⟨_,dX (by have:=(dW.1 h).1;omega)⟩
def MW:∀{l l':List Gr},l'.length=l.length->(∀(j:Nat) g g',l[j]?=some g->l'[j]?=some g'->g'.ends.length=g.ends.length)->(l'.flatMap (·.ends)).length=(l.flatMap (·.ends)).length
 |[],[],_,_=>rfl
 |g::l,g'::l',h,hh=>by
  have ih:=MW (l:=l) (l':=l') (aq h) λj a b ha hb=>hh (j+1) a b (aq ha) (aq hb)
  have h0:=hh 0 g g' J J;simp only[rp,pj];omega
 |[],_::_,h,_=>by simp at h
 |_::_,[],h,_=>by simp at h
def Vz{e:En}(h:Slp.fE e=true)(h0:0<=Slp.zB e):Slp.zB e∈(Slp.qh e).1:=by
 have ok:=(Slp.o6 h).1;rw[Slp.B1 ok,(Slp.HR ok aw).2.2];exact pT ..
def Po(e:En)(s:Int):iM e s<=1:=by unfold iM;split <;> omega
def Yx{w w':Wor}{m:fi}{v:fp}{g:Gr}{e:En}{o:Key->Nat}(su:qS w m v g e)(lc:Lc w m v g e)(gw:jK w)(gw':jK w')(kp:xb w w' o)(ow:∀x,o x+j3 m x<=Has w x):
  ∃v' g' e',qS w' m v' g' e'/\Lc w' m v' g' e':=by
 have hv:=su.version;have hg:=su.zg;have he:=su.end_;obtain⟨v',av⟩:=w9 su.fN kp.iW;have kv:=kp.fM _ v v' su.fN av;obtain⟨g',ag⟩:=w9 su.fG (sO kv.len.symm);have kg:=kv.Aw _ g g' su.fG ag;obtain⟨e',ae⟩:=w9 su.fP (sO kg.len.symm);have ke:=kg.ends _ e e' su.fP ae;rw[rF hv.1,rF hg.1,rF he.1]at ke;have l1:=kp.iW;have l2:=kv.len;have l3:=kg.len;have l4:=ke.len;have l5:=kp.pins;have l6:=kp.fC;have su':qS w' m v' g' e':=⟨qB.2 gw',by have:=su.zf;omega,su.done,aw,av,aw,ag,aw,ae,by have:=su.other;omega,by have:=su.slot;omega,by have:=su.listen;omega,su.i,su.k⟩;refine⟨v',g',e',su',?_⟩;have isv:=(((gw.fM _ v su.fN).1.lD.2 g (dY su.fG)).2.2 e (dY su.fP)).1;have hsl:=Iv su.at_ m.slot;have s0:=su.slot;have slo:=ow (.slot m.version m.zg m.end_ m.slot);rw[hsl]at slo;have sle:=Po e m.slot;rcases lc with⟨hk,lo⟩|⟨hk,lo⟩|⟨hk,lo⟩|⟨hk,lo⟩|⟨hk,lo⟩|⟨hk,lo⟩
 ·refine .inl ⟨hk,⟨lo.pc,λh=>?_,lo.fC,lo.early,lo.BB,λh=>?_,λh=>?_,λh h2=>?_,lo.mM,lo.kind⟩⟩
  ·have:=lo.ep h;have:=kp.zl;omega
  ·obtain⟨c,h1,h2⟩:=lo.draw h;exact⟨c,by rw[kv.snap];exact h1,h2⟩
  ·have:=lo.slot h;have:=ke.tag;exact⟨(lo.slot h).1,aw⟩
  ·have q:=lo.slot (.inr h);have t1:=ke.tag;have t2:mF e'=m.word / 4294967296:=by unfold mF;rw[h2]
   have hh:=ke.head aw;have hm:e.head=m.word:=by rw[<-hh];exact h2
   have hs:Slp.zB e=m.slot:=by rw[q.1,<-hm];rfl
   have fr:=Vz isv aw
   have z:iM e m.slot=0:=by
    unfold iM;rw[dZ (λz=>z.2.2 (hs ▸ fr))]
   rw[ke.next m.slot s0.1 (by show o _=0;omega)];exact lo.link h hm
 ·refine .inr (.inl ⟨hk,⟨lo.pc,lo.fC,λh=>?_,λh=>?_⟩⟩)
  ·have:=lo.tag h;have:=ke.tag;omega
  ·have p3:ph m=3:=iT su.done hk (by rw[gh aw]);have:j3 m (.slot m.version m.zg m.end_ m.slot)=1:=by rw[jb p3];simp[qg]
   rw[ke.next m.slot s0.1 (by show o _=0;omega)];exact lo.next h
 ·refine .inr (.inr (.inl ⟨hk,⟨lo.pc,λh=>?_⟩⟩));have:=lo.ep h;have:=kp.zl;omega
 ·exact .inr (.inr (.inr (.inl ⟨hk,lo⟩)))
 ·refine .inr (.inr (.inr (.inr (.inl ⟨hk,⟨lo.pc,λh=>?_,λh=>?_,λh=>?_,λh=>?_⟩⟩))))
  ·have:=lo.nM h;omega
  ·obtain⟨r,h1,h2,h3⟩:=lo.lim h;obtain⟨r',h4⟩:=w9 h1 kp.lim;have q:=kp.zp _ r r' h1 h4;have p6:ph m=6:=iY su.done hk (by rw[gh aw]);have k1:j3 m .lock=1:=by rw[jb p6];simp[qg]
   have lk:=(qi.1 gw.ground).lock;have k2:=ow .lock;have k3:Has w .lock=w.lock.toNat:=rfl;exact⟨r',h4,by rw[q.1];exact h2,by rw[q.2.2 aw];exact h3⟩
  ·have:=lo.act h;have fl:(xc v').length=(xc v).length:=MW l2 λj a b ha hb=>(kv.Aw j a b ha hb).len
   omega
  ·obtain⟨l,h1,h2⟩:=lo.fC h;obtain⟨l',h3⟩:=w9 h1 (sO l6.symm);exact⟨l',h3,(kp.ng _ l l' h1 h3).2 h2⟩
 ·exact .inr (.inr (.inr (.inr (.inr ⟨hk,⟨lo.pc,lo.k,by have:=lo.i;have:=kp.counts;omega⟩⟩))))
def Z9{N K:Nat}{w:Wor}{m:fi}{v:fp}{g:Gr}{e:En}(st:St N K w)(tg:Tg N w)(su:qS w m v g e)(tm:iq m)(lo:Lc w m v g e)(hN:N<=100000000)(hK:K<=1099511627776)(ow:∀x,j3 m x<=Has w x):∃r,vV w m=some r/\Nc N K w m Lc G0 r:=by
 have up:∀{L:Wor->fi->fp->Gr->En->Prop} {F:fi->Prop} {r:Wor×fi×fk},Nc N K w m L F r->(∀w' m' v g e,m'.op=m.op->L w' m' v g e->Lc w' m' v g e)->(∀m',m'.op=m.op->F m'->G0 m')->Nc N K w m Lc G0 r:=λh hL hF=>
  ⟨h.ev,h.st,h.tg,h.tm,h.op,h.th,h.keep,h.mv,h.go.imp (λz=>⟨z.1,hF _ h.op z.2⟩) (λ⟨v,g,e,z1,z2⟩=>⟨v,g,e,z1,hL _ _ _ _ _ h.op z2⟩)⟩
 rw[show vV w m=if m.op.kind=1 then qj w m v g e else if m.op.kind=2 then j9 w m v g e else if m.op.kind=3 then wy w m else if m.op.kind=4 then yX w m
  else if m.op.kind=5 then jY w m else if m.op.kind=6 then yF w m else none by
   unfold vV;rw[su.fN];dsimp only;rw[su.fG];dsimp only;rw[su.fP]]
 rcases lo with⟨hk,lo⟩|⟨hk,lo⟩|⟨hk,lo⟩|⟨hk,lo⟩|⟨hk,lo⟩|⟨hk,lo⟩
 ·rw[gh hk];obtain⟨r,h1,h2⟩:=U0 st tg su tm lo hk hN hK ow;exact⟨r,h1,up h2 (λ_ m' _ _ _ ho z=>.inl ⟨aT,z⟩) λm' ho z=>.inl ⟨aT,z⟩⟩
 ·rw[dZ aw,gh hk];obtain⟨r,h1,h2⟩:=UZ st tg su tm lo hk hN hK ow;exact⟨r,h1,up h2 (λ_ m' _ _ _ ho z=>.inr (.inl ⟨aT,z⟩)) λm' ho z=>.inr (.inl ⟨aT,z⟩)⟩
 ·rw[dZ aw,dZ aw,gh hk];obtain⟨r,h1,h2⟩:=X5 st tg su tm lo hk ow;exact⟨r,h1,up h2 (λ_ m' _ _ _ ho z=>.inr (.inr (.inl ⟨aT,z⟩))) λm' ho z=>.inr (.inr ⟨aU,aU,z⟩)⟩
 ·rw[dZ aw,dZ aw,dZ aw,gh hk];obtain⟨r,h1,h2⟩:=WT st tg su tm lo hk hN;exact⟨r,h1,up h2 (λ_ m' _ _ _ ho z=>.inr (.inr (.inr (.inl ⟨aT,z⟩)))) λm' ho z=>.inr (.inr ⟨aU,aU,z⟩)⟩
 ·rw[dZ aw,dZ aw,dZ aw,dZ aw,gh hk];obtain⟨r,h1,h2⟩:=Su st tg su tm lo hk hN ow;exact⟨r,h1,up h2 (λ_ m' _ _ _ ho z=>.inr (.inr (.inr (.inr (.inl ⟨aT,z⟩))))) λm' ho z=>.inr (.inr ⟨aU,aU,z⟩)⟩
 ·rw[dZ aw,dZ aw,dZ aw,dZ aw,dZ aw,gh hk];obtain⟨r,h1,h2⟩:=WU st tg su tm lo hk;exact⟨r,h1,up h2 (λ_ m' _ _ _ ho z=>.inr (.inr (.inr (.inr (.inr ⟨aT,z⟩))))) λm' ho z=>.inr (.inr ⟨aU,aU,z⟩)⟩
end Go.Wor
namespace Go.Pla
open Go.Ab Go.Proofs Tryz Go.Hy
def wc.at_{given L1 L2:List fA}{b:fA}(h:wc given (L1++b::L2)):∃l1 i l2,qE given=l1++i::l2/\l1.map (λi=>given[i]?)=L1.map some/\given[i]?=some b/\l2.map (λi=>given[i]?)=L2.map some:=by
 unfold wc at h;rw[pE,pN]at h;obtain⟨l1,l',h1,h2,h3⟩:=List.map_eq_append_iff.1 h;obtain⟨i,l2,h4,h5,h6⟩:=List.map_eq_cons_iff.1 h3;exact⟨l1,i,l2,by rw[h1,h4],h2,h5,h6⟩
def wc.YT{given L1 L2:List fA}{b f:fA}(h:wc given (L1++b::L2))(he:wZ f b=true)(hn:∀x∈L1,wZ f x=false):wc (given++[f]) (L1++L2):=by
 have fj:∀n∈qE given,n<given.length:=vT given given.length (gC _)
 have h6:f.kind=6:=by
  unfold wZ at he;simp only[gA,gH]at he;exact he.1
 obtain⟨l1,i,l2,h1,h2,h3,h4⟩:=h.at_
 have a1:∀n∈l1,iC given f n=false:=λn hm=>by
  have:given[n]?∈l1.map (λi=>given[i]?):=gR.2 ⟨n,hm,rfl⟩;rw[h2]at this;obtain⟨x,hx,e⟩:=gR.1 this;unfold iC;rw[<-e];exact hn x hx
 have e:(qE given).findIdx? (iC given f)=some l1.length:=by
  rw[h1,tn,gS.2 a1,rI];have:iC given f i=true:=by unfold iC;rw[h3];exact he
  rw[gh this];simp
 unfold wc;rw[Ie,dZ aw,e,h1];dsimp only
 rw[List.eraseIdx_append_of_length_le (gC _),rK,List.eraseIdx_cons_zero,IP given f _ (λn hn=>fj n (by
  rw[h1];rcases gY.1 hn with hn|hn
  ·exact gY.2 (.inl hn)
  ·exact gY.2 (.inr (pP _ hn)))),pE,h2,h4,pE]
end Go.Pla
namespace Go.Beg
open Go.Ab Go.Proofs Tryz Go.Hy Go.Pla
def Y5{o:fJ}{given L:List fA}(h:wc given L)(h0:0<=o.n)(h1:o.n<L.length):∃a,L[o.n.toNat]?=some a/\B8 o given=a:=by
 obtain⟨i,a,h2,h3,h4⟩:=N8 h0 (by rw[h.len];exact h1);refine⟨a,?_,h4⟩;have:=rq (λl=>l[o.n.toNat]?) h;simp only[gf,h2,gF,h3]at this;cases hl:L[o.n.toNat]? with
 |none=>rw[hl]at this;cases this
 |some b=>rw[hl]at this;simp only[gF,gQ]at this;rw[this]
def UJ{o:fJ}{given L:List fA}(h:wc given L)(h1:¬(0<=o.n/\o.n<L.length)):B8 o given=yI:=H6 (by rw[h.len];exact h1)
end Go.Beg
namespace Go.Wor
open Go.Ab Go.Proofs Tryz Go.Gat Go.Nam Go.Hos Go.Con Go.Sna Go.Pla
open Go.Hy hiding encI
def qv(x:fB)(t:Int)(o:fJ):fi:=if x.on then x.m else Beg.xA t o x.given
def yE(L:List fA)(x:Key):Nat:=(L.map λa=>wA a x).sum
def CU(L L':List fA)(x:Key):yE (L++L') x=yE L x+yE L' x:=by unfold yE;rw[pE,sF]
def wQ(a:fA)(L:List fA)(x:Key):yE (a::L) x=wA a x+yE L x:=by unfold yE;rw[pN,ry]
def X3(a:fA)(x:Key):yE [a] x=wA a x:=by rw[wQ];rfl
structure KA(w:Wor)(t:Int)(x:fB)(m:fi)(L:List fA)(o:Key->Nat):Prop where
 at_:x.ops[x.done]?=some m.op
 th:m.zf=t
 tm:iq m
 lc:∃v g e,qS w m v g e/\Lc w m v g e
 own:(((m.op.kind≠2\/m.pc=9)/\∀k,o k=yE L k+j3 m k)\/(m.op.kind=2/\m.pc<=4/\∃L1 a L2,L=L1++a::L2/\a.version=m.version/\a.zg=m.zg/\a.end_=m.end_/\a.slot=m.slot/\a.listen=m.listen/\(∀b∈L1,¬Ci b a)/\∀k,o k=yE (L1++L2) k+j3 m k))
structure TI(w:Wor)(t:Int)(x:fB)(o:Key->Nat):Prop where
 le:x.done<=x.ops.length
 given:x.given.length=x.done
 open_ : ∃L, wc x.given L /\ (∀a∈L, a.kind = 1 /\ 0 <= a.listen) /\ ((x.on = false /\ ∀k, o k = yE L k) \/ (x.on = true /\ KA w t x x.m L o))
def D2{L:List fA}{a:fA}(h:a∈L)(k:Key):wA a k<=yE L k:=by
 obtain⟨L1,L2,rfl⟩:=List.append_of_mem h;rw[CU,wQ];omega
def OY{w:Wor}{a:fA}(h:∀k,wA a k<=Has w k):oO w a:=by
 have h1:=h (.slot a.version a.zg a.end_ a.slot);have h2:=h (.fC a.listen);have e1:wA a (.slot a.version a.zg a.end_ a.slot)=1:=by simp[wA,qg]
 have e2:wA a (.fC a.listen)=1:=by simp[wA,qg]
 rw[e1]at h1;rw[e2]at h2;simp only[Has]at h1 h2;split at h1
 ·rename_i e he;unfold kR at he;split at he
  ·rename_i q;unfold iM at h1;split at h1
   ·rename_i z;split at h2
    ·rename_i l0;split at h2
     ·rename_i l hl;have:=(dW.1 hl).1;exact⟨⟨q.1,q.2.1,q.2.2,z.1⟩,⟨l0,aw⟩,e,he,z.2⟩
     ·omega
    ·omega
   ·omega
  ·cases he
 ·omega
def Pb(w:Wor)(i j k s:Int):Has w (.slot i j k s)<=1:=by
 simp only[Has];split
 ·exact Po _ _
 ·omega
def wP{t:Int}{o:fJ}{given:List fA}(h:o.kind≠2):Beg.xA t o given=⟨o,t,0,0,0, -1,0,0,0,0,0,0,0,0,0,false,Beg.yI,vq⟩:=by
 unfold Beg.xA;rw[dZ h]
structure Kp(o:fJ):Prop where
 kind:1<=o.kind/\o.kind<=6
 host:o.host.length<1000000000000000
 path:o.path.length<1000000000000000
 d0:i64 o.d0
 d1:i64 o.d1
 cfg:o.kind=3->ye o.config
def MJ{N K:Nat}{w:Wor}{t:Int}{x:fB}{o:Key->Nat}{p:fJ}(st:St N K w)(tg:Tg N w)(ht:0<=t/\t<w.pins.length)(ti:TI w t x o)(hoff:x.on=false)(hp:x.ops[x.done]?=some p)(po:Kp p)(hN:N<=100000000)(ow:∀k,o k<=Has w k):
  TI w t ⟨x.ops,x.done,true,Beg.xA t p x.given,x.given⟩ o:=by
 obtain⟨hle,hgl,L,hL,hk,hon⟩:=ti
 have hon:∀k,o k=yE L k:=by
  rcases hon with⟨_,h⟩|⟨h,_⟩
  ·exact h
  ·rw[hoff]at h;cases h
 refine⟨hle,hgl,L,hL,hk,.inr ⟨rfl,?_⟩⟩;have pk:=po.kind;have gr:=qi.1 st.ji.ground
 have idle:∀{pc:Int} {op:fJ},op=p->(pc=0\/pc=9)->iq ⟨op,t,pc,0,0, -1,0,0,0,0,0,0,0,0,0,false,Beg.yI,vq⟩/\∃v g e,qS w ⟨op,t,pc,0,0, -1,0,0,0,0,0,0,0,0,0,false,Beg.yI,vq⟩ v g e:=λe _=>by
  subst e;exact⟨⟨(by decide:i64 (-1)),(by decide:u64 0),(by decide:(-1:Int)<=0/\(0:Int)<=2147483646),po.host,po.path,po.d0,po.d1,po.cfg,λ_ _=>J⟩,Ts st.ji ht J J J J J J J J J⟩
 by_cases k2:p.kind=2
 ·by_cases hn:0<=p.n/\p.n<L.length
  ·obtain⟨a,ha,hta⟩:=Beg.Y5 hL hn.1 hn.2;have am:=dY ha;obtain⟨ak,al⟩:=hk a am;have fa:oO w a:=OY λk=>pA (D2 am k) (by rw[<-hon k];exact ow k)
   obtain⟨⟨p1,p2,p3,p4⟩,⟨l0,l1⟩,e,hat,hs,hf⟩:=fa;obtain⟨v,g,a1,a2,a3⟩:=PF hat;have s1:=(dW.1 a1).1;have s2:=(dW.1 a2).1;have s3:=(dW.1 a3).1
   have eb:Beg.xA t p x.given=⟨p,t,0,0,a.version,a.listen,a.zg,a.end_,0,a.slot,0,0,0,0,0,false,Beg.yI,vq⟩:=by
    unfold Beg.xA;rw[gh k2,hta];unfold Beg.BF;rw[gh ak,gh ak]
   rw[eb];have lN:=st.ty.fC
   obtain⟨L1,L2,hsp,hln⟩:∃L1 L2,L=L1++a::L2/\L1.length=p.n.toNat:=⟨L.take p.n.toNat,L.drop (p.n.toNat+1),by
    have fj:=(dW.1 ha).1;have he:=(dW.1 ha).2;rw[<-he,List.getElem_cons_drop,rX],aA⟩
   have Az:ph ⟨p,t,0,0,a.version,a.listen,a.zg,a.end_,0,a.slot,0,0,0,0,0,false,Beg.yI,vq⟩=3:=iT J k2 J
   refine⟨hp,rfl,⟨by show i64 a.listen;unfold i64;omega,(by decide:u64 0),(by decide:(-1:Int)<=0/\(0:Int)<=2147483646),po.host,po.path,po.d0,po.d1,po.cfg,λ_ _=>J⟩,
    ⟨v,g,e,⟨qB.2 st.ji,ht,rfl,⟨p1,by show a.version<_;omega⟩,a1,⟨p2,by show a.zg<_;omega⟩,a2,⟨p3,by show a.end_<_;omega⟩,a3,⟨gL _,aK⟩,⟨p4,hs⟩,⟨by show -1<=a.listen;omega,l1⟩,gL _,gL _⟩,
     .inr (.inl ⟨k2,⟨.inl ⟨gL _,by show(0:Int)<=4;decide⟩,λ_=>l0,(λh=>by dsimp only at h;omega),λh=>absurd (show(0:Int)=2 from h) ar⟩⟩)⟩,
    .inr ⟨k2,by show(0:Int)<=4;decide,L1,a,L2,hsp,rfl,rfl,rfl,rfl,rfl,λb hb cl=>?_,λk=>?_⟩⟩
   ·have q1:=ow (.slot a.version a.zg a.end_ a.slot);have q2:=Pb w a.version a.zg a.end_ a.slot;have q3:=D2 hb (.slot a.version a.zg a.end_ a.slot);have e1:wA a (.slot a.version a.zg a.end_ a.slot)=1:=by simp[wA,qg]
    have e2:wA b (.slot a.version a.zg a.end_ a.slot)=1:=by simp[wA,qg,cl.1,cl.2.1,cl.2.2.1,cl.2.2.2]
    rw[hon,hsp,CU,wQ]at q1;omega
   rw[hon k,hsp,CU,CU,wQ,jb Az];show _=_+wA a k;omega
  ·have eb:Beg.xA t p x.given=⟨p,t,9,0,0, -1,0,0,0,0,0,0,0,0,0,false,Beg.yI,vq⟩:=by
    unfold Beg.xA;rw[gh k2,Beg.UJ hL hn]
    rfl
   rw[eb];obtain⟨ty,v,g,e,su⟩:=idle (pc:=9) J (.inr J);have p0:ph ⟨p,t,9,0,0, -1,0,0,0,0,0,0,0,0,0,false,Beg.yI,vq⟩=0:=iT J k2 J;exact⟨hp,rfl,ty,⟨v,g,e,su,.inr (.inl ⟨k2,⟨.inr J,λh=>absurd (show(9:Int)<=4 from h) ar,(λh=>by dsimp only at h;omega),λh=>absurd (show(9:Int)=2 from h) ar⟩⟩)⟩,.inl ⟨.inr J,λk=>by rw[hon k,jb p0,wo];rfl⟩⟩
 ·rw[wP k2];obtain⟨ty,v,g,e,su⟩:=idle (pc:=0) J (.inl J)
  have p0:ph ⟨p,t,0,0,0, -1,0,0,0,0,0,0,0,0,0,false,Beg.yI,vq⟩=0:=by
   by_cases k1:p.kind=1
   ·exact fO J k1 J
   by_cases k3:p.kind=3
   ·exact Az J k3 J
   by_cases k5:p.kind=5
   ·exact iY J k5 J
   exact D3 J k1 k2 k3 k5
  refine⟨hp,rfl,ty,⟨v,g,e,su,?_⟩,.inl ⟨.inl k2,λk=>by rw[hon k,jb p0,wo];rfl⟩⟩;rcases(by omega:p.kind=1\/p.kind=3\/p.kind=4\/p.kind=5\/p.kind=6) with k|k|k|k|k
  ·exact .inl ⟨k,⟨.inl ⟨gL _,by show(0:Int)<=12;decide⟩,(λh=>by dsimp only at h;omega),(λh=>by dsimp only at h;omega),(λh=>by dsimp only at h;omega),(λh=>by dsimp only at h;omega),λh=>absurd (show(0:Int)=6 from h) ar,(λh=>by dsimp only at h;omega),λh=>absurd (show(0:Int)=11 from h) ar,λh=>absurd (show(20:Int)<=0 from h) ar,λh=>absurd (show(0:Int)=22 from h) ar⟩⟩
  ·exact .inr (.inr (.inl ⟨k,⟨⟨gL _,by show(0:Int)<=2;decide⟩,λh=>absurd (show(0:Int)=2 from h) ar⟩⟩))
  ·exact .inr (.inr (.inr (.inl ⟨k,rfl⟩)))
  ·exact .inr (.inr (.inr (.inr (.inl ⟨k,⟨.inl ⟨gL _,by show(0:Int)<=6;decide⟩,λh=>absurd (show(0:Int)=2 from h) ar,(λh=>by dsimp only at h;omega),λh=>absurd (show(0:Int)=5 from h) ar,(λh=>by dsimp only at h;omega)⟩⟩))))
  ·exact .inr (.inr (.inr (.inr (.inr ⟨k,⟨rfl,by show(0:Int)<6;decide,by show(0:Int)<(w.counts.length:Nat);have:=gr.counts.1;have:=gr.pins.1;omega⟩⟩))))
def Ir{w:Wor}{m:fi}{v:fp}{g:Gr}{e:En}{r:Wor×fi×fk}(h:j9 w m v g e=some r):r.2.1.version=m.version/\r.2.1.zg=m.zg/\r.2.1.end_=m.end_/\r.2.1.slot=m.slot/\r.2.1.listen=m.listen/\(m.pc=9->r.2.1.pc=9/\r.2.1.done=true)/\(m.pc<=4->r.2.1.pc<=4)/\(r.2.1.done=true->m.done=false->r.2.1.pc=m.pc):=by
 have c4:∀{a b:Int},a=b->(a=9->(1:Int)=2)->b=9->False:=λh1 h2 h3=>absurd (h2 (h1.trans h3)) ar
 unfold j9 iU at h;split at h
 ·rename_i p;cases h
  exact⟨rfl,rfl,rfl,rfl,rfl,λh=>by omega,λ_=>by show(1:Int)<=4;decide,λa b=>absurd (b.symm.trans a) ar⟩
 split at h
 ·rename_i p;cases h
  exact⟨rfl,rfl,rfl,rfl,rfl,λh=>by omega,λ_=>by show(2:Int)<=4;decide,λa b=>absurd (b.symm.trans a) ar⟩
 split at h
 ·rename_i p;split at h
  ·cases h
   exact⟨rfl,rfl,rfl,rfl,rfl,λh=>by omega,λ_=>by show(3:Int)<=4;decide,λa b=>absurd (b.symm.trans a) ar⟩
  ·cases h
   exact⟨rfl,rfl,rfl,rfl,rfl,λh=>by omega,λ_=>by show(0:Int)<=4;decide,λa b=>absurd (b.symm.trans a) ar⟩
 split at h
 ·rename_i p;cases h
  exact⟨rfl,rfl,rfl,rfl,rfl,λh=>by omega,λ_=>by show(4:Int)<=4;decide,λa b=>absurd (b.symm.trans a) ar⟩
 split at h
 ·rename_i p;split at h
  ·cases h
  ·obtain⟨x,_,rfl⟩:=gM.1 h;exact⟨rfl,rfl,rfl,rfl,rfl,λh=>by omega,λh=>h,λ_ _=>J⟩
 split at h
 ·cases h
  exact⟨rfl,rfl,rfl,rfl,rfl,λh=>⟨h,rfl⟩,λh=>h,λ_ _=>J⟩
 ·cases h
def DQ{x:fB}{m:fi}(h:m.done=true):qn x m=⟨x.ops,x.done+1,false,m,x.given++[m.answer]⟩:=gh h
def xK{x:fB}{m:fi}(h:m.done=false):qn x m=⟨x.ops,x.done,true,m,x.given⟩:=dZ aH
def OG{N K:Nat}{w:Wor}{t:Int}{x:fB}{o:Key->Nat}(st:St N K w)(tg:Tg N w)(ti:TI w t x o)(hon:x.on=true)(hN:N<=100000000)(hK:K<=1099511627776)(ow:∀k,o k<=Has w k):
  qd w x.m=true/\iq x.m/\(∀k,j3 x.m k<=o k)/\∃r,vV w x.m=some r/\r.2.2.access≠0/\St (N+1) (K+1) r.1/\Tg (N+1) r.1/\xb w r.1 (j3 x.m)/\∃o',TI r.1 t (qn x r.2.1) o'/\Mv w r.1 o o':=by
 obtain⟨hle,hgl,L,hL,hk,hon'⟩:=ti
 have on:KA w t x x.m L o:=by
  rcases hon' with⟨h,_⟩|⟨_,h⟩
  ·rw[hon]at h;cases h
  ·exact h
 clear hon'
 obtain⟨hat,hth,htm,⟨v,g,e,su,lc⟩,hown⟩:=on
 have om:∀k,j3 x.m k<=o k:=λk=>by
  rcases hown with⟨_,h⟩|⟨_,_,_,_,_,_,_,_,_,_,_,_,h⟩
  ·rw[h k];omega
  ·rw[h k];omega
 have oh:∀k,j3 x.m k<=Has w k:=λk=>pA (om k) (ow k)
 obtain⟨r,h1,nc⟩:=Z9 st tg su htm lc hN hK oh;refine⟨UH su,htm,om,r,h1,nc.ev,nc.st,nc.tg,nc.keep,?_⟩;have lt:x.done<x.ops.length:=(dW.1 hat).1;have fs:x.m.op.kind=2->j9 w x.m v g e=some r:=λhk=>by rw[XW su,dZ aw,gh hk]at h1;exact h1
 rcases nc.go with⟨hd,hf⟩|⟨v',g',e',su',lc'⟩
 ·rw[DQ hd];have hgl':(x.given++[r.2.1.answer]).length=x.done+1:=by simp[hgl]
  rcases hf with⟨k1,f1,f2,f3⟩|⟨k2,f⟩|⟨k3,k4,f⟩
  ·rw[nc.op]at k1
   have hb:∀k,o k=yE L k+j3 x.m k:=by
    rcases hown with⟨_,h⟩|⟨h,_⟩
    ·exact h
    ·omega
   by_cases a1:r.2.1.answer.kind=1
   ·obtain⟨ea,el⟩:=f3 a1;have p3:ph r.2.1=3:=Nd hd (by rw[nc.op];exact k1) a1
    have eo:∀k,j3 r.2.1 k=wA r.2.1.answer k:=λk=>by
     rw[jb p3];unfold wA;rw[ea]
    refine⟨λk=>yE (L++[r.2.1.answer]) k,⟨aV,hgl',L++[r.2.1.answer],hL.zyg a1,λa ha=>?_,.inl ⟨rfl,λ_=>J⟩⟩,λk=>?_⟩
    ·rcases gY.1 ha with ha|ha
     ·exact hk a ha
     ·rw[gX.1 ha];exact⟨a1,by rw[ea];exact el⟩
    ·have:=nc.mv k;dsimp only;rw[hb k,CU,X3,<-eo k];omega
   ·have p0:ph r.2.1=0:=yV hd λh=>a1 h.2
    refine⟨λk=>yE L k,⟨aV,hgl',L,hL.other a1 aw,hk,.inl ⟨rfl,λ_=>J⟩⟩,λk=>?_⟩;have:=nc.mv k
    try dsimp only
    rw[jb p0,wo]at this;rw[hb k];omega
  ·rw[nc.op]at k2;have fsm:=Ir (fs k2);obtain⟨e1,e2,e3,e4,e5,e6,e7,e8⟩:=fsm;have p0:ph r.2.1=0:=yV hd λh=>by rw[nc.op]at h;omega
   have pc:=e8 hd su.done;rcases hown with⟨h9,hb⟩|⟨_,h4,L1,a,L2,hsp,q1,q2,q3,q4,q5,hcl,hb⟩
   ·have a7:r.2.1.answer=mj 7:=by
     rcases f with⟨_,f⟩|⟨f,_⟩
     ·omega
     ·exact f
    refine⟨λk=>yE L k,⟨aV,hgl',L,hL.other (by rw[a7];show(7:Int)≠1;decide) (by rw[a7];show(7:Int)≠6;decide),hk,.inl ⟨rfl,λ_=>J⟩⟩,λk=>?_⟩;have:=nc.mv k
    try dsimp only
    rw[jb p0,wo]at this;rw[hb k];omega
   ·have a6:r.2.1.answer=PI r.2.1:=by
     rcases f with⟨f,_⟩|⟨_,f⟩
     ·exact f
     ·omega
    have hka:=hk a (by rw[hsp];simp)
    have en:Pla.wZ r.2.1.answer a=true:=by
     rw[a6];unfold Pla.wZ;simp[hka.1,e1,e2,e3,e4,e5,q1,q2,q3,q4,q5]
    have en2:∀b∈L1,wZ r.2.1.answer b=false:=λb hb2=>by
     cases he:Pla.wZ r.2.1.answer b with
     |false=>rfl
     |true=>
      rw[a6]at he;unfold Pla.wZ at he;simp only[gA,gH,e1,e2,e3,e4,e5]at he;exact absurd ⟨he.2.2.1.symm.trans q1.symm,he.2.2.2.1.symm.trans q2.symm,he.2.2.2.2.1.symm.trans q3.symm,he.2.2.2.2.2.1.symm.trans q4.symm⟩ (hcl b hb2)
    rw[hsp]at hL
    refine⟨λk=>yE (L1++L2) k,⟨aV,hgl',L1++L2,hL.YT en en2,λb hb2=>hk b (by
     rw[hsp];rcases gY.1 hb2 with h|h
     ·exact gY.2 (.inl h)
     ·exact gY.2 (.inr (pP _ h))),.inl ⟨rfl,λ_=>J⟩⟩,λk=>?_⟩
    have:=nc.mv k
    try dsimp only
    rw[jb p0,wo]at this;rw[hb k];omega
  ·rw[nc.op]at k3 k4;have p0:ph r.2.1=0:=yV hd λh=>by rw[nc.op]at h;omega
   have hb:∀k,o k=yE L k+j3 x.m k:=by
    rcases hown with⟨_,h⟩|⟨h,_⟩
    ·exact h
    ·omega
   refine⟨λk=>yE L k,⟨aV,hgl',L,hL.other (by have:=f.1;omega) (by have:=f.1;omega),hk,.inl ⟨rfl,λ_=>J⟩⟩,λk=>?_⟩;have:=nc.mv k
   try dsimp only
   rw[jb p0,wo]at this;rw[hb k];omega
 ·rw[xK su'.done];rcases hown with⟨h9,hb⟩|⟨k2,h4,L1,a,L2,hsp,q1,q2,q3,q4,q5,hcl,hb⟩
  ·have k2:x.m.op.kind≠2:=λk2=>by
    rcases h9 with h|h
    ·exact h k2
    ·have:=(Ir (fs k2)).2.2.2.2.2.1 h;have h2:=su'.done;rw[this.2]at h2;cases h2
   refine⟨λk=>yE L k+j3 r.2.1 k,⟨hle,hgl,L,hL,hk,.inr ⟨rfl,⟨by rw[hat,nc.op],nc.th.trans hth,nc.tm,⟨v',g',e',su',lc'⟩,.inl ⟨.inl (by rw[nc.op];exact k2),λ_=>J⟩⟩⟩⟩,λk=>?_⟩;have:=nc.mv k
   try dsimp only
   rw[hb k];omega
  ·obtain⟨e1,e2,e3,e4,e5,e6,e7,e8⟩:=Ir (fs k2);refine⟨λk=>yE (L1++L2) k+j3 r.2.1 k,⟨hle,hgl,L,hL,hk,.inr ⟨rfl,⟨by rw[hat,nc.op],nc.th.trans hth,nc.tm,⟨v',g',e',su',lc'⟩,.inr ⟨by rw[nc.op];exact k2,e7 h4,L1,a,L2,hsp,q1.trans e1.symm,q2.trans e2.symm,q3.trans e3.symm,q4.trans e4.symm,q5.trans e5.symm,hcl,λ_=>J⟩⟩⟩⟩,λk=>?_⟩;have:=nc.mv k
   try dsimp only
   rw[hb k];omega
def Zm{w w':Wor}{t:Int}{x:fB}{o p:Key->Nat}(ti:TI w t x o)(gw:jK w)(gw':jK w')(kp:xb w w' p)(ow:∀k,p k+o k<=Has w k):TI w' t x o:=by
 obtain⟨hle,hgl,L,hL,hk,hon⟩:=ti;refine⟨hle,hgl,L,hL,hk,hon.imp id λ⟨h1,on⟩=>⟨h1,?_⟩⟩;obtain⟨hat,hth,htm,⟨v,g,e,su,lc⟩,hown⟩:=on
 have om:∀k,j3 x.m k<=o k:=λk=>by
  rcases hown with⟨_,h⟩|⟨_,_,_,_,_,_,_,_,_,_,_,_,h⟩
  ·rw[h k];omega
  ·rw[h k];omega
 obtain⟨v',g',e',su',lc'⟩:=Yx su lc gw gw' kp λk=>by have:=om k;have:=ow k;omega
 exact⟨hat,hth,htm,⟨v',g',e',su',lc'⟩,hown⟩
def C4:∀(l:List Nat) (i:Nat) {a:Nat},l[i]?=some a->a<=l.sum
 |[],i,a,h=>by simp at h
 |x::l,0,a,h=>by
  have:x=a:=aq h
  rw[ry];omega
 |x::l,i+1,a,h=>by
  have:=C4 l i (aq h);rw[ry];omega
def Je:∀(l:List Nat) (i j:Nat) {a b:Nat},i≠j->l[i]?=some a->l[j]?=some b->a+b<=l.sum
 |[],i,j,a,b,_,h,_=>by simp at h
 |x::l,0,0,a,b,h,_,_=>absurd J h
 |x::l,0,j+1,a,b,_,h1,h2=>by
  have:=C4 l j tT;have:x=a:=aq h1
  rw[ry];omega
 |x::l,i+1,0,a,b,_,h1,h2=>by
  have:=C4 l i tE;have:x=b:=aq h2
  rw[ry];omega
 |x::l,i+1,j+1,a,b,h,h1,h2=>by
  have:=Je l i j aw tE tT;rw[ry];omega
structure GI(N K:Nat)(w:Wor)(X:List fB):Prop where
 st:St N K w
 tg:Tg N w
 len:w.pins.length=X.length
 ops:∀x∈X,∀p∈x.ops,Kp p
 own:∃os:List (Key->Nat),os.length=X.length/\(∀(i:Nat) x o,X[i]?=some x->os[i]?=some o->TI w i x o)/\∀k,Has w k=(os.map (· k)).sum
def Y0{N K:Nat}{w:Wor}{X:List fB}{t:Nat}{x:fB}{p:fJ}(gi:GI N K w X)(hx:X[t]?=some x)(hp:x.ops[x.done]?=some p)(hN:N<=100000000)(hK:K<=1099511627776):
  qd w (qv x t p)=true/\iq (qv x t p)/\∃r,vV w (qv x t p)=some r/\r.2.2.access≠0/\GI (N+1) (K+1) r.1 (X.set t (qn x r.2.1)):=by
 obtain⟨st,tg,hlen,hops,os,hol,hti,hsum⟩:=gi;have fj:=(dW.1 hx).1;obtain⟨o,ho⟩:∃o,os[t]?=some o:=⟨_,dX aw⟩;have ti:=hti t x o hx ho;have ow:∀k,o k<=Has w k:=λk=>by rw[hsum k];exact C4 _ t (by rw[gf,ho];rfl)
 have po:=hops x (dY hx) p (dY hp)
 obtain⟨x',hx1,hx2,hx3,hx4⟩:∃x',x'.m=qv x t p/\x'.on=true/\TI w t x' o/\∀m,qn x' m=qn x m:=by
  cases hon:x.on with
  |true=>exact⟨x,aW,hon,ti,λ_=>J⟩
  |false=>exact⟨⟨x.ops,x.done,true,Beg.xA t p x.given,x.given⟩,aW,rfl,MJ st tg aw ti hon hp po hN ow,λ_=>J⟩
 obtain⟨s1,s2,s3,r,s4,s5,s6,s7,s8,o',s9,s10⟩:=OG st tg hx3 hx2 hN hK ow;rw[hx1]at s1 s2 s4;refine⟨s1,s2,r,s4,s5,s6,s7,by have:=s8.pins;simp;omega,λy hy q hq=>?_,os.set t o',by simp[hol],λi y oi hy hoi=>?_,λk=>?_⟩
 ·rcases mem_set hy with hy|rfl
  ·exact hops y hy q hq
  ·have:(qn x r.2.1).ops=x.ops:=by unfold qn;split <;> rfl
   rw[this]at hq;exact hops x (dY hx) q hq
 ·rcases jy hy with⟨rfl,rfl,_⟩|⟨hne,hy⟩
  ·rw[gk aw]at hoi;cases hoi
   rw[<-hx4];exact s9
  ·rw[gW hne]at hoi;refine Zm (hti i y oi hy hoi) st.ji s6.ji s8 λk=>?_
   have h2:=Je (os.map (· k)) t i hne (by rw[gf,ho];rfl) (by rw[gf,hoi];rfl);have:=s3 k;rw[hsum k];dsimp only at h2 ⊢;omega
 ·have q1:=Jd (λf:Key->Nat=>f k) os t o' ho;have q2:=s10 k;have q3:=hsum k;(try dsimp only at q1)
  (try dsimp only at q3)
  (try dsimp only)
  omega
def WV{l:List ft}{i:Nat}{s:ft}(h:l[i]?=some s)(hn:zU ((l.take i).map kX) s<0):zU (l.map kX) s=i:=by
 have fj:=(dW.1 h).1
 have h0:((l.take i).map kX).findIdx? (λr=>r.name == s)=none:=by
  unfold zU at hn;split at hn
  ·omega
  ·rename_i q;exact q
 have e:(l.map kX).findIdx? (λr=>r.name == s)=some i:=by
  rw[gK];refine⟨aq fj,?_,λj hj=>?_⟩
  ·have:=(dW.1 h).2;simp[kX,this]
  ·have q:=gS.1 h0 (kX (l[j]'aw)) (gR.2 ⟨_,List.mem_take_iff_getElem.2 ⟨j,aw,rfl⟩,rfl⟩);simpa using q
 unfold zU;rw[e]
def P3{α:Type}:∀(T:List α),(T.map λ_=>(0:Nat)).sum=0
 |[]=>rfl
 |_::T=>by rw[pN,ry,P3 T]
def zxS{s:Sna}{l:List ft}{n:Int}{w:Wor}{N:Nat}{T:List (List fJ)}(h:lx s l n=(w,0))(hs:AA s)(hl:l.length<=N)(hN:1<=N)(hn:∀x∈l,x.length<=reachBytes)(hT:(T.length:Int)=n)(hO:∀L∈T,∀o∈L,Kp o):
  GI N 0 w (T.map iV):=by
 unfold lx at h;split at h
 ·exact dz
 rename_i q;have hw:=(rq Prod.fst h).symm;have hw:w=⟨0,0,0,List.replicate n.toNat 0,[(qV s).1],l.map kX,List.replicate n.toNat [0,0,0,0,0,0],[]⟩:=hw
 have q1:vU s=true:=by
  cases z:vU s with
  |true=>rfl
  |false=>exact absurd (.inl z) q
 have q2:1<=n:=aw
 have q3:n<=8:=aw
 have q4:∀i x,l[i]?=some x->xW x=true/\zU ((l.take i).map kX) x<0:=λi x hx=>by
  have z:B3 l=true:=by
   cases z:B3 l with
   |true=>rfl
   |false=>exact absurd (.inr (.inr (.inr z))) q
  have:=gz.1 z i (p7.2 (dW.1 hx).1);unfold C6 at this;rw[hx]at this;simpa using this
 subst hw;have hc:(qV s).1=⟨s,s.zn.map lY,false⟩:=by unfold qV;rw[gh q1]
 have fr:∀g∈(qV s).1.zo,g.zu=0/\∀e∈g.ends,e.zi=0/\e.ok:=λg hg=>by
  rw[hc]at hg;obtain⟨x,hx,rfl⟩:=gR.1 (show g∈s.zn.map lY from hg);refine⟨rfl,λe he=>?_⟩;rw[pB (show e∈List.replicate x.zR.length (xU x) from he)];have f:=kV ((j7 q1).all x hx);exact f.2.2
 have one:∀v,v∈[(qV s).1]->v=(qV s).1:=λv hv=>gX.1 hv
 have lz:∀x∈l.map kX,∃y∈l,x=kX y:=λx hx=>by
  obtain⟨y,hy,e⟩:=gR.1 hx;exact⟨y,hy,e.symm⟩
 have fv:=MY q1 0
 have ends:∀i j k e,kR ⟨0,0,0,List.replicate n.toNat 0,[(qV s).1],l.map kX,List.replicate n.toNat [0,0,0,0,0,0],[]⟩ i j k=some e->e.zi=0/\∀t,iM e t=0:=λi j k e he=>by
  unfold kR at he;split at he
  ·obtain⟨v,g,a1,a2,a3⟩:=PF he;have hv:=one v (dY a1);subst hv;exact(fv g (dY a2) e (dY a3)).2
  ·cases he
 refine⟨⟨⟨qi.2 ⟨?_,⟨?_,?_⟩,⟨gL _,by show(0:Int)<=1000000000000;decide⟩,.inl J,?_⟩,⟨gL _,by show(0:Int)<1;decide⟩,(by show Go.Lim.fE []=true;rfl),(λr hr=>nomatch hr),?_,?_⟩,⟨by show 1<=N;omega,aq hl,by show 0<=N;omega,?_,?_⟩,⟨?_,?_⟩⟩,?_,?_,?_,?_⟩
 ·simp only[sP];omega
 ·simp
 ·intro r hr;rw[pB hr];rfl
 ·intro p hp;rw[pB hp];exact⟨gL _,by show(0:Int)<=0+1;decide⟩
 ·intro i v hv;have hi:i=0:=by have:=(dW.1 hv).1;exact cW
  subst hi;cases hv
  exact⟨L6 q1,by rw[hc];rfl⟩
 ·intro i x hx;obtain⟨y,hy,rfl⟩:=gM.1 ((gf ..).symm.trans hx);have z:=q4 i y hy;refine⟨FL z.1 (gL _) J,WV hy z.2⟩
 ·intro v hv;rw[one v hv];exact⟨by rw[hc];exact hs,λg hg=>⟨by rw[(fr g hg).1];decide,λe he=>((fr g hg).2 e he).2⟩⟩
 ·intro x hx;obtain⟨y,hy,rfl⟩:=lz x hx;exact⟨hn y hy,by show i64 0;decide⟩
 ·intro x hx;obtain⟨y,hy,rfl⟩:=lz x hx;show(0:Int)<=_
  decide
 ·intro v hv g hg e he;rw[one v hv]at hg;rw[((fr g hg).2 e he).1]
  decide
 ·intro v hv g hg e he;rw[one v hv]at hg;exact((fv g hg e he).1:Bx 0 e) |> λz=>⟨by have:=z.1;omega,z.2⟩
 ·simp only[sP,gu];omega
 ·intro x hx p hp;obtain⟨L,hL,rfl⟩:=gR.1 hx;exact hO L hL p hp
 ·refine⟨T.map λ_=>λ_=>0,aj,λi x o hx ho=>?_,λk=>?_⟩
  ·obtain⟨L,hL,rfl⟩:=gM.1 ((gf ..).symm.trans hx);obtain⟨_,_,rfl⟩:=gM.1 ((gf ..).symm.trans ho);exact⟨gV _,rfl,[],Z4,⟨λa ha=>(by cases ha),.inl ⟨rfl,λ_=>J⟩⟩⟩
  ·have z:((T.map λ_=>λ(_:Key)=>0).map (· k)).sum=0:=by
    rw[rA];exact P3 T
   rw[z];cases k with
   |slot i j k s'=>
    simp only[Has];split
    ·rename_i e he;exact(ends i j k e he).2 s'
    ·rfl
   |act i j k=>
    simp only[Has];split
    ·rename_i e he;rw[(ends i j k e he).1];rfl
    ·rfl
   |fC i=>
    simp only[Has];split
    ·split
     ·rename_i x hx;obtain⟨y,_,rfl⟩:=lz x (dY hx)
      rfl
     ·rfl
    ·rfl
   |fM i=>
    simp only[Has];rw[dZ];rintro⟨h1,h2,h3,_⟩;have h2:i<1:=h2;exact h3 (by show i=0;omega)
   |lock=>rfl
abbrev iu:=Wor×List fB×List fk
def nW(e:fk)(x:fB):fk:={e with op:=x.done,q8:=!x.on}
def Hk(s:iu)(t:Nat):iu:=match s.2.1[t]? with
 |some x=>match x.ops[x.done]? with
  |some o=>match vV s.1 (qv x t o) with
   |some r=>(r.1,s.2.1.set t (qn x r.2.1),s.2.2++[nW r.2.2 x])
   |none=>s
  |none=>s
 |none=>s
def yw(s:iu)(p:Int):iu:=match (qJ s.2.1 s.2.1.length)[(p%(qJ s.2.1 s.2.1.length).length).toNat]? with
 |some t=>Hk s t
 |none=>s
def Fk{X:List fB}:∀{k t:Nat},t∈qJ X k↔t<k/\∃x,X[t]?=some x/\x.done<x.ops.length
 |0,t=>by simp[qJ]
 |k+1,t=>by
  unfold qJ;cases hx:X[k]? with
  |none=>
   dsimp only;rw[Fk];constructor
   ·rintro⟨h,q⟩;exact⟨aw,q⟩
   ·rintro⟨h,x,hx2,q⟩;refine⟨?_,x,hx2,q⟩;rcases rU t k with h|h
    ·exact h
    ·have:t=k:=by omega
     subst this;rw[hx]at hx2;cases hx2
  |some y=>
   dsimp only;split
   ·rename_i hd;rw[Fk];constructor
    ·rintro⟨h,q⟩;exact⟨aw,q⟩
    ·rintro⟨h,x,hx2,q⟩;refine⟨?_,x,hx2,q⟩;rcases rU t k with h|h
     ·exact h
     ·have:t=k:=by omega
      subst this;rw[hx]at hx2;cases hx2
      omega
   ·rename_i hd;rw[gY,Fk,gX];constructor
    ·rintro(⟨h,q⟩|rfl)
     ·exact⟨aw,q⟩
     ·exact⟨aw,y,hx,aw⟩
    ·rintro⟨h,x,hx2,q⟩;rcases rU t k with h|h
     ·exact .inl ⟨h,x,hx2,q⟩
     ·exact .inr aw
def xi{N K:Nat}{s:iu}(gi:GI N K s.1 s.2.1)(p:Int)(hN:N<=100000000)(hK:K<=1099511627776):
  (qJ s.2.1 s.2.1.length=[]/\yw s p=s)\/∃t x o r,(qJ s.2.1 s.2.1.length)[(p%(qJ s.2.1 s.2.1.length).length).toNat]?=some t/\s.2.1[t]?=some x/\x.ops[x.done]?=some o/\qd s.1 (qv x t o)=true/\iq (qv x t o)/\vV s.1 (qv x t o)=some r/\r.2.2.access≠0/\
   yw s p=(r.1,s.2.1.set t (qn x r.2.1),s.2.2++[nW r.2.2 x])/\GI (N+1) (K+1) r.1 (s.2.1.set t (qn x r.2.1)):=by
 by_cases ha:qJ s.2.1 s.2.1.length=[]
 ·refine .inl ⟨ha,?_⟩;unfold yw;rw[ha]
  rfl
 ·right
  have hl:0<(qJ s.2.1 s.2.1.length).length:=r7.2 ha;have b0:=sG p (show((qJ s.2.1 s.2.1.length).length:Int)≠0 by omega);have b1:=sH p (show(0:Int)<(qJ s.2.1 s.2.1.length).length by omega);obtain⟨t,ht⟩:∃t,(qJ s.2.1 s.2.1.length)[(p%(qJ s.2.1 s.2.1.length).length).toNat]?=some t:=⟨_,dX aw⟩;obtain⟨_,x,hx,hd⟩:=Fk.1 (dY ht);obtain⟨o,ho⟩:∃o,x.ops[x.done]?=some o:=⟨_,dX hd⟩;obtain⟨h1,h2,r,h3,h4,h5⟩:=Y0 gi hx ho hN hK;refine⟨t,x,o,r,ht,hx,ho,h1,h2,h3,h4,?_,h5⟩;unfold yw Hk;rw[ht];dsimp only;rw[hx];dsimp only;rw[ho];dsimp only;rw[h3]
def GI.mono{N K N' K':Nat}{w:Wor}{X:List fB}(h:GI N K w X)(hN:N<=N')(hK:K<=K'):GI N' K' w X:=⟨h.st.mono hN hK,h.tg.mono hN,h.len,h.ops,h.own⟩
def Zx{N K:Nat}{s:iu}(gi:GI N K s.1 s.2.1)(p:Int)(hN:N<=100000000)(hK:K<=1099511627776):GI (N+1) (K+1) (yw s p).1 (yw s p).2.1:=by
 rcases xi gi p hN hK with⟨_,h⟩|⟨t,x,o,r,_,_,_,_,_,_,_,h,h2⟩
 ·rw[h];exact gi.mono aw aw
 ·rw[h];exact h2
def iv(s:iu)(l:List Int)(k:Nat):iu:=(l.take k).foldl yw s
def y8{s:iu}{l:List Int}{k:Nat}{p:Int}(h:l[k]?=some p):iv s l (k+1)=yw (iv s l k) p:=by
 unfold iv;obtain⟨h1,h2⟩:=dW.1 h;rw[pS h1,sN,h2]
 rfl
def AB{N K:Nat}{s:iu}(gi:GI N K s.1 s.2.1)(l:List Int):∀k,k<=l.length->N+k<=100000000->K+k<=1099511627776->GI (N+k) (K+k) (iv s l k).1 (iv s l k).2.1
 |0,_,_,_=>gi
 |k+1,hk,hN,hK=>by
  have ih:=AB gi l k aw aw aw;rw[y8 (dX aw)];exact Zx ih _ aw aw
def V6{l:List Int}:∀{s:iu},qJ s.2.1 s.2.1.length=[]->l.foldl yw s=s:=by
 induction l with
 |nil=>intro s _;rfl
 |cons p l ih=>
  intro s h;have:yw s p=s:=by unfold yw;rw[h];rfl
  rw[ec,this];exact ih h
end Go.Wor
