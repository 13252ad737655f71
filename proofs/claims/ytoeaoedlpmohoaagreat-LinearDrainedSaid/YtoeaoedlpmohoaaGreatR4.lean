import Derived.Test.YtoeaoedlpmohoaaGreatR3
import Derived.Test.YtoeaoedlpmohoaaGreatR1
import Derived.Test.YtoeaoedlpmohoaaGreatR2
set_option linter.all false
set_option maxRecDepth 100000
set_option maxHeartbeats 4000000
namespace Go.Wor
open Go.Ab Go.Proofs Tryz Go.Gat Go.Nam Go.Hos Go.Con Go.Sna
open Go.Hy hiding encI
section
variable {N K:Nat} {w:Wor} {m:fq} {v:fB} {g:Gr} {e:En}
def MP(hat:iz w m v g e)(ow:∀x,j6 m x<=Has w x){p:Nat}(h:ph m=p)(hp:p=2\/p=3):0<=m.slot/\m.slot<e.next.length/\m.slot∉(Slp.qF e).1:=by
 have:=D0 ow h (.slot m.version m.zg m.end_ m.slot) (by simp[qh,hp]);rw[Iu hat]at this;unfold iR at this;split at this
 ·assumption
 ·omega
def WI(hat:iz w m v g e)(ow:∀x,j6 m x<=Has w x){p:Nat}(h:ph m=p)(hp:p=3\/p=4):1<=e.zi:=by
 have:=D0 ow h (.act m.version m.zg m.end_) (by simp[qh,hp]);rw[N9 hat]at this;omega
def T7(st:St N K w)(tg:Tg N w)(su:qP w m v g e)(tm:iB m)(lo:GO w m v g e)(hk:m.op.kind=2)(hN:N<=100000000)(hK:K<=1099511627776)(ow:∀x,j6 m x<=Has w x):∃r,xv w m v g e=some r/\Nc N K w m GO J9 r:=by
 obtain⟨f1,f2,f3,f4,f5,f6,f7⟩:=vQ st su;have st1:St (N+1) (K+1) w:=st.mono aw aw;have tg1:=tg.mono (rm N);have te:=CW tg su.at_;have hs:=S8 f1 f2;have pc:=lo.pc;unfold xv;rcases(by omega:m.pc=0\/m.pc=1\/m.pc=2\/m.pc=3\/m.pc=4\/m.pc=9) with p|p|p|p|p|p
 ·have l0:=lo.fI aw;rw[gC p];exact zT rfl ⟨uX,st1,tg1,⟨tm.listen,f6.1,tm.link,tm.host,tm.path,tm.d0,tm.d1,tm.cfg,tm.mB⟩,rfl,rfl,jL.refl w _,qn w (CS (p:=3) (lH su.done hk uM) (lH su.done hk uM) rfl rfl rfl rfl rfl),.inr ⟨v,g,e,uQ,⟨uL,λ_=>l0,λ_=>⟨gY _,hs⟩,uK⟩⟩⟩
 ·have l0:=lo.fI aw;have lt:=lo.tag (.inl p);obtain⟨h0,h1,h2⟩:=MP su.at_ ow (p:=3) (lH su.done hk uM) (.inr rfl);have hw: -1<=zD m.word:=by show -1<=m.word%4294967296-1;omega
  obtain⟨b1,b2⟩:=Slp.Wf (v:=zD m.word) f1 h0 h2;have hlen:(vy m e).next.length=e.next.length:=sb
  have hok:(vy m e).ok:=⟨f6.1,⟨λx hx=>by
   rcases mem_set hx with hx|rfl
   ·exact f6.2.1.1 x hx
   ·unfold i64;omega,by rw[hlen];exact f6.2.1.2⟩,f6.2.2⟩
  have st2:=st1.ma su.at_ (e':=qA (vy m e) e.head e.zi) (tk:=g.zt) b2 hlen hok f7 aN;rw[gu aw,gC p]
  exact zT rfl ⟨tT,st2,CD tg1 su.at_ (e':=qA (vy m e) e.head e.zi) ⟨by have:=te.1;show mK e<=_;omega,λx hx=>by
    rcases mem_set hx with hx|rfl
    ·exact te.2 x hx
    ·exact⟨hw,lt.2⟩⟩,uO,rfl,rfl,wv su.at_ (e':=qA (vy m e) e.head e.zi) ⟨hlen,gY _,λ_=>rfl,λs s0 hso=>by
    show(e.next.set m.slot.toNat _)[s.toNat]?=_;rw[pq];intro hc;have hc:s=m.slot:=aw
    rw[hc,jE (p:=3) (lH su.done hk uM)]at hso;simp[qh]at hso⟩,Oh su.at_ (e':=qA (vy m e) e.head e.zi) hlen (by rw[show Slp.qF (qA (vy m e) e.head e.zi)=Slp.qF e from b1]) rfl (CS (p:=3) (lH su.done hk uM) (lH su.done hk uM) rfl rfl rfl rfl rfl),
   .inr ⟨_,_,_,wV (e':=qA (vy m e) e.head e.zi) (m':={ m with pc:=2 }) su hlen st2.jQ rfl su.done rfl rfl rfl rfl rfl rfl rfl rfl,⟨uL,λ_=>l0,λ_=>lt,λ_=>by
    show(e.next.set m.slot.toNat _)[m.slot.toNat]?=_;rw[gD aw]⟩⟩⟩
 ·have l0:=lo.fI aw;obtain⟨h0,h1,h2⟩:=MP su.at_ ow (p:=3) (lH su.done hk uM) (.inr rfl);rw[gu aw,gu aw,gC p];by_cases q:e.head=m.word
  ·rw[gC q];have hx:=lo.next p;have hh:zD m.word=Slp.zD e:=by rw[<-q];rfl
   rw[hh]at hx;obtain⟨c1,c2,c3⟩:=VV f6 f1 h0 h1 h2;rw[yn _ _ hx,q]at c1 c2 c3;have nt:=NL (i:=m.slot) te.1 f6.1 hN aw aw;rw[q]at nt;have st2:=st1.ma su.at_ (e':=qA e (Slp.je m.word m.slot) e.zi) (tk:=g.zt) c1 rfl c2 f7 aN;have ta:mK (qA e (Slp.je m.word m.slot) e.zi)=mK e+1:=by unfold mK;rw[q];exact nt
   exact zT rfl ⟨aO,st2,CD tg1 su.at_ (e':=qA e (Slp.je m.word m.slot) e.zi) ⟨by have:=te.1;omega,te.2⟩,uO,rfl,rfl,wv su.at_ (e':=qA e (Slp.je m.word m.slot) e.zi) ⟨rfl,aw,λh=>by omega,λ_ _ _=>rfl⟩,
    oL (p:=3) (p':=4) (lH su.done hk uM) (lH su.done hk uM) (XX su.at_ (e':=qA e (Slp.je m.word m.slot) e.zi) rfl h0 h1 c3 h2 rfl m.listen),.inr ⟨_,_,_,wV (e':=qA e (Slp.je m.word m.slot) e.zi) (m':={ m with pc:=3 }) su rfl st2.jQ rfl su.done rfl rfl rfl rfl rfl rfl rfl rfl,
    ⟨uL,λ_=>l0,uK,uK⟩⟩⟩
  ·rw[gu q];exact zT rfl ⟨aP,st1,tg1,uO,rfl,rfl,jL.refl w _,qn w (CS (p:=3) (lH su.done hk uM) (lH su.done hk uM) rfl rfl rfl rfl rfl),.inr ⟨v,g,e,uQ,⟨uL,λ_=>l0,uK,uK⟩⟩⟩
 ·have l0:=lo.fI aw;have a1:=WI su.at_ ow (p:=4) (lH su.done hk uM) (.inr rfl);have hw:IntKind.i64.wrap (e.zi-1)=e.zi-1:=qd aw aw;have st2:=st1.ma su.at_ (e':=qA e e.head (e.zi-1)) (tk:=g.zt) (Oc f1 _ aw) rfl ⟨f6.1,f6.2.1,by show i64 (e.zi-1);unfold i64;omega⟩ f7 (by show e.zi-1<=_;omega);rw[gu aw,gu aw,gu aw,gC p,hw]
  exact zT rfl ⟨tP,st2,CD tg1 su.at_ (e':=qA e e.head (e.zi-1)) (show AV (N+1) e from CW tg1 su.at_),uO,rfl,rfl,wv su.at_ (e':=qA e e.head (e.zi-1)) ⟨rfl,gY _,λ_=>rfl,λ_ _ _=>rfl⟩,
   oL (p:=4) (p':=1) (lH su.done hk uM) (lH su.done hk uM) (XU su.at_ (e':=qA e e.head (e.zi-1)) rfl rfl a1 rfl m.slot m.listen),.inr ⟨_,_,_,wV (e':=qA e e.head (e.zi-1)) (m':={ m with pc:=4 }) su rfl st2.jQ rfl su.done rfl rfl rfl rfl rfl rfl rfl rfl,
   ⟨uL,λ_=>l0,uK,uK⟩⟩⟩
 ·have l0:=lo.fI aw;have p1:ph m=1:=(lH su.done hk uM);obtain⟨_,x,hx,x1⟩:=M0 ow p1 ar;have ca:=st.iN.fI x (gA hx);have hw:IntKind.i64.wrap (x.zi-1)=x.zi-1:=qd aw aw;have st2:=IL st su hx (x.zi-1) aw aw hK;unfold wa;rw[gu aw,gu aw,gu aw,gu aw,gC p,gu aw,hx,gL];unfold Bn;rw[hw];exact zT rfl ⟨tP,st2,tg1,uP,rfl,rfl,DE hx rfl id,oL (p:=1) (p':=0) p1 (yK rfl (λh=>absurd (hk.symm.trans h.1) ar)) (NJ l0 hx x1 rfl _ _ _ _ _ _ _ _ _),.inl ⟨rfl,.inl ⟨rfl,p⟩⟩⟩
 ·rw[gu aw,gu aw,gu aw,gu aw,gu aw,gC p];exact zT rfl ⟨uX,st1,tg1,uP,rfl,rfl,jL.refl w _,qn w (kI (lH su.done hk uM) (yK rfl (λh=>absurd (hk.symm.trans h.1) ar))),.inl ⟨rfl,.inr ⟨rfl,p⟩⟩⟩
def WJ(ow:∀x,j6 m x<=Has w x)(h:ph m=5):m.version≠w.current/\∀r∈w.zu,r.version≠m.version:=by
 have:=D0 ow h (.fX m.version) (by simp[qh]);simp only[Has]at this;split at this
 ·rename_i q;exact⟨q.2.2.1,q.2.2.2⟩
 ·omega
def M8(w:Wor)(n:Int){x:fB}(hx:∀g∈x.zm,∀e∈g.ends,e.zi=0/\∀s,iR e s=0)(i j k:Int):
  lb { w with current := n, ze := w.ze ++ [x] } i j k = lb w i j k \/ (lb w i j k = none /\ ∃e, lb { w with current := n, ze := w.ze ++ [x] } i j k = some e /\ e.zi = 0 /\ ∀s, iR e s = 0) := by
 unfold lb wJ;dsimp only;by_cases q:0<=i/\0<=j/\0<=k
 ·rw[gC q,gC q];by_cases h:i.toNat<w.ze.length
  ·rw[gG h];exact .inl rfl
  ·rw[gO aw,p9 (show w.ze.length<=i.toNat by omega),ej];cases hv:[x][i.toNat-w.ze.length]? with
   |none=>exact .inl rfl
   |some y=>
    have:y=x:=gS.1 (gA hv);subst this;rw[pa];cases hg:y.zm[j.toNat]? with
    |none=>exact .inl rfl
    |some g=>
     rw[pa];cases he:g.ends[k.toNat]? with
     |none=>exact .inl rfl
     |some e=>exact .inr ⟨rfl,e,rfl,hx g (gA hg) e (gA he)⟩
 ·rw[gu q,gu q];exact .inl rfl
def T0(gw:jV w){x:fB}(hx:∀g∈x.zm,∀e∈g.ends,e.zi=0/\∀s,iR e s=0)(a b c d l a' b' c' l':Int):Mv w { w with current:=w.ze.length,ze:=w.ze++[x] } (qh 0 d a b c l) (qh 5 w.current a' b' c' l'):=λy=>by
 have cu:=gw.current;rw[kR];cases y with
 |slot i j k s=>
  have:qh 5 w.current a' b' c' l' (.slot i j k s)=0:=by simp[qh]
  rw[this];rcases M8 w w.ze.length hx i j k with q|⟨q,e,q1,q2,q3⟩
  ·simp only[Has,q]
  ·simp only[Has,q,q1,q3]
 |act i j k=>
  have:qh 5 w.current a' b' c' l' (.act i j k)=0:=by simp[qh]
  rw[this];rcases M8 w w.ze.length hx i j k with q|⟨q,e,q1,q2,q3⟩
  ·simp only[Has,q]
  ·simp only[Has,q,q1,q2];rfl
 |fI i=>simp[Has,qh]
 |lock=>simp[Has,qh]
 |fX i=>
  have la:∀r∈w.zu,r.version≠w.current/\r.version<w.ze.length:=λr hr=>by
   obtain⟨i,hi⟩:=gW.1 hr;have:=DG gw hi;exact⟨this.2.2.2.2,this.2.2.2.1⟩
  simp only[Has,qh,eh,gK,rX];by_cases q:w.current=i
  ·rw[gC (show 0<=i/\_/\_/\_ from⟨aw,aw,aw,λr hr=>by have:=la r hr;omega⟩),gu aw,gC q]
  ·rw[gu q];by_cases q2:0<=i/\i<w.ze.length/\i≠w.current/\∀r∈w.zu,r.version≠i
   ·rw[gC q2,gC ⟨q2.1,aw,aw,q2.2.2.2⟩]
   ·rw[gu q2,gu (λz=>q2 ⟨z.1,aw,aw,z.2.2.2⟩)]
def Wj{x:fT}(h0:0<=x.version/\x.version<w.ze.length)(h1:x.version≠w.current)(h2:∀r∈w.zu,r.version≠x.version)(a b c a' b' c' d' l l':Int):Mv w { w with zu:=w.zu++[x] } (qh 5 x.version a b c l) (qh 0 d' a' b' c' l'):=λy=>by
 rw[kR];cases y with
 |slot i j k s=>simp[Has,qh];rfl
 |act i j k=>simp[Has,qh];rfl
 |fI i=>simp[Has,qh]
 |lock=>simp[Has,qh]
 |fX i=>
  simp only[Has,qh,eh];by_cases q:x.version=i
  ·rw[gu (λz=>z.2.2.2 x aj q),gC q,gC (q ▸ ⟨h0.1,h0.2,h1,h2⟩)]
  ·rw[gu q];by_cases q2:0<=i/\i<w.ze.length/\i≠w.current/\∀r∈w.zu,r.version≠i
   ·rw[gC q2,gC ⟨q2.1,q2.2.1,q2.2.2.1,λr hr=>by
     rcases gT.1 hr with hr|hr
     ·exact q2.2.2.2 r hr
     ·rw[gS.1 hr];exact q⟩]
   ·rw[gu q2,gu (λz=>q2 ⟨z.1,z.2.1,z.2.2.1,λr hr=>z.2.2.2 r (gT.2 (.inl hr))⟩)]
def Xp{x:ic}(h:Gw x)(n:Nat):AV n (xI x)/\∀s,iR (xI x) s=0:=by
 have hs:=h.xR;unfold xI;have:x.xR=1\/x.xR=2\/x.xR=3\/x.xR=4:=aw
 rcases this with e|e|e|e <;> rw[e]
 ·refine⟨⟨aQ,ar⟩,λs=>?_⟩;unfold iR;rw[gu];rintro⟨h1,h2,h3⟩;have h2:s<1:=h2;have:s=0:=by omega
  subst this;exact gj
 ·refine⟨⟨aQ,ar⟩,λs=>?_⟩;unfold iR;rw[gu];rintro⟨h1,h2,h3⟩;have h2:s<2:=h2;have:s=0\/s=1:=by omega
  rcases this with rfl|rfl
  ·exact gj
  ·exact gj
 ·refine⟨⟨aQ,ar⟩,λs=>?_⟩;unfold iR;rw[gu];rintro⟨h1,h2,h3⟩;have h2:s<3:=h2;have:s=0\/s=1\/s=2:=by omega
  rcases this with rfl|rfl|rfl
  ·exact gj
  ·exact gj
  ·exact gj
 ·refine⟨⟨aQ,ar⟩,λs=>?_⟩;unfold iR;rw[gu];rintro⟨h1,h2,h3⟩;have h2:s<4:=h2;have:s=0\/s=1\/s=2\/s=3:=by omega
  rcases this with rfl|rfl|rfl|rfl
  ·exact gj
  ·exact gj
  ·exact gj
  ·exact gj
def MH{s:Sna}(h:vB s=true)(n:Nat):∀g∈(q8 s).1.zm,∀e∈g.ends,AV n e/\e.zi=0/\∀t,iR e t=0:=λg hg e he=>by
 unfold q8 at hg;rw[gC h]at hg;obtain⟨x,hx,rfl⟩:=pd.1 (show g∈s.zk.map l9 from hg);rw[pE (show e∈List.replicate x.zL.length (xI x) from he)];have gc:=(j3 h).all x hx;have f:=kC gc;have q:=Xp gc n;exact⟨q.1,f.2.2.1,q.2⟩
def Xr(st:St N K w)(tg:Tg N w)(su:qP w m v g e)(tm:iB m)(lo:GP w m v g e)(hk:m.op.kind=3)(ow:∀x,j6 m x<=Has w x):∃r,m9 w m=some r/\Nc N K w m GP BD r:=by
 have gw:=st.jQ;have st1:St (N+1) (K+1) w:=st.mono aw aw;have tg1:=tg.mono (rm N);have pc:=lo.pc;have cu:=gw.current;unfold m9;rcases(by omega:m.pc=0\/m.pc=1\/m.pc=2) with p|p|p
 ·rw[gC p];by_cases q:oO m.op.config=0
  ·rw[gC q];have hc:(qO m.op.config).1=0:=by rw[<-Hq];exact q
   have st2:=st.YN hc (tm.cfg hk);have fr:=MH (HG hc);obtain⟨v',hv'⟩:∃v',w.ze[w.current.toNat]?=some v':=⟨_,gp aw⟩;have gv:=(gw.fX _ v' hv').1;have h0:0<v'.zm.length:=aE
   obtain⟨g',e',hg,he,l1,l2⟩:=Cq gv h0
   exact zT rfl ⟨(by show(6:Int)≠0;decide),st2,λv2 hv g2 hg e2 he=>by
     rcases gT.1 hv with hv|hv
     ·exact tg1 v2 hv g2 hg e2 he
     ·rw[gS.1 hv]at hg;exact(fr (N+1) g2 hg e2 he).1,uO,rfl,rfl,We,oL (p:=0) (p':=5) (Aw su.done hk uM) (Aw su.done hk uM) (T0 gw (λg hg e he=>(fr 0 g hg e he).2) _ _ _ _ _ _ _ _ _),.inr ⟨v',g',e',⟨qD.2 st2.jQ,su.zf,su.done,⟨cu.1,by show w.current<((w.ze++[nZ m.op.config]).length:Nat);simp only[gK,rX];omega⟩,
    by show(w.ze++[nZ m.op.config])[w.current.toNat]?=some v';rw[gG aw];exact hv',⟨gY _,aK⟩,hg,⟨gY _,aK⟩,he,⟨gY _,aK⟩,⟨gY _,aK⟩,su.listen,by show(0:Int)<=(w.ze.length:Nat);omega,su.k⟩,
    ⟨uL,uK⟩⟩⟩
  ·rw[gu q];exact zT rfl ⟨uX,st1,tg1,uP,rfl,rfl,jL.refl w _,qn w (kI (Aw su.done hk uM) (yK rfl (λh=>absurd (hk.symm.trans h.1) ar))),.inl ⟨rfl,by show(7:Int)<=9/\(9:Int)<=13;decide⟩⟩
 ·have ep:=(qq.1 gw.ground).zr;rw[gu aw,gC p];exact zT rfl ⟨uX,st1,tg1,uO,rfl,rfl,jL.refl w _,qn w (zxK (Aw su.done hk uM) (Aw su.done hk uM) rfl),.inr ⟨v,g,e,uQ,⟨uL,λ_=>⟨ep.1,gY _⟩⟩⟩⟩
 ·have p5:ph m=5:=(Aw su.done hk uM);have vf:=WJ ow p5;have ep:=lo.ep p;have sv:=su.version
  have nl:nV w m=false:=by
   unfold nV;simp only[pX,pD,pH,beq_eq_false_iff_ne,pN];exact⟨⟨⟨λr hr=>vf.2 r hr,vf.1⟩,aw⟩,aw⟩
  have st2:=st.Zv (x:=⟨m.version,m.zr,false⟩) sv.1 sv.2 vf.1 ep.1 ep.2 rfl vf.2;rw[gu aw,gu aw,gC p,nl];exact zT rfl ⟨tT,st2,tg1,uP,rfl,rfl,XG,oL (p:=5) (p':=0) p5 (yK rfl (λh=>absurd (hk.symm.trans h.1) ar)) (Wj (x:=⟨m.version,m.zr,false⟩) sv vf.1 vf.2 _ _ _ _ _ _ _ _ _),.inl ⟨rfl,by show(7:Int)<=8/\(8:Int)<=13;decide⟩⟩
def VP(st:St N K w)(tg:Tg N w)(su:qP w m v g e)(tm:iB m)(lo:m.pc=0)(hk:m.op.kind=4)(hN:N<=100000000):∃r,yZ w m=some r/\Nc N K w m (λ_ m _ _ _=>m.pc=0) BD r:=by
 have gw:=st.jQ;have st1:St (N+1) (K+1) w:=st.mono aw aw;have tg1:=tg.mono (rm N);have pr:=Ln w.zd m.op.listen;have hl:=st.ty.fI;have p0:ph m=0:=DT su.done aw aw aw aw;unfold yZ;rw[gC lo];by_cases q:zM w.zd m.op.listen<0
 ·rw[gC q];exact zT rfl ⟨uX,st1,tg1,uP,rfl,rfl,jL.refl w _,qn w (kI p0 (yK rfl (λh=>absurd (hk.symm.trans h.1) ar))),.inl ⟨rfl,by show(7:Int)<=7/\(7:Int)<=13;decide⟩⟩
 ·rw[gu q];obtain⟨x,hx⟩:∃x,w.zd[(zM w.zd m.op.listen).toNat]?=some x:=⟨_,gp aw⟩;have li:=FX (gw.fI _ x hx).1;have lk:=st.ty.mZ x (gA hx);have ca:=st.iN.fI x (gA hx);rw[hx,gL];have st2:=st1.D2 hx (y:=Go.Gat.o5 x) rfl (FJ li.1 li.2.1 rfl) lk.2 (by show x.zi<=_;omega);exact zT rfl ⟨tT,st2,tg1,⟨aJ,tm.word,tm.link,tm.host,tm.path,tm.d0,tm.d1,tm.cfg,(λh=>absurd ((show m.op.kind=6 from h).symm.trans hk) ar)⟩,rfl,rfl,DE hx rfl (λ_=>rfl),LP (y:=Go.Gat.o5 x) aw hx rfl (kI p0 (yK rfl (λh=>absurd (hk.symm.trans h.1) ar))),.inl ⟨rfl,by show(7:Int)<=10/\(10:Int)<=13;decide⟩⟩
def VQ(st:St N K w)(tg:Tg N w)(su:qP w m v g e)(tm:iB m)(lo:Dg w m v g e)(hk:m.op.kind=6):∃r,yR w m=some r/\Nc N K w m Dg BD r:=by
 have st1:St (N+1) (K+1) w:=st.mono aw aw;have tg1:=tg.mono (rm N);have i0:=su.i;have k0:=su.k;have ik:=lo.i;have kk:=lo.k;have ft:m.i.toNat<w.counts.length:=aw
 have hl:=(qq.1 st.jQ.ground).counts.2 _ (gZ ft);have p0:ph m=0:=DT su.done aw aw aw aw;unfold yR;rw[gC ⟨lo.pc,lo.k⟩,gp ft,pa,gp (show m.k.toNat<(w.counts[m.i.toNat]).length by omega),gL];generalize (w.counts[m.i.toNat])[m.k.toNat]'aw=n;by_cases h6:m.k+1=6
 ·by_cases h7:m.i+1=w.counts.length
  ·have e3:=IG (n:=n) h6 h7
   exact zT rfl ⟨uX,st1,tg1,by
     show iB (jv w m n);rw[e3];exact⟨tm.listen,tm.word,tm.link,tm.host,tm.path,tm.d0,tm.d1,tm.cfg,λ_ h=>aR⟩,by show(jv w m n).op=m.op;rw[e3],by show(jv w m n).zf=m.zf;rw[e3],jL.refl w _,qn w (kI p0 (by show ph (jv w m n)=0;rw[e3];exact yK rfl (λh=>absurd (hk.symm.trans h.1) ar))),.inl (by
     show(jv w m n).done=true/\BD (jv w m n);rw[e3];exact⟨rfl,by show(7:Int)<=13/\(13:Int)<=13;decide⟩)⟩
  ·have e2:=IF (n:=n) h6 h7
   exact zT rfl ⟨uX,st1,tg1,by
     show iB (jv w m n);rw[e2];exact uO,by show(jv w m n).op=m.op;rw[e2],by show(jv w m n).zf=m.zf;rw[e2],jL.refl w _,qn w (kI p0 (by show ph (jv w m n)=0;rw[e2];exact DT su.done (by show m.op.kind≠1;omega) (by show m.op.kind≠2;omega) (by show m.op.kind≠3;omega) (by show m.op.kind≠5;omega))),.inr ⟨v,g,e,by
     show qP w (jv w m n) v g e;rw[e2];exact⟨su.world,su.zf,su.done,su.version,su.ij,su.zg,su.fR,su.end_,su.ia,su.other,su.slot,su.listen,by show 0<=m.i+1;omega,gY _⟩,by
     show Dg w (jv w m n) v g e;rw[e2];exact⟨lo.pc,by show(0:Int)<6;decide,by show m.i+1<_;omega⟩⟩⟩
 ·have e1:=IE (w:=w) (n:=n) h6 aw
  exact zT rfl ⟨uX,st1,tg1,by
    show iB (jv w m n);rw[e1];exact uO,by show(jv w m n).op=m.op;rw[e1],by show(jv w m n).zf=m.zf;rw[e1],jL.refl w _,qn w (kI p0 (by show ph (jv w m n)=0;rw[e1];exact DT su.done (by show m.op.kind≠1;omega) (by show m.op.kind≠2;omega) (by show m.op.kind≠3;omega) (by show m.op.kind≠5;omega))),.inr ⟨v,g,e,by
    show qP w (jv w m n) v g e;rw[e1];exact⟨su.world,su.zf,su.done,su.version,su.ij,su.zg,su.fR,su.end_,su.ia,su.other,su.slot,su.listen,su.i,by show 0<=m.k+1;omega⟩,by
    show Dg w (jv w m n) v g e;rw[e1];exact⟨lo.pc,by show m.k+1<6;omega,lo.i⟩⟩⟩
end
def XV{w:Wor}(h:w.lock=0)(a b c d l a' b' c' d' l':Int):Mv w { w with lock:=1 } (qh 0 a b c d l) (qh 6 a' b' c' d' l'):=λy=>by
 rw[kR];cases y with
 |slot i j k s=>simp[Has,qh];rfl
 |act i j k=>simp[Has,qh];rfl
 |fI i=>simp[Has,qh]
 |fX i=>simp[Has,qh]
 |lock=>simp[Has,qh,h]
def Wl{w:Wor}(h:w.lock=1)(a b c d l a' b' c' d' l':Int):Mv w { w with lock:=0 } (qh 6 a' b' c' d' l') (qh 0 a b c d l):=λy=>by
 rw[kR];cases y with
 |slot i j k s=>simp[Has,qh];rfl
 |act i j k=>simp[Has,qh];rfl
 |fI i=>simp[Has,qh]
 |fX i=>simp[Has,qh]
 |lock=>simp[Has,qh,h]
def XK{w:Wor}{i k:Nat}{v:fB}{x:fT}{a b:Key->Nat}(hv:w.ze[k]?=some v)(hx:w.zu[i]?=some x)(h:a=b):Mv w { w with ze:=w.ze.set k (AD v),zu:=w.zu.set i (wN x) } a b:=λy=>by
 rw[h]
 have en:∀p q r,lb { w with ze:=w.ze.set k (AD v),zu:=w.zu.set i (wN x) } p q r=lb w p q r:=λp q r=>by
  unfold lb wJ;dsimp only;by_cases z:k=p.toNat
  ·subst z;rw[gD (gm.1 hv).1,hv,pa,pa]
  ·rw[pq z]
 cases y with
 |slot p q r s=>simp only[Has,en]
 |act p q r=>simp only[Has,en]
 |fI p=>rfl
 |lock=>rfl
 |fX p=>
  have ml:(∀r∈w.zu.set i (wN x),r.version≠p)↔∀r∈w.zu,r.version≠p:=by
   constructor
   ·intro z r hr;obtain⟨j,hj⟩:=gW.1 hr;by_cases e:i=j
    ·subst e;rw[hx]at hj;cases hj
     exact z (wN x) (gW.2 ⟨i,gD (gm.1 hx).1⟩)
    ·exact z r (gW.2 ⟨j,by rw[pq e];exact hj⟩)
   ·intro z r hr;rcases mem_set hr with hr|rfl
    ·exact z r hr
    ·exact z x (gA hx)
  simp only[Has,sb,ml]
section
variable {N K:Nat} {w:Wor} {m:fq} {v:fB} {g:Gr} {e:En}
def Xo{i k:Nat}{x:fT}(tg:Tg N w)(hv:w.ze[k]?=some v):Tg N { w with ze:=w.ze.set k (AD v),zu:=w.zu.set i (wN x) }:=λv2 hv2 g hg e he=>by
 rcases mem_set hv2 with hv2|rfl
 ·exact tg v2 hv2 g hg e he
 ·exact tg v (gA hv) g hg e he
def US(ow:∀x,j6 m x<=Has w x)(gw:jV w)(h:ph m=6):w.lock=1:=by
 have:=D0 ow h .lock (by simp[qh]);have l:=(qq.1 gw.ground).lock;simp only[Has]at this;omega
def OB{m1:fq}(st:St N K w)(tg:Tg N w)(su:qP w m1 v g e)(tm:iB m1)(hk:m1.op.kind=5)(hN:N<=100000000)(hpc:m1.pc=8)(ho:m1.op=m.op)(ht:m1.zf=m.zf)(p6:ph m=6)(lk:w.lock=1):Nc N K w m EK BD (mY w m1):=by
 have st1:St (N+1) (K+1) w:=st.mono aw aw;have tg1:=tg.mono (rm N);have i0:=su.i;have hl:=st.ty.fI;unfold mY;cases hx:w.zd[m1.i.toNat]? with
 |none=>
  have st2:=st1.EO (n:=0) (.inl rfl);exact⟨tT,st2,tg1,⟨tm.listen,tm.word,tm.link,tm.host,tm.path,tm.d0,tm.d1,tm.cfg,λh=>absurd ((show m1.op.kind=6 from h).symm.trans hk) ar⟩,ho,ht,x9 (gY _) rfl rfl rfl rfl rfl,oL (p:=6) (p':=0) p6 (yK rfl (λh=>absurd (hk.symm.trans h.1) ar)) (Wl lk _ _ _ _ _ _ _ _ _ _),.inl ⟨rfl,by show(7:Int)<=11/\(11:Int)<=13;decide⟩⟩
 |some l=>
  have ft:=(gm.1 hx).1;have hw:IntKind.i64.wrap (m1.i+1)=m1.i+1:=qd aw aw;dsimp only;by_cases q:l.drain=true/\l.closed=false
  ·unfold BE;rw[gC q];exact⟨uX,st1,tg1,uO,ho,ht,jL.refl w _,qn w (kJ p6 (i7 su.done hk uM)),.inr ⟨v,g,e,uQ,⟨uL,uK,uK,uK,λ_=>⟨l,hx,q.1⟩⟩⟩⟩
  ·unfold BE;rw[gu q,hw];exact⟨uX,st1,tg1,uO,ho,ht,jL.refl w _,qn w (kJ p6 (i7 su.done hk uM)),.inr ⟨v,g,e,⟨su.world,su.zf,su.done,su.version,su.ij,su.zg,su.fR,su.end_,su.ia,su.other,su.slot,su.listen,(by show 0<=m1.i+1;omega),su.k⟩,⟨by show _\/(8<=m1.pc/\m1.pc<=10);omega,uK,uK,uK,uK⟩⟩⟩
def SY(st:St N K w)(tg:Tg N w)(su:qP w m v g e)(tm:iB m)(lo:EK w m v g e)(hk:m.op.kind=5)(hN:N<=100000000)(ow:∀x,j6 m x<=Has w x):∃r,xu w m=some r/\Nc N K w m EK BD r:=by
 have gw:=st.jQ;have st1:St (N+1) (K+1) w:=st.mono aw aw;have tg1:=tg.mono (rm N);have i0:=su.i;have k0:=su.k;have gr:=qq.1 gw.ground;have lT:=st.ty.fI;have lL:=st.ty.lj;have pc:=lo.pc;have pcs:m.pc=0\/m.pc=1\/m.pc=2\/m.pc=3\/m.pc=4\/m.pc=5\/m.pc=6\/m.pc=8\/m.pc=9\/m.pc=10:=aw
 unfold xu;by_cases p:m.pc=0
 ·rw[gC p];by_cases q:w.lock=0
  ·rw[gC q];have st2:=st1.EO (n:=1) (.inr rfl);exact zT rfl ⟨aO,st2,tg1,uO,rfl,rfl,x9 (gY _) rfl rfl rfl rfl rfl,oL (p:=0) (p':=6) (i7 su.done hk uM) (i7 su.done hk uM) (XV q _ _ _ _ _ _ _ _ _ _),.inr ⟨v,g,e,⟨qD.2 st2.jQ,su.zf,su.done,su.version,su.ij,su.zg,su.fR,su.end_,su.ia,su.other,su.slot,su.listen,su.i,su.k⟩,⟨uL,uK,uK,uK,uK⟩⟩⟩
  ·rw[gu q];exact zT rfl ⟨aP,st1,tg1,uP,rfl,rfl,jL.refl w _,qn w (kI (i7 su.done hk uM) (yK rfl (λh=>absurd (hk.symm.trans h.1) ar))),.inl ⟨rfl,by show(7:Int)<=12/\(12:Int)<=13;decide⟩⟩
 replace pcs:=pcs.resolve_left p
 have p6:ph m=6:=(i7 su.done hk uM);have lk:=US ow gw p6;have kl:j6 m .lock=1:=by rw[jE p6];simp[qh]
 rw[gu p];clear p
 by_cases p:m.pc=1
 ·rw[gC p];exact zT rfl ⟨uX,st1,tg1,uO,rfl,rfl,jL.refl w _,qn w (kJ p6 (i7 su.done hk uM)),.inr ⟨v,g,e,uS,⟨uL,λ_=>by show(0:Int)<(w.pins.length:Nat);have:=gr.pins.1;omega,uK,uK,uK⟩⟩⟩
 replace pcs:=pcs.resolve_left p
 rw[gu p];clear p
 by_cases p:m.pc=2
 ·rw[gC p];have hi:=lo.ny p;obtain⟨x,hx⟩:∃x,w.pins[m.i.toNat]?=some x:=⟨_,gp aw⟩;have hw:IntKind.i64.wrap (m.i+1)=m.i+1:=qd aw (by have:=gr.pins.2;omega);rw[hx,gL];unfold Av;rw[hw];by_cases q:x≠0/\x≠IntKind.i64.wrap (m.zr+1)
  ·rw[gC q];exact zT rfl ⟨uX,st1,tg1,uO,rfl,rfl,jL.refl w _,qn w (kJ p6 (i7 su.done hk uM)),.inr ⟨v,g,e,uS,⟨uL,uK,uK,uK,uK⟩⟩⟩
  rw[gu q];by_cases q2:m.i+1<w.pins.length
  ·rw[gC q2];exact zT rfl ⟨uX,st1,tg1,uO,rfl,rfl,jL.refl w _,qn w (kJ p6 (i7 su.done hk uM)),.inr ⟨v,g,e,uR,⟨aS,λ_=>q2,uK,uK,uK⟩⟩⟩
  ·rw[gu q2];exact dK
 replace pcs:=pcs.resolve_left p
 rw[gu p];clear p
 by_cases p:m.pc=3
 ·rw[gC p];by_cases q:w.zr=m.zr/\w.zr<1000000000000
  ·have hw:IntKind.i64.wrap (w.zr+1)=w.zr+1:=qd (by have:=gr.zr;omega) aw;rw[gC q,hw];have st2:=st1.GX (n:=w.zr+1) aw aw;exact zT rfl ⟨aO,st2,tg1,uO,rfl,rfl,x9 (by show w.zr<=w.zr+1;omega) rfl rfl rfl rfl rfl,Cy rfl rfl rfl rfl rfl (kJ p6 (i7 su.done hk uM)),.inr ⟨v,g,e,⟨qD.2 st2.jQ,su.zf,su.done,su.version,su.ij,su.zg,su.fR,su.end_,su.ia,su.other,su.slot,su.listen,gY _,su.k⟩,⟨uL,uK,uK,uK,uK⟩⟩⟩
  ·rw[gu q];exact zT rfl ⟨aP,st1,tg1,uO,rfl,rfl,jL.refl w _,qn w (kJ p6 (i7 su.done hk uM)),.inr ⟨v,g,e,uS,⟨uL,uK,uK,uK,uK⟩⟩⟩
 replace pcs:=pcs.resolve_left p
 rw[gu p];clear p
 by_cases p:m.pc=4
 ·rw[gC p];cases hx:w.zu[m.i.toNat]? with
  |none=>exact zT rfl (OB st tg (m1:=iP m 8 0) uS uO hk hN rfl rfl rfl p6 lk)
  |some r=>
   have ft:=(gm.1 hx).1;have hw:IntKind.i64.wrap (m.i+1)=m.i+1:=qd aw aw;have la:=DG gw hx;dsimp only;unfold Au;rw[hw];by_cases q:r.gone=true\/Go.Lim.Bv r.at_ m.zr=false
   ·rw[gC q];exact zT rfl ⟨uX,st1,tg1,uO,rfl,rfl,jL.refl w _,qn w (kJ p6 (i7 su.done hk uM)),.inr ⟨v,g,e,uR,⟨aS,uK,uK,uK,uK⟩⟩⟩
   ·rw[gu q];obtain⟨v',hv'⟩:∃v',w.ze[r.version.toNat]?=some v':=⟨_,gp aw⟩;have gv:=(gw.fX _ v' hv').1;have h0:0<v'.zm.length:=by have:=(j3 gv.snap).zk.1;have:=gv.len;omega
    obtain⟨g',e',hg,he,l1,l2⟩:=Cq gv h0;have el:=M9 gv
    exact zT rfl ⟨uX,st1,tg1,uO,rfl,rfl,jL.refl w _,qn w (kJ p6 (i7 su.done hk uM)),.inr ⟨v',g',e',⟨su.world,su.zf,su.done,⟨la.2.2.1,la.2.2.2.1⟩,hv',⟨gY _,aK⟩,hg,⟨gY _,aK⟩,he,⟨gY _,aK⟩,⟨gY _,aK⟩,su.listen,su.i,gY _⟩,
     ⟨uL,uK,λ_=>⟨r,hx,rfl,by cases hgo:r.gone with|false=>rfl|true=>exact absurd (.inl hgo) q⟩,λ_=>by show(0:Int)<_;omega,uK⟩⟩⟩
 replace pcs:=pcs.resolve_left p
 rw[gu p];clear p
 by_cases p:m.pc=5
 ·rw[gC p];obtain⟨r,hr,hrv,hrg⟩:=lo.lj (.inl p);have ft:=(gm.1 hr).1;have hk2:=lo.act p;have gv:=(gw.fX _ v su.ij).1;have el:=M9 gv;have hw:IntKind.i64.wrap (m.i+1)=m.i+1:=qd aw aw;have hwk:IntKind.i64.wrap (m.k+1)=m.k+1:=qd aw aw;obtain⟨x,hx⟩:∃x,(yv v)[m.k.toNat]?=some x:=⟨_,gp aw⟩;rw[su.ij,pa,hx,gL];unfold AX;rw[hw,hwk];by_cases q:x.zi≠0
  ·rw[gC q];exact dK
  rw[gu q];by_cases q2:m.k+1<(yv v).length
  ·rw[gC q2];exact zT rfl ⟨uX,st1,tg1,uO,rfl,rfl,jL.refl w _,qn w (kJ p6 (i7 su.done hk uM)),.inr ⟨v,g,e,⟨su.world,su.zf,su.done,su.version,su.ij,su.zg,su.fR,su.end_,su.ia,su.other,su.slot,su.listen,su.i,(by show 0<=m.k+1;omega)⟩,⟨aS,uK,λ_=>⟨r,hr,hrv,hrg⟩,λ_=>q2,uK⟩⟩⟩
  ·rw[gu q2];exact zT rfl ⟨uX,st1,tg1,uO,rfl,rfl,jL.refl w _,qn w (kJ p6 (i7 su.done hk uM)),.inr ⟨v,g,e,⟨su.world,su.zf,su.done,su.version,su.ij,su.zg,su.fR,su.end_,su.ia,su.other,su.slot,su.listen,su.i,(by show 0<=m.k+1;omega)⟩,⟨uL,uK,λ_=>⟨r,hr,hrv,hrg⟩,uK,uK⟩⟩⟩
 replace pcs:=pcs.resolve_left p
 rw[gu p];clear p
 by_cases p:m.pc=6
 ·rw[gC p];obtain⟨r,hr,hrv,hrg⟩:=lo.lj (.inr p);have ft:=(gm.1 hr).1;have hw:IntKind.i64.wrap (m.i+1)=m.i+1:=qd aw aw;have st2:=st.qt su.version.1 su.ij hr hrv;have s1:=(gm.1 su.ij).1;rw[su.ij,pa,hr,pa,gC ⟨hrv,hrg⟩];unfold Dh;rw[hw]
  exact zT rfl ⟨tT,st2,Xo tg1 su.ij,uP,rfl,rfl,Uq kl su.ij hr,XK su.ij hr (kJ p6 (i7 su.done hk uM)),.inr ⟨AD v,g,e,⟨qD.2 st2.jQ,su.zf,su.done,aq su.version,gD s1,su.zg,su.fR,su.end_,su.ia,su.other,su.slot,su.listen,by show 0<=m.i+1;omega,su.k⟩,
   ⟨uL,uK,uK,uK,uK⟩⟩⟩
 replace pcs:=pcs.resolve_left p
 rw[gu p];clear p
 by_cases p:m.pc=8
 ·rw[gC p];exact zT rfl (OB st tg su tm hk hN p rfl rfl p6 lk)
 replace pcs:=pcs.resolve_left p
 rw[gu p];clear p
 by_cases p:m.pc=9
 ·rw[gC p];obtain⟨l,hl,hd⟩:=lo.fI (.inl p);have ft:=(gm.1 hl).1;have hw:IntKind.i64.wrap (m.i+1)=m.i+1:=qd aw aw;rw[hl,gL,hw];by_cases q:l.zi=0
  ·rw[gC q];exact zT rfl ⟨uX,st1,tg1,uO,rfl,rfl,jL.refl w _,qn w (kJ p6 (i7 su.done hk uM)),.inr ⟨v,g,e,uQ,⟨uL,uK,uK,uK,λ_=>⟨l,hl,hd⟩⟩⟩⟩
  ·rw[gu q];exact dK
 rw[gu p];have p:m.pc=10:=pcs.resolve_left p;obtain⟨l,hl,hd⟩:=lo.fI (.inr p);have ft:=(gm.1 hl).1;have hw:IntKind.i64.wrap (m.i+1)=m.i+1:=qd aw aw;have li:=FX (gw.fI _ l hl).1;have st2:=st1.D2 hl (y:=El l) rfl (FJ li.1 li.2.1 (by show(l.drain || !true)=true;rw[hd];rfl)) (st.ty.mZ l (gA hl)).2 (by have:=st.iN.fI l (gA hl);show l.zi<=_;omega);rw[gC p,hl,pa,gC hd,hw];exact zT rfl ⟨tT,st2,tg1,uO,rfl,rfl,DE hl rfl id,LP (y:=El l) i0 hl rfl (kJ p6 (i7 su.done hk uM)),.inr ⟨v,g,e,⟨qD.2 st2.jQ,su.zf,su.done,su.version,su.ij,su.zg,su.fR,su.end_,su.ia,su.other,su.slot,aq su.listen,by show 0<=m.i+1;omega,su.k⟩,⟨uL,uK,uK,uK,uK⟩⟩⟩
end
def wM{α:Type}{l l':List α}{i:Nat}{x:α}(h:l[i]?=some x)(hl:l.length<=l'.length):∃y,l'[i]?=some y:=
 ⟨_,gp (by have:=(gm.1 h).1;omega)⟩
def MF:∀{l l':List Gr},l'.length=l.length->(∀(j:Nat) g g',l[j]?=some g->l'[j]?=some g'->g'.ends.length=g.ends.length)->(l'.flatMap (·.ends)).length=(l.flatMap (·.ends)).length
 |[],[],_,_=>rfl
 |g::l,g'::l',h,hh=>by
  have ih:=MF (l:=l) (l':=l') (aq h) λj a b ha hb=>hh (j+1) a b (aq ha) (aq hb)
  have h0:=hh 0 g g' rfl rfl;simp only[eZ,gK];omega
 |[],_::_,h,_=>by simp at h
 |_::_,[],h,_=>by simp at h
def UR{e:En}(h:Slp.fP e=true)(h0:0<=Slp.zD e):Slp.zD e∈(Slp.qF e).1:=by
 have ok:=(Slp.Bj h).1;rw[Slp.BH ok,(Slp.HJ ok aw).2.2];exact rh ..
def OI(e:En)(s:Int):iR e s<=1:=by unfold iR;split <;> omega
def Yq{w w':Wor}{m:fq}{v:fB}{g:Gr}{e:En}{o:Key->Nat}(su:qP w m v g e)(lc:Lc w m v g e)(gw:jV w)(gw':jV w')(kp:jL w w' o)(ow:∀x,o x+j6 m x<=Has w x):
  ∃v' g' e',qP w' m v' g' e'/\Lc w' m v' g' e':=by
 have hv:=su.version;have hg:=su.zg;have he:=su.end_;obtain⟨v',av⟩:=wM su.ij kp.lu;have kv:=kp.fX _ v v' su.ij av;obtain⟨g',ag⟩:=wM su.fR (sV kv.len.symm);have kg:=kv.As _ g g' su.fR ag;obtain⟨e',ae⟩:=wM su.ia (sV kg.len.symm);have ke:=kg.ends _ e e' su.ia ae;rw[rQ hv.1,rQ hg.1,rQ he.1]at ke;have l1:=kp.lu;have l2:=kv.len;have l3:=kg.len;have l4:=ke.len;have l5:=kp.pins;have l6:=kp.fI;have su':qP w' m v' g' e':=⟨qD.2 gw',by have:=su.zf;omega,su.done,aw,av,aw,ag,aw,ae,by have:=su.other;omega,by have:=su.slot;omega,by have:=su.listen;omega,su.i,su.k⟩;refine⟨v',g',e',su',?_⟩;have isv:=(((gw.fX _ v su.ij).1.lY.2 g (gA su.fR)).2.2 e (gA su.ia)).1;have hsl:=Iu su.at_ m.slot;have s0:=su.slot;have slo:=ow (.slot m.version m.zg m.end_ m.slot);rw[hsl]at slo;have sle:=OI e m.slot;rcases lc with⟨hk,lo⟩|⟨hk,lo⟩|⟨hk,lo⟩|⟨hk,lo⟩|⟨hk,lo⟩|⟨hk,lo⟩
 ·refine .inl ⟨hk,⟨lo.pc,λh=>?_,lo.fI,lo.early,lo.fL,λh=>?_,λh=>?_,λh h2=>?_,lo.mB,lo.kind⟩⟩
  ·have:=lo.ep h;have:=kp.zr;omega
  ·obtain⟨c,h1,h2⟩:=lo.draw h;exact⟨c,by rw[kv.snap];exact h1,h2⟩
  ·have:=lo.slot h;have:=ke.tag;exact⟨(lo.slot h).1,aw⟩
  ·have q:=lo.slot (.inr h);have t1:=ke.tag;have t2:mK e'=m.word / 4294967296:=by unfold mK;rw[h2]
   have hh:=ke.head aw;have hm:e.head=m.word:=by rw[<-hh];exact h2
   have hs:Slp.zD e=m.slot:=by rw[q.1,<-hm];rfl
   have fr:=UR isv aw
   have z:iR e m.slot=0:=by
    unfold iR;rw[gu (λz=>z.2.2 (hs ▸ fr))]
   rw[ke.next m.slot s0.1 (by show o _=0;omega)];exact lo.link h hm
 ·refine .inr (.inl ⟨hk,⟨lo.pc,lo.fI,λh=>?_,λh=>?_⟩⟩)
  ·have:=lo.tag h;have:=ke.tag;omega
  ·have p3:ph m=3:=lH su.done hk (by rw[gC aw]);have:j6 m (.slot m.version m.zg m.end_ m.slot)=1:=by rw[jE p3];simp[qh]
   rw[ke.next m.slot s0.1 (by show o _=0;omega)];exact lo.next h
 ·refine .inr (.inr (.inl ⟨hk,⟨lo.pc,λh=>?_⟩⟩));have:=lo.ep h;have:=kp.zr;omega
 ·exact .inr (.inr (.inr (.inl ⟨hk,lo⟩)))
 ·refine .inr (.inr (.inr (.inr (.inl ⟨hk,⟨lo.pc,λh=>?_,λh=>?_,λh=>?_,λh=>?_⟩⟩))))
  ·have:=lo.ny h;omega
  ·obtain⟨r,h1,h2,h3⟩:=lo.lj h;obtain⟨r',h4⟩:=wM h1 kp.lj;have q:=kp.zu _ r r' h1 h4;have p6:ph m=6:=i7 su.done hk (by rw[gC aw]);have k1:j6 m .lock=1:=by rw[jE p6];simp[qh]
   have lk:=(qq.1 gw.ground).lock;have k2:=ow .lock;have k3:Has w .lock=w.lock.toNat:=rfl;exact⟨r',h4,by rw[q.1];exact h2,by rw[q.2.2 aw];exact h3⟩
  ·have:=lo.act h;have fl:(yv v').length=(yv v).length:=MF l2 λj a b ha hb=>(kv.As j a b ha hb).len
   omega
  ·obtain⟨l,h1,h2⟩:=lo.fI h;obtain⟨l',h3⟩:=wM h1 (sV l6.symm);exact⟨l',h3,(kp.kW _ l l' h1 h3).2 h2⟩
 ·exact .inr (.inr (.inr (.inr (.inr ⟨hk,⟨lo.pc,lo.k,by have:=lo.i;have:=kp.counts;omega⟩⟩))))
def Zi{N K:Nat}{w:Wor}{m:fq}{v:fB}{g:Gr}{e:En}(st:St N K w)(tg:Tg N w)(su:qP w m v g e)(tm:iB m)(lo:Lc w m v g e)(hN:N<=100000000)(hK:K<=1099511627776)(ow:∀x,j6 m x<=Has w x):∃r,x2 w m=some r/\Nc N K w m Lc GN r:=by
 have up:∀{L:Wor->fq->fB->Gr->En->Prop} {F:fq->Prop} {r:Wor×fq×fx},Nc N K w m L F r->(∀w' m' v g e,m'.op=m.op->L w' m' v g e->Lc w' m' v g e)->(∀m',m'.op=m.op->F m'->GN m')->Nc N K w m Lc GN r:=λh hL hF=>
  ⟨h.ev,h.st,h.tg,h.tm,h.op,h.th,h.keep,h.mv,h.go.imp (λz=>⟨z.1,hF _ h.op z.2⟩) (λ⟨v,g,e,z1,z2⟩=>⟨v,g,e,z1,hL _ _ _ _ _ h.op z2⟩)⟩
 rw[show x2 w m=if m.op.kind=1 then z8 w m v g e else if m.op.kind=2 then xv w m v g e else if m.op.kind=3 then m9 w m else if m.op.kind=4 then yZ w m
  else if m.op.kind=5 then xu w m else if m.op.kind=6 then yR w m else none by
   unfold x2;rw[su.ij];dsimp only;rw[su.fR];dsimp only;rw[su.ia]]
 rcases lo with⟨hk,lo⟩|⟨hk,lo⟩|⟨hk,lo⟩|⟨hk,lo⟩|⟨hk,lo⟩|⟨hk,lo⟩
 ·rw[gC hk];obtain⟨r,h1,h2⟩:=T8 st tg su tm lo hk hN hK ow;exact⟨r,h1,up h2 (λ_ m' _ _ _ ho z=>.inl ⟨aT,z⟩) λm' ho z=>.inl ⟨aT,z⟩⟩
 ·rw[gu aw,gC hk];obtain⟨r,h1,h2⟩:=T7 st tg su tm lo hk hN hK ow;exact⟨r,h1,up h2 (λ_ m' _ _ _ ho z=>.inr (.inl ⟨aT,z⟩)) λm' ho z=>.inr (.inl ⟨aT,z⟩)⟩
 ·rw[gu aw,gu aw,gC hk];obtain⟨r,h1,h2⟩:=Xr st tg su tm lo hk ow;exact⟨r,h1,up h2 (λ_ m' _ _ _ ho z=>.inr (.inr (.inl ⟨aT,z⟩))) λm' ho z=>.inr (.inr ⟨aU,aU,z⟩)⟩
 ·rw[gu aw,gu aw,gu aw,gC hk];obtain⟨r,h1,h2⟩:=VP st tg su tm lo hk hN;exact⟨r,h1,up h2 (λ_ m' _ _ _ ho z=>.inr (.inr (.inr (.inl ⟨aT,z⟩)))) λm' ho z=>.inr (.inr ⟨aU,aU,z⟩)⟩
 ·rw[gu aw,gu aw,gu aw,gu aw,gC hk];obtain⟨r,h1,h2⟩:=SY st tg su tm lo hk hN ow;exact⟨r,h1,up h2 (λ_ m' _ _ _ ho z=>.inr (.inr (.inr (.inr (.inl ⟨aT,z⟩))))) λm' ho z=>.inr (.inr ⟨aU,aU,z⟩)⟩
 ·rw[gu aw,gu aw,gu aw,gu aw,gu aw,gC hk];obtain⟨r,h1,h2⟩:=VQ st tg su tm lo hk;exact⟨r,h1,up h2 (λ_ m' _ _ _ ho z=>.inr (.inr (.inr (.inr (.inr ⟨aT,z⟩))))) λm' ho z=>.inr (.inr ⟨aU,aU,z⟩)⟩
end Go.Wor
namespace Go.Pla
open Go.Ab Go.Proofs Tryz Go.Hy
def vF.at_{given L1 L2:List fF}{b:fF}(h:vF given (L1++b::L2)):∃l1 i l2,jF given=l1++i::l2/\l1.map (λi=>given[i]?)=L1.map some/\given[i]?=some b/\l2.map (λi=>given[i]?)=L2.map some:=by
 unfold vF at h;rw[rp,rJ]at h;obtain⟨l1,l',h1,h2,h3⟩:=List.map_eq_append_iff.1 h;obtain⟨i,l2,h4,h5,h6⟩:=List.map_eq_cons_iff.1 h3;exact⟨l1,i,l2,by rw[h1,h4],h2,h5,h6⟩
def vF.Yf{given L1 L2:List fF}{b f:fF}(h:vF given (L1++b::L2))(he:kz f b=true)(hn:∀x∈L1,kz f x=false):vF (given++[f]) (L1++L2):=by
 have ft:∀n∈jF given,n<given.length:=vA given given.length (gJ _)
 have h6:f.kind=6:=by
  unfold kz at he;simp only[gH,gQ]at he;exact he.1
 obtain⟨l1,i,l2,h1,h2,h3,h4⟩:=h.at_
 have a1:∀n∈l1,iG given f n=false:=λn hm=>by
  have:given[n]?∈l1.map (λi=>given[i]?):=pd.2 ⟨n,hm,rfl⟩;rw[h2]at this;obtain⟨x,hx,e⟩:=pd.1 this;unfold iG;rw[<-e];exact hn x hx
 have e:(jF given).findIdx? (iG given f)=some l1.length:=by
  rw[h1,ub,gX.2 a1,rM];have:iG given f i=true:=by unfold iG;rw[h3];exact he
  rw[gC this];simp
 unfold vF;rw[Fl,gu aw,e,h1];dsimp only
 rw[List.eraseIdx_append_of_length_le (gJ _),rR,List.eraseIdx_cons_zero,FK given f _ (λn hn=>ft n (by
  rw[h1];rcases gT.1 hn with hn|hn
  ·exact gT.2 (.inl hn)
  ·exact gT.2 (.inr (pV _ hn)))),rp,h2,h4,rp]
end Go.Pla
namespace Go.Beg
open Go.Ab Go.Proofs Tryz Go.Hy Go.Pla
def Xn{o:fG}{given L:List fF}(h:vF given L)(h0:0<=o.n)(h1:o.n<L.length):∃a,L[o.n.toNat]?=some a/\BQ o given=a:=by
 obtain⟨i,a,h2,h3,h4⟩:=NB h0 (by rw[h.len];exact h1);refine⟨a,?_,h4⟩;have:=rF (λl=>l[o.n.toNat]?) h;simp only[gz,h2,gL,h3]at this;cases hl:L[o.n.toNat]? with
 |none=>rw[hl]at this;cases this
 |some b=>rw[hl]at this;simp only[gL,gV]at this;rw[this]
def UG{o:fG}{given L:List fF}(h:vF given L)(h1:¬(0<=o.n/\o.n<L.length)):BQ o given=vp:=HV (by rw[h.len];exact h1)
end Go.Beg
namespace Go.Wor
open Go.Ab Go.Proofs Tryz Go.Gat Go.Nam Go.Hos Go.Con Go.Sna Go.Pla
open Go.Hy hiding encI
def jo(x:fN)(t:Int)(o:fG):fq:=if x.on then x.m else Beg.xa t o x.given
def wZ(L:List fF)(x:Key):Nat:=(L.map λa=>mH a x).sum
def DK(L L':List fF)(x:Key):wZ (L++L') x=wZ L x+wZ L' x:=by unfold wZ;rw[rp,fi]
def Fm(a:fF)(L:List fF)(x:Key):wZ (a::L) x=mH a x+wZ L x:=by unfold wZ;rw[rJ,rU]
def XS(a:fF)(x:Key):wZ [a] x=mH a x:=by rw[Fm];rfl
structure Kb(w:Wor)(t:Int)(x:fN)(m:fq)(L:List fF)(o:Key->Nat):Prop where
 at_:x.ops[x.done]?=some m.op
 th:m.zf=t
 tm:iB m
 lc:∃v g e,qP w m v g e/\Lc w m v g e
 own:(((m.op.kind≠2\/m.pc=9)/\∀k,o k=wZ L k+j6 m k)\/(m.op.kind=2/\m.pc<=4/\∃L1 a L2,L=L1++a::L2/\a.version=m.version/\a.zg=m.zg/\a.end_=m.end_/\a.slot=m.slot/\a.listen=m.listen/\(∀b∈L1,¬Gv b a)/\∀k,o k=wZ (L1++L2) k+j6 m k))
structure TI(w:Wor)(t:Int)(x:fN)(o:Key->Nat):Prop where
 le:x.done<=x.ops.length
 given:x.given.length=x.done
 open_ : ∃L, vF x.given L /\ (∀a∈L, a.kind = 1 /\ 0 <= a.listen) /\ ((x.on = false /\ ∀k, o k = wZ L k) \/ (x.on = true /\ Kb w t x x.m L o))
def NU{L:List fF}{a:fF}(h:a∈L)(k:Key):mH a k<=wZ L k:=by
 obtain⟨L1,L2,rfl⟩:=List.append_of_mem h;rw[DK,Fm];omega
def Yg{w:Wor}{a:fF}(h:∀k,mH a k<=Has w k):oP w a:=by
 have h1:=h (.slot a.version a.zg a.end_ a.slot);have h2:=h (.fI a.listen);have e1:mH a (.slot a.version a.zg a.end_ a.slot)=1:=by simp[mH,qh]
 have e2:mH a (.fI a.listen)=1:=by simp[mH,qh]
 rw[e1]at h1;rw[e2]at h2;simp only[Has]at h1 h2;split at h1
 ·rename_i e he;unfold lb at he;split at he
  ·rename_i q;unfold iR at h1;split at h1
   ·rename_i z;split at h2
    ·rename_i l0;split at h2
     ·rename_i l hl;have:=(gm.1 hl).1;exact⟨⟨q.1,q.2.1,q.2.2,z.1⟩,⟨l0,aw⟩,e,he,z.2⟩
     ·omega
    ·omega
   ·omega
  ·cases he
 ·omega
def Z5(w:Wor)(i j k s:Int):Has w (.slot i j k s)<=1:=by
 simp only[Has];split
 ·exact OI _ _
 ·omega
def wx{t:Int}{o:fG}{given:List fF}(h:o.kind≠2):Beg.xa t o given=⟨o,t,0,0,0, -1,0,0,0,0,0,0,0,0,0,false,Beg.vp,lJ⟩:=by
 unfold Beg.xa;rw[gu h]
structure J1(o:fG):Prop where
 kind:1<=o.kind/\o.kind<=6
 host:o.host.length<1000000000000000
 path:o.path.length<1000000000000000
 d0:i64 o.d0
 d1:i64 o.d1
 cfg:o.kind=3->x4 o.config
def Mb{N K:Nat}{w:Wor}{t:Int}{x:fN}{o:Key->Nat}{p:fG}(st:St N K w)(tg:Tg N w)(ht:0<=t/\t<w.pins.length)(ti:TI w t x o)(hoff:x.on=false)(hp:x.ops[x.done]?=some p)(po:J1 p)(hN:N<=100000000)(ow:∀k,o k<=Has w k):
  TI w t ⟨x.ops,x.done,true,Beg.xa t p x.given,x.given⟩ o:=by
 obtain⟨hle,hgl,L,hL,hk,hon⟩:=ti
 have hon:∀k,o k=wZ L k:=by
  rcases hon with⟨_,h⟩|⟨h,_⟩
  ·exact h
  ·rw[hoff]at h;cases h
 refine⟨hle,hgl,L,hL,hk,.inr ⟨rfl,?_⟩⟩;have pk:=po.kind;have gr:=qq.1 st.jQ.ground
 have idle:∀{pc:Int} {op:fG},op=p->(pc=0\/pc=9)->iB ⟨op,t,pc,0,0, -1,0,0,0,0,0,0,0,0,0,false,Beg.vp,lJ⟩/\∃v g e,qP w ⟨op,t,pc,0,0, -1,0,0,0,0,0,0,0,0,0,false,Beg.vp,lJ⟩ v g e:=λe _=>by
  subst e;exact⟨⟨(by decide:i64 (-1)),(by decide:u64 0),(by decide:(-1:Int)<=0/\(0:Int)<=2147483646),po.host,po.path,po.d0,po.d1,po.cfg,λ_ _=>rfl⟩,SM st.jQ ht rfl rfl rfl rfl rfl rfl rfl rfl rfl⟩
 by_cases k2:p.kind=2
 ·by_cases hn:0<=p.n/\p.n<L.length
  ·obtain⟨a,ha,hta⟩:=Beg.Xn hL hn.1 hn.2;have am:=gA ha;obtain⟨ak,al⟩:=hk a am;have fa:oP w a:=Yg λk=>pM (NU am k) (by rw[<-hon k];exact ow k)
   obtain⟨⟨p1,p2,p3,p4⟩,⟨l0,l1⟩,e,hat,hs,hf⟩:=fa;obtain⟨v,g,a1,a2,a3⟩:=O8 hat;have s1:=(gm.1 a1).1;have s2:=(gm.1 a2).1;have s3:=(gm.1 a3).1
   have eb:Beg.xa t p x.given=⟨p,t,0,0,a.version,a.listen,a.zg,a.end_,0,a.slot,0,0,0,0,0,false,Beg.vp,lJ⟩:=by
    unfold Beg.xa;rw[gC k2,hta];unfold Beg.k9;rw[gC ak,gC ak]
   rw[eb];have lN:=st.ty.fI
   obtain⟨L1,L2,hsp,hln⟩:∃L1 L2,L=L1++a::L2/\L1.length=p.n.toNat:=⟨L.take p.n.toNat,L.drop (p.n.toNat+1),by
    have ft:=(gm.1 ha).1;have he:=(gm.1 ha).2;rw[<-he,List.getElem_cons_drop,rq],aA⟩
   have Aw:ph ⟨p,t,0,0,a.version,a.listen,a.zg,a.end_,0,a.slot,0,0,0,0,0,false,Beg.vp,lJ⟩=3:=lH rfl k2 rfl
   refine⟨hp,rfl,⟨by show i64 a.listen;unfold i64;omega,(by decide:u64 0),(by decide:(-1:Int)<=0/\(0:Int)<=2147483646),po.host,po.path,po.d0,po.d1,po.cfg,λ_ _=>rfl⟩,
    ⟨v,g,e,⟨qD.2 st.jQ,ht,rfl,⟨p1,by show a.version<_;omega⟩,a1,⟨p2,by show a.zg<_;omega⟩,a2,⟨p3,by show a.end_<_;omega⟩,a3,⟨gY _,aK⟩,⟨p4,hs⟩,⟨by show -1<=a.listen;omega,l1⟩,gY _,gY _⟩,
     .inr (.inl ⟨k2,⟨.inl ⟨gY _,by show(0:Int)<=4;decide⟩,λ_=>l0,(λh=>by dsimp only at h;omega),λh=>absurd (show(0:Int)=2 from h) ar⟩⟩)⟩,
    .inr ⟨k2,by show(0:Int)<=4;decide,L1,a,L2,hsp,rfl,rfl,rfl,rfl,rfl,λb hb cl=>?_,λk=>?_⟩⟩
   ·have q1:=ow (.slot a.version a.zg a.end_ a.slot);have q2:=Z5 w a.version a.zg a.end_ a.slot;have q3:=NU hb (.slot a.version a.zg a.end_ a.slot);have e1:mH a (.slot a.version a.zg a.end_ a.slot)=1:=by simp[mH,qh]
    have e2:mH b (.slot a.version a.zg a.end_ a.slot)=1:=by simp[mH,qh,cl.1,cl.2.1,cl.2.2.1,cl.2.2.2]
    rw[hon,hsp,DK,Fm]at q1;omega
   rw[hon k,hsp,DK,DK,Fm,jE Aw];show _=_+mH a k;omega
  ·have eb:Beg.xa t p x.given=⟨p,t,9,0,0, -1,0,0,0,0,0,0,0,0,0,false,Beg.vp,lJ⟩:=by
    unfold Beg.xa;rw[gC k2,Beg.UG hL hn]
    rfl
   rw[eb];obtain⟨ty,v,g,e,su⟩:=idle (pc:=9) rfl (.inr rfl);have p0:ph ⟨p,t,9,0,0, -1,0,0,0,0,0,0,0,0,0,false,Beg.vp,lJ⟩=0:=lH rfl k2 rfl;exact⟨hp,rfl,ty,⟨v,g,e,su,.inr (.inl ⟨k2,⟨.inr rfl,λh=>absurd (show(9:Int)<=4 from h) ar,(λh=>by dsimp only at h;omega),λh=>absurd (show(9:Int)=2 from h) ar⟩⟩)⟩,.inl ⟨.inr rfl,λk=>by rw[hon k,jE p0,kR];rfl⟩⟩
 ·rw[wx k2];obtain⟨ty,v,g,e,su⟩:=idle (pc:=0) rfl (.inl rfl)
  have p0:ph ⟨p,t,0,0,0, -1,0,0,0,0,0,0,0,0,0,false,Beg.vp,lJ⟩=0:=by
   by_cases k1:p.kind=1
   ·exact fY rfl k1 rfl
   by_cases k3:p.kind=3
   ·exact Aw rfl k3 rfl
   by_cases k5:p.kind=5
   ·exact i7 rfl k5 rfl
   exact DT rfl k1 k2 k3 k5
  refine⟨hp,rfl,ty,⟨v,g,e,su,?_⟩,.inl ⟨.inl k2,λk=>by rw[hon k,jE p0,kR];rfl⟩⟩;rcases(by omega:p.kind=1\/p.kind=3\/p.kind=4\/p.kind=5\/p.kind=6) with k|k|k|k|k
  ·exact .inl ⟨k,⟨.inl ⟨gY _,by show(0:Int)<=12;decide⟩,(λh=>by dsimp only at h;omega),(λh=>by dsimp only at h;omega),(λh=>by dsimp only at h;omega),(λh=>by dsimp only at h;omega),λh=>absurd (show(0:Int)=6 from h) ar,(λh=>by dsimp only at h;omega),λh=>absurd (show(0:Int)=11 from h) ar,λh=>absurd (show(20:Int)<=0 from h) ar,λh=>absurd (show(0:Int)=22 from h) ar⟩⟩
  ·exact .inr (.inr (.inl ⟨k,⟨⟨gY _,by show(0:Int)<=2;decide⟩,λh=>absurd (show(0:Int)=2 from h) ar⟩⟩))
  ·exact .inr (.inr (.inr (.inl ⟨k,rfl⟩)))
  ·exact .inr (.inr (.inr (.inr (.inl ⟨k,⟨.inl ⟨gY _,by show(0:Int)<=6;decide⟩,λh=>absurd (show(0:Int)=2 from h) ar,(λh=>by dsimp only at h;omega),λh=>absurd (show(0:Int)=5 from h) ar,(λh=>by dsimp only at h;omega)⟩⟩))))
  ·exact .inr (.inr (.inr (.inr (.inr ⟨k,⟨rfl,by show(0:Int)<6;decide,by show(0:Int)<(w.counts.length:Nat);have:=gr.counts.1;have:=gr.pins.1;omega⟩⟩))))
def Is{w:Wor}{m:fq}{v:fB}{g:Gr}{e:En}{r:Wor×fq×fx}(h:xv w m v g e=some r):r.2.1.version=m.version/\r.2.1.zg=m.zg/\r.2.1.end_=m.end_/\r.2.1.slot=m.slot/\r.2.1.listen=m.listen/\(m.pc=9->r.2.1.pc=9/\r.2.1.done=true)/\(m.pc<=4->r.2.1.pc<=4)/\(r.2.1.done=true->m.done=false->r.2.1.pc=m.pc):=by
 have c4:∀{a b:Int},a=b->(a=9->(1:Int)=2)->b=9->False:=λh1 h2 h3=>absurd (h2 (h1.trans h3)) ar
 unfold xv wa at h;split at h
 ·rename_i p;cases h
  exact⟨rfl,rfl,rfl,rfl,rfl,λh=>by omega,λ_=>by show(1:Int)<=4;decide,λa b=>absurd (b.symm.trans a) ar⟩
 split at h
 ·rename_i p;cases h
  exact⟨rfl,rfl,rfl,rfl,rfl,λh=>by omega,λ_=>by show(2:Int)<=4;decide,λa b=>absurd (b.symm.trans a) ar⟩
 split at h
 ·rename_i p;split at h
  ·cases h
   exact⟨rfl,rfl,rfl,rfl,rfl,λh=>by omega,λ_=>by show(3:Int)<=4;decide,λa b=>absurd (b.symm.trans a) ar⟩
  ·cases h
   exact⟨rfl,rfl,rfl,rfl,rfl,λh=>by omega,λ_=>by show(0:Int)<=4;decide,λa b=>absurd (b.symm.trans a) ar⟩
 split at h
 ·rename_i p;cases h
  exact⟨rfl,rfl,rfl,rfl,rfl,λh=>by omega,λ_=>by show(4:Int)<=4;decide,λa b=>absurd (b.symm.trans a) ar⟩
 split at h
 ·rename_i p;split at h
  ·cases h
  ·obtain⟨x,_,rfl⟩:=gU.1 h;exact⟨rfl,rfl,rfl,rfl,rfl,λh=>by omega,λh=>h,λ_ _=>rfl⟩
 split at h
 ·cases h
  exact⟨rfl,rfl,rfl,rfl,rfl,λh=>⟨h,rfl⟩,λh=>h,λ_ _=>rfl⟩
 ·cases h
def DA{x:fN}{m:fq}(h:m.done=true):jk x m=⟨x.ops,x.done+1,false,m,x.given++[m.answer]⟩:=gC h
def kn{x:fN}{m:fq}(h:m.done=false):jk x m=⟨x.ops,x.done,true,m,x.given⟩:=gu aH
def NZ{N K:Nat}{w:Wor}{t:Int}{x:fN}{o:Key->Nat}(st:St N K w)(tg:Tg N w)(ti:TI w t x o)(hon:x.on=true)(hN:N<=100000000)(hK:K<=1099511627776)(ow:∀k,o k<=Has w k):
  z7 w x.m=true/\iB x.m/\(∀k,j6 x.m k<=o k)/\∃r,x2 w x.m=some r/\r.2.2.access≠0/\St (N+1) (K+1) r.1/\Tg (N+1) r.1/\jL w r.1 (j6 x.m)/\∃o',TI r.1 t (jk x r.2.1) o'/\Mv w r.1 o o':=by
 obtain⟨hle,hgl,L,hL,hk,hon'⟩:=ti
 have on:Kb w t x x.m L o:=by
  rcases hon' with⟨h,_⟩|⟨_,h⟩
  ·rw[hon]at h;cases h
  ·exact h
 clear hon'
 obtain⟨hat,hth,htm,⟨v,g,e,su,lc⟩,hown⟩:=on
 have om:∀k,j6 x.m k<=o k:=λk=>by
  rcases hown with⟨_,h⟩|⟨_,_,_,_,_,_,_,_,_,_,_,_,h⟩
  ·rw[h k];omega
  ·rw[h k];omega
 have oh:∀k,j6 x.m k<=Has w k:=λk=>pM (om k) (ow k)
 obtain⟨r,h1,nc⟩:=Zi st tg su htm lc hN hK oh;refine⟨UE su,htm,om,r,h1,nc.ev,nc.st,nc.tg,nc.keep,?_⟩;have lt:x.done<x.ops.length:=(gm.1 hat).1;have fs:x.m.op.kind=2->xv w x.m v g e=some r:=λhk=>by rw[XB su,gu aw,gC hk]at h1;exact h1
 rcases nc.go with⟨hd,hf⟩|⟨v',g',e',su',lc'⟩
 ·rw[DA hd];have hgl':(x.given++[r.2.1.answer]).length=x.done+1:=by simp[hgl]
  rcases hf with⟨k1,f1,f2,f3⟩|⟨k2,f⟩|⟨k3,k4,f⟩
  ·rw[nc.op]at k1
   have hb:∀k,o k=wZ L k+j6 x.m k:=by
    rcases hown with⟨_,h⟩|⟨h,_⟩
    ·exact h
    ·omega
   by_cases a1:r.2.1.answer.kind=1
   ·obtain⟨ea,el⟩:=f3 a1;have p3:ph r.2.1=3:=Mk hd (by rw[nc.op];exact k1) a1
    have eo:∀k,j6 r.2.1 k=mH r.2.1.answer k:=λk=>by
     rw[jE p3];unfold mH;rw[ea]
    refine⟨λk=>wZ (L++[r.2.1.answer]) k,⟨aV,hgl',L++[r.2.1.answer],hL.Zw a1,λa ha=>?_,.inl ⟨rfl,λ_=>rfl⟩⟩,λk=>?_⟩
    ·rcases gT.1 ha with ha|ha
     ·exact hk a ha
     ·rw[gS.1 ha];exact⟨a1,by rw[ea];exact el⟩
    ·have:=nc.mv k;dsimp only;rw[hb k,DK,XS,<-eo k];omega
   ·have p0:ph r.2.1=0:=yK hd λh=>a1 h.2
    refine⟨λk=>wZ L k,⟨aV,hgl',L,hL.other a1 aw,hk,.inl ⟨rfl,λ_=>rfl⟩⟩,λk=>?_⟩;have:=nc.mv k
    try dsimp only
    rw[jE p0,kR]at this;rw[hb k];omega
  ·rw[nc.op]at k2;have fsm:=Is (fs k2);obtain⟨e1,e2,e3,e4,e5,e6,e7,e8⟩:=fsm;have p0:ph r.2.1=0:=yK hd λh=>by rw[nc.op]at h;omega
   have pc:=e8 hd su.done;rcases hown with⟨h9,hb⟩|⟨_,h4,L1,a,L2,hsp,q1,q2,q3,q4,q5,hcl,hb⟩
   ·have a7:r.2.1.answer=mq 7:=by
     rcases f with⟨_,f⟩|⟨f,_⟩
     ·omega
     ·exact f
    refine⟨λk=>wZ L k,⟨aV,hgl',L,hL.other (by rw[a7];show(7:Int)≠1;decide) (by rw[a7];show(7:Int)≠6;decide),hk,.inl ⟨rfl,λ_=>rfl⟩⟩,λk=>?_⟩;have:=nc.mv k
    try dsimp only
    rw[jE p0,kR]at this;rw[hb k];omega
   ·have a6:r.2.1.answer=OS r.2.1:=by
     rcases f with⟨f,_⟩|⟨_,f⟩
     ·exact f
     ·omega
    have hka:=hk a (by rw[hsp];simp)
    have en:Pla.kz r.2.1.answer a=true:=by
     rw[a6];unfold Pla.kz;simp[hka.1,e1,e2,e3,e4,e5,q1,q2,q3,q4,q5]
    have en2:∀b∈L1,kz r.2.1.answer b=false:=λb hb2=>by
     cases he:Pla.kz r.2.1.answer b with
     |false=>rfl
     |true=>
      rw[a6]at he;unfold Pla.kz at he;simp only[gH,gQ,e1,e2,e3,e4,e5]at he;exact absurd ⟨he.2.2.1.symm.trans q1.symm,he.2.2.2.1.symm.trans q2.symm,he.2.2.2.2.1.symm.trans q3.symm,he.2.2.2.2.2.1.symm.trans q4.symm⟩ (hcl b hb2)
    rw[hsp]at hL
    refine⟨λk=>wZ (L1++L2) k,⟨aV,hgl',L1++L2,hL.Yf en en2,λb hb2=>hk b (by
     rw[hsp];rcases gT.1 hb2 with h|h
     ·exact gT.2 (.inl h)
     ·exact gT.2 (.inr (pV _ h))),.inl ⟨rfl,λ_=>rfl⟩⟩,λk=>?_⟩
    have:=nc.mv k
    try dsimp only
    rw[jE p0,kR]at this;rw[hb k];omega
  ·rw[nc.op]at k3 k4;have p0:ph r.2.1=0:=yK hd λh=>by rw[nc.op]at h;omega
   have hb:∀k,o k=wZ L k+j6 x.m k:=by
    rcases hown with⟨_,h⟩|⟨h,_⟩
    ·exact h
    ·omega
   refine⟨λk=>wZ L k,⟨aV,hgl',L,hL.other (by have:=f.1;omega) (by have:=f.1;omega),hk,.inl ⟨rfl,λ_=>rfl⟩⟩,λk=>?_⟩;have:=nc.mv k
   try dsimp only
   rw[jE p0,kR]at this;rw[hb k];omega
 ·rw[kn su'.done];rcases hown with⟨h9,hb⟩|⟨k2,h4,L1,a,L2,hsp,q1,q2,q3,q4,q5,hcl,hb⟩
  ·have k2:x.m.op.kind≠2:=λk2=>by
    rcases h9 with h|h
    ·exact h k2
    ·have:=(Is (fs k2)).2.2.2.2.2.1 h;have h2:=su'.done;rw[this.2]at h2;cases h2
   refine⟨λk=>wZ L k+j6 r.2.1 k,⟨hle,hgl,L,hL,hk,.inr ⟨rfl,⟨by rw[hat,nc.op],nc.th.trans hth,nc.tm,⟨v',g',e',su',lc'⟩,.inl ⟨.inl (by rw[nc.op];exact k2),λ_=>rfl⟩⟩⟩⟩,λk=>?_⟩;have:=nc.mv k
   try dsimp only
   rw[hb k];omega
  ·obtain⟨e1,e2,e3,e4,e5,e6,e7,e8⟩:=Is (fs k2);refine⟨λk=>wZ (L1++L2) k+j6 r.2.1 k,⟨hle,hgl,L,hL,hk,.inr ⟨rfl,⟨by rw[hat,nc.op],nc.th.trans hth,nc.tm,⟨v',g',e',su',lc'⟩,.inr ⟨by rw[nc.op];exact k2,e7 h4,L1,a,L2,hsp,q1.trans e1.symm,q2.trans e2.symm,q3.trans e3.symm,q4.trans e4.symm,q5.trans e5.symm,hcl,λ_=>rfl⟩⟩⟩⟩,λk=>?_⟩;have:=nc.mv k
   try dsimp only
   rw[hb k];omega
def Y0{w w':Wor}{t:Int}{x:fN}{o p:Key->Nat}(ti:TI w t x o)(gw:jV w)(gw':jV w')(kp:jL w w' p)(ow:∀k,p k+o k<=Has w k):TI w' t x o:=by
 obtain⟨hle,hgl,L,hL,hk,hon⟩:=ti;refine⟨hle,hgl,L,hL,hk,hon.imp id λ⟨h1,on⟩=>⟨h1,?_⟩⟩;obtain⟨hat,hth,htm,⟨v,g,e,su,lc⟩,hown⟩:=on
 have om:∀k,j6 x.m k<=o k:=λk=>by
  rcases hown with⟨_,h⟩|⟨_,_,_,_,_,_,_,_,_,_,_,_,h⟩
  ·rw[h k];omega
  ·rw[h k];omega
 obtain⟨v',g',e',su',lc'⟩:=Yq su lc gw gw' kp λk=>by have:=om k;have:=ow k;omega
 exact⟨hat,hth,htm,⟨v',g',e',su',lc'⟩,hown⟩
def Ea:∀(l:List Nat) (i:Nat) {a:Nat},l[i]?=some a->a<=l.sum
 |[],i,a,h=>by simp at h
 |x::l,0,a,h=>by
  have:x=a:=aq h
  rw[rU];omega
 |x::l,i+1,a,h=>by
  have:=Ea l i (aq h);rw[rU];omega
def Oj:∀(l:List Nat) (i j:Nat) {a b:Nat},i≠j->l[i]?=some a->l[j]?=some b->a+b<=l.sum
 |[],i,j,a,b,_,h,_=>by simp at h
 |x::l,0,0,a,b,h,_,_=>absurd rfl h
 |x::l,0,j+1,a,b,_,h1,h2=>by
  have:=Ea l j tR;have:x=a:=aq h1
  rw[rU];omega
 |x::l,i+1,0,a,b,_,h1,h2=>by
  have:=Ea l i tD;have:x=b:=aq h2
  rw[rU];omega
 |x::l,i+1,j+1,a,b,h,h1,h2=>by
  have:=Oj l i j aw tD tR;rw[rU];omega
structure GI(N K:Nat)(w:Wor)(X:List fN):Prop where
 st:St N K w
 tg:Tg N w
 len:w.pins.length=X.length
 ops:∀x∈X,∀p∈x.ops,J1 p
 own:∃os:List (Key->Nat),os.length=X.length/\(∀(i:Nat) x o,X[i]?=some x->os[i]?=some o->TI w i x o)/\∀k,Has w k=(os.map (· k)).sum
def Yk{N K:Nat}{w:Wor}{X:List fN}{t:Nat}{x:fN}{p:fG}(gi:GI N K w X)(hx:X[t]?=some x)(hp:x.ops[x.done]?=some p)(hN:N<=100000000)(hK:K<=1099511627776):
  z7 w (jo x t p)=true/\iB (jo x t p)/\∃r,x2 w (jo x t p)=some r/\r.2.2.access≠0/\GI (N+1) (K+1) r.1 (X.set t (jk x r.2.1)):=by
 obtain⟨st,tg,hlen,hops,os,hol,hti,hsum⟩:=gi;have ft:=(gm.1 hx).1;obtain⟨o,ho⟩:∃o,os[t]?=some o:=⟨_,gp aw⟩;have ti:=hti t x o hx ho;have ow:∀k,o k<=Has w k:=λk=>by rw[hsum k];exact Ea _ t (by rw[gz,ho];rfl)
 have po:=hops x (gA hx) p (gA hp)
 obtain⟨x',hx1,hx2,hx3,hx4⟩:∃x',x'.m=jo x t p/\x'.on=true/\TI w t x' o/\∀m,jk x' m=jk x m:=by
  cases hon:x.on with
  |true=>exact⟨x,aW,hon,ti,λ_=>rfl⟩
  |false=>exact⟨⟨x.ops,x.done,true,Beg.xa t p x.given,x.given⟩,aW,rfl,Mb st tg aw ti hon hp po hN ow,λ_=>rfl⟩
 obtain⟨s1,s2,s3,r,s4,s5,s6,s7,s8,o',s9,s10⟩:=NZ st tg hx3 hx2 hN hK ow;rw[hx1]at s1 s2 s4;refine⟨s1,s2,r,s4,s5,s6,s7,by have:=s8.pins;simp;omega,λy hy q hq=>?_,os.set t o',by simp[hol],λi y oi hy hoi=>?_,λk=>?_⟩
 ·rcases mem_set hy with hy|rfl
  ·exact hops y hy q hq
  ·have:(jk x r.2.1).ops=x.ops:=by unfold jk;split <;> rfl
   rw[this]at hq;exact hops x (gA hx) q hq
 ·rcases x7 hy with⟨rfl,rfl,_⟩|⟨hne,hy⟩
  ·rw[gD aw]at hoi;cases hoi
   rw[<-hx4];exact s9
  ·rw[pq hne]at hoi;refine Y0 (hti i y oi hy hoi) st.jQ s6.jQ s8 λk=>?_
   have h2:=Oj (os.map (· k)) t i hne (by rw[gz,ho];rfl) (by rw[gz,hoi];rfl);have:=s3 k;rw[hsum k];dsimp only at h2 ⊢;omega
 ·have q1:=I4 (λf:Key->Nat=>f k) os t o' ho;have q2:=s10 k;have q3:=hsum k;(try dsimp only at q1)
  (try dsimp only at q3)
  (try dsimp only)
  omega
def VR{l:List fA}{i:Nat}{s:fA}(h:l[i]?=some s)(hn:zM ((l.take i).map kF) s<0):zM (l.map kF) s=i:=by
 have ft:=(gm.1 h).1
 have h0:((l.take i).map kF).findIdx? (λr=>r.name == s)=none:=by
  unfold zM at hn;split at hn
  ·omega
  ·rename_i q;exact q
 have e:(l.map kF).findIdx? (λr=>r.name == s)=some i:=by
  rw[gR];refine⟨aq ft,?_,λj hj=>?_⟩
  ·have:=(gm.1 h).2;simp[kF,this]
  ·have q:=gX.1 h0 (kF (l[j]'aw)) (pd.2 ⟨_,List.mem_take_iff_getElem.2 ⟨j,aw,rfl⟩,rfl⟩);simpa using q
 unfold zM;rw[e]
def Pq{α:Type}:∀(T:List α),(T.map λ_=>(0:Nat)).sum=0
 |[]=>rfl
 |_::T=>by rw[rJ,rU,Pq T]
def ZD{s:Sna}{l:List fA}{n:Int}{w:Wor}{N:Nat}{T:List (List fG)}(h:lS s l n=(w,0))(hs:oZ s)(hl:l.length<=N)(hN:1<=N)(hn:∀x∈l,x.length<=reachBytes)(hT:(T.length:Int)=n)(hO:∀L∈T,∀o∈L,J1 o):
  GI N 0 w (T.map wW):=by
 unfold lS at h;split at h
 ·have:=rF Prod.snd h;exact absurd (show(1:Int)=0 from this) ar
 rename_i q;have hw:=(rF Prod.fst h).symm;have hw:w=⟨0,0,0,List.replicate n.toNat 0,[(q8 s).1],l.map kF,List.replicate n.toNat [0,0,0,0,0,0],[]⟩:=hw
 have q1:vB s=true:=by
  cases z:vB s with
  |true=>rfl
  |false=>exact absurd (.inl z) q
 have q2:1<=n:=aw
 have q3:n<=8:=aw
 have q4:∀i x,l[i]?=some x->xL x=true/\zM ((l.take i).map kF) x<0:=λi x hx=>by
  have z:BL l=true:=by
   cases z:BL l with
   |true=>rfl
   |false=>exact absurd (.inr (.inr (.inr z))) q
  have:=gI.1 z i (rC.2 (gm.1 hx).1);unfold CN at this;rw[hx]at this;simpa using this
 subst hw;have hc:(q8 s).1=⟨s,s.zk.map l9,false⟩:=by unfold q8;rw[gC q1]
 have fr:∀g∈(q8 s).1.zm,g.zt=0/\∀e∈g.ends,e.zi=0/\e.ok:=λg hg=>by
  rw[hc]at hg;obtain⟨x,hx,rfl⟩:=pd.1 (show g∈s.zk.map l9 from hg);refine⟨rfl,λe he=>?_⟩;rw[pE (show e∈List.replicate x.zL.length (xI x) from he)];have f:=kC ((j3 q1).all x hx);exact f.2.2
 have one:∀v,v∈[(q8 s).1]->v=(q8 s).1:=λv hv=>gS.1 hv
 have lz:∀x∈l.map kF,∃y∈l,x=kF y:=λx hx=>by
  obtain⟨y,hy,e⟩:=pd.1 hx;exact⟨y,hy,e.symm⟩
 have fv:=MH q1 0
 have ends:∀i j k e,lb ⟨0,0,0,List.replicate n.toNat 0,[(q8 s).1],l.map kF,List.replicate n.toNat [0,0,0,0,0,0],[]⟩ i j k=some e->e.zi=0/\∀t,iR e t=0:=λi j k e he=>by
  unfold lb at he;split at he
  ·obtain⟨v,g,a1,a2,a3⟩:=O8 he;have hv:=one v (gA a1);subst hv;exact(fv g (gA a2) e (gA a3)).2
  ·cases he
 refine⟨⟨⟨qq.2 ⟨?_,⟨?_,?_⟩,⟨gY _,by show(0:Int)<=1000000000000;decide⟩,.inl rfl,?_⟩,⟨gY _,by show(0:Int)<1;decide⟩,(by show Go.Lim.fP []=true;rfl),(λr hr=>nomatch hr),?_,?_⟩,⟨by show 1<=N;omega,aq hl,by show 0<=N;omega,?_,?_⟩,⟨?_,?_⟩⟩,?_,?_,?_,?_⟩
 ·simp only[sW];omega
 ·simp
 ·intro r hr;rw[pE hr];rfl
 ·intro p hp;rw[pE hp];exact⟨gY _,by show(0:Int)<=0+1;decide⟩
 ·intro i v hv;have hi:i=0:=by have:=(gm.1 hv).1;exact de
  subst hi;cases hv
  exact⟨LV q1,by rw[hc];rfl⟩
 ·intro i x hx;obtain⟨y,hy,rfl⟩:=gU.1 ((gz ..).symm.trans hx);have z:=q4 i y hy;refine⟨FJ z.1 (gY _) rfl,VR hy z.2⟩
 ·intro v hv;rw[one v hv];exact⟨by rw[hc];exact hs,λg hg=>⟨by rw[(fr g hg).1];decide,λe he=>((fr g hg).2 e he).2⟩⟩
 ·intro x hx;obtain⟨y,hy,rfl⟩:=lz x hx;exact⟨hn y hy,by show i64 0;decide⟩
 ·intro x hx;obtain⟨y,hy,rfl⟩:=lz x hx;show(0:Int)<=_
  decide
 ·intro v hv g hg e he;rw[one v hv]at hg;rw[((fr g hg).2 e he).1]
  decide
 ·intro v hv g hg e he;rw[one v hv]at hg;exact((fv g hg e he).1:AV 0 e) |> λz=>⟨by have:=z.1;omega,z.2⟩
 ·simp only[sW,gE];omega
 ·intro x hx p hp;obtain⟨L,hL,rfl⟩:=pd.1 hx;exact hO L hL p hp
 ·refine⟨T.map λ_=>λ_=>0,aj,λi x o hx ho=>?_,λk=>?_⟩
  ·obtain⟨L,hL,rfl⟩:=gU.1 ((gz ..).symm.trans hx);obtain⟨_,_,rfl⟩:=gU.1 ((gz ..).symm.trans ho);exact⟨pb _,rfl,[],Zf,⟨λa ha=>(by cases ha),.inl ⟨rfl,λ_=>rfl⟩⟩⟩
  ·have z:((T.map λ_=>λ(_:Key)=>0).map (· k)).sum=0:=by
    rw[rY];exact Pq T
   rw[z];cases k with
   |slot i j k s'=>
    simp only[Has];split
    ·rename_i e he;exact(ends i j k e he).2 s'
    ·rfl
   |act i j k=>
    simp only[Has];split
    ·rename_i e he;rw[(ends i j k e he).1];rfl
    ·rfl
   |fI i=>
    simp only[Has];split
    ·split
     ·rename_i x hx;obtain⟨y,_,rfl⟩:=lz x (gA hx)
      rfl
     ·rfl
    ·rfl
   |fX i=>
    simp only[Has];rw[gu];rintro⟨h1,h2,h3,_⟩;have h2:i<1:=h2;exact h3 (by show i=0;omega)
   |lock=>rfl
abbrev iE:=Wor×List fN×List fx
def yo(e:fx)(x:fN):fx:={ e with op:=x.done,qN:=!x.on }
def G0(s:iE)(t:Nat):iE:=match s.2.1[t]? with
 |some x=>match x.ops[x.done]? with
  |some o=>match x2 s.1 (jo x t o) with
   |some r=>(r.1,s.2.1.set t (jk x r.2.1),s.2.2++[yo r.2.2 x])
   |none=>s
  |none=>s
 |none=>s
def yV(s:iE)(p:Int):iE:=match (qJ s.2.1 s.2.1.length)[(p%(qJ s.2.1 s.2.1.length).length).toNat]? with
 |some t=>G0 s t
 |none=>s
def Fc{X:List fN}:∀{k t:Nat},t∈qJ X k↔t<k/\∃x,X[t]?=some x/\x.done<x.ops.length
 |0,t=>by simp[qJ]
 |k+1,t=>by
  unfold qJ;cases hx:X[k]? with
  |none=>
   dsimp only;rw[Fc];constructor
   ·rintro⟨h,q⟩;exact⟨aw,q⟩
   ·rintro⟨h,x,hx2,q⟩;refine⟨?_,x,hx2,q⟩;rcases pY t k with h|h
    ·exact h
    ·have:t=k:=by omega
     subst this;rw[hx]at hx2;cases hx2
  |some y=>
   dsimp only;split
   ·rename_i hd;rw[Fc];constructor
    ·rintro⟨h,q⟩;exact⟨aw,q⟩
    ·rintro⟨h,x,hx2,q⟩;refine⟨?_,x,hx2,q⟩;rcases pY t k with h|h
     ·exact h
     ·have:t=k:=by omega
      subst this;rw[hx]at hx2;cases hx2
      omega
   ·rename_i hd;rw[gT,Fc,gS];constructor
    ·rintro(⟨h,q⟩|rfl)
     ·exact⟨aw,q⟩
     ·exact⟨aw,y,hx,aw⟩
    ·rintro⟨h,x,hx2,q⟩;rcases pY t k with h|h
     ·exact .inl ⟨h,x,hx2,q⟩
     ·exact .inr aw
def ye{N K:Nat}{s:iE}(gi:GI N K s.1 s.2.1)(p:Int)(hN:N<=100000000)(hK:K<=1099511627776):
  (qJ s.2.1 s.2.1.length=[]/\yV s p=s)\/∃t x o r,(qJ s.2.1 s.2.1.length)[(p%(qJ s.2.1 s.2.1.length).length).toNat]?=some t/\s.2.1[t]?=some x/\x.ops[x.done]?=some o/\z7 s.1 (jo x t o)=true/\iB (jo x t o)/\x2 s.1 (jo x t o)=some r/\r.2.2.access≠0/\
   yV s p=(r.1,s.2.1.set t (jk x r.2.1),s.2.2++[yo r.2.2 x])/\GI (N+1) (K+1) r.1 (s.2.1.set t (jk x r.2.1)):=by
 by_cases ha:qJ s.2.1 s.2.1.length=[]
 ·refine .inl ⟨ha,?_⟩;unfold yV;rw[ha]
  rfl
 ·right
  have hl:0<(qJ s.2.1 s.2.1.length).length:=uj.2 ha;have b0:=sR p (show((qJ s.2.1 s.2.1.length).length:Int)≠0 by omega);have b1:=sS p (show(0:Int)<(qJ s.2.1 s.2.1.length).length by omega);obtain⟨t,ht⟩:∃t,(qJ s.2.1 s.2.1.length)[(p%(qJ s.2.1 s.2.1.length).length).toNat]?=some t:=⟨_,gp aw⟩;obtain⟨_,x,hx,hd⟩:=Fc.1 (gA ht);obtain⟨o,ho⟩:∃o,x.ops[x.done]?=some o:=⟨_,gp hd⟩;obtain⟨h1,h2,r,h3,h4,h5⟩:=Yk gi hx ho hN hK;refine⟨t,x,o,r,ht,hx,ho,h1,h2,h3,h4,?_,h5⟩;unfold yV G0;rw[ht];dsimp only;rw[hx];dsimp only;rw[ho];dsimp only;rw[h3]
def GI.mono{N K N' K':Nat}{w:Wor}{X:List fN}(h:GI N K w X)(hN:N<=N')(hK:K<=K'):GI N' K' w X:=⟨h.st.mono hN hK,h.tg.mono hN,h.len,h.ops,h.own⟩
def Zt{N K:Nat}{s:iE}(gi:GI N K s.1 s.2.1)(p:Int)(hN:N<=100000000)(hK:K<=1099511627776):GI (N+1) (K+1) (yV s p).1 (yV s p).2.1:=by
 rcases ye gi p hN hK with⟨_,h⟩|⟨t,x,o,r,_,_,_,_,_,_,_,h,h2⟩
 ·rw[h];exact gi.mono aw aw
 ·rw[h];exact h2
def iK(s:iE)(l:List Int)(k:Nat):iE:=(l.take k).foldl yV s
def ks{s:iE}{l:List Int}{k:Nat}{p:Int}(h:l[k]?=some p):iK s l (k+1)=yV (iK s l k) p:=by
 unfold iK;obtain⟨h1,h2⟩:=gm.1 h;rw[rb h1,sJ,h2]
 rfl
def BT{N K:Nat}{s:iE}(gi:GI N K s.1 s.2.1)(l:List Int):∀k,k<=l.length->N+k<=100000000->K+k<=1099511627776->GI (N+k) (K+k) (iK s l k).1 (iK s l k).2.1
 |0,_,_,_=>gi
 |k+1,hk,hN,hK=>by
  have ih:=BT gi l k aw aw aw;rw[ks (gp aw)];exact Zt ih _ aw aw
def Va{l:List Int}:∀{s:iE},qJ s.2.1 s.2.1.length=[]->l.foldl yV s=s:=by
 induction l with
 |nil=>intro s _;rfl
 |cons p l ih=>
  intro s h;have:yV s p=s:=by unfold yV;rw[h];rfl
  rw[eK,this];exact ih h
end Go.Wor
