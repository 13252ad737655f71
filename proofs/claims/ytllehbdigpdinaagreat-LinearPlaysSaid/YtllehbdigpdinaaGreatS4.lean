import Derived.Test.YtllehbdigpdinaaGreatS3
import Derived.Test.YtllehbdigpdinaaGreatS1
import Derived.Test.YtllehbdigpdinaaGreatS2
set_option linter.all false
set_option maxRecDepth 100000
set_option maxHeartbeats 4000000
namespace Go.Wor
open Go.Ab Go.Proofs Tryz Go.Gat Go.Nam Go.Hos Go.Con Go.Sna
open Go.Hy hiding encI
section
variable {N K:Nat} {w:Wor} {m:eR} {v:fc} {g:Gr} {e:En}
def MC(hat:fS w m v g e)(ow:∀x,j7 m x<=Has w x){p:Nat}(h:ph m=p)(hp:p=2\/p=3):0<=m.slot/\m.slot<e.next.length/\m.slot∉(Slp.qG e).1:=by
 have:=Ef ow h (.slot m.version m.zj m.end_ m.slot) (by simp[qe,hp]);rw[Ih hat]at this;unfold iE at this;split at this
 ·assumption
 ·omega
def XK(hat:fS w m v g e)(ow:∀x,j7 m x<=Has w x){p:Nat}(h:ph m=p)(hp:p=3\/p=4):1<=e.zi:=by
 have:=Ef ow h (.act m.version m.zj m.end_) (by simp[qe,hp]);rw[OH hat]at this;omega
def Vc(st:St N K w)(tg:Tg N w)(su:qF w m v g e)(tm:fT m)(lo:GM w m v g e)(hk:m.op.kind=2)(hN:N<=100000000)(hK:K<=1099511627776)(ow:∀x,j7 m x<=Has w x):∃r,xa w m v g e=some r/\Nc N K w m GM Km r:=by
 obtain⟨f1,f2,f3,f4,f5,f6,f7⟩:=vW st su;have st1:St (N+1) (K+1) w:=st.mono aw aw;have tg1:=tg.mono (pY N);have te:=C2 tg su.at_;have hs:=UK f1 f2;have pc:=lo.pc;unfold xa;rcases(by omega:m.pc=0\/m.pc=1\/m.pc=2\/m.pc=3\/m.pc=4\/m.pc=9) with p|p|p|p|p|p
 ·have l0:=lo.fi aw;rw[gk p];exact zQ O ⟨uX,st1,tg1,⟨tm.listen,f6.1,tm.link,tm.host,tm.path,tm.d0,tm.d1,tm.cfg,tm.mz⟩,rfl,rfl,jR.refl w _,qj w (C5 (p:=3) (i6 su.done hk uM) (i6 su.done hk uM) O O O O O),.inr ⟨v,g,e,uQ,⟨uL,λ_=>l0,λ_=>⟨gR _,hs⟩,uK⟩⟩⟩
 ·have l0:=lo.fi aw;have lt:=lo.tag (.inl p);obtain⟨h0,h1,h2⟩:=MC su.at_ ow (p:=3) (i6 su.done hk uM) (.inr O);have hw: -1<=zA m.word:=by show -1<=m.word%4294967296-1;omega
  obtain⟨b1,b2⟩:=Slp.Wa (v:=zA m.word) f1 h0 h2;have hlen:(vD m e).next.length=e.next.length:=r4
  have hok:(vD m e).ok:=⟨f6.1,⟨λx hx=>by
   rcases mem_set hx with hx|rfl
   ·exact f6.2.1.1 x hx
   ·unfold i64;omega,by rw[hlen];exact f6.2.1.2⟩,f6.2.2⟩
  have st2:=st1.lD su.at_ (e':=qV (vD m e) e.head e.zi) (tk:=g.zt) b2 hlen hok f7 aO;rw[gf aw,gk p]
  exact zQ O ⟨tN,st2,CP tg1 su.at_ (e':=qV (vD m e) e.head e.zi) ⟨by have:=te.1;show mr e<=_;omega,λx hx=>by
    rcases mem_set hx with hx|rfl
    ·exact te.2 x hx
    ·exact⟨hw,lt.2⟩⟩,uO,rfl,rfl,wE su.at_ (e':=qV (vD m e) e.head e.zi) ⟨hlen,gR _,λ_=>O,λs s0 hso=>by
    show(e.next.set m.slot.toNat _)[s.toNat]?=_;rw[gV];intro hc;have hc:s=m.slot:=aw
    rw[hc,jA (p:=3) (i6 su.done hk uM)]at hso;simp[qe]at hso⟩,OR su.at_ (e':=qV (vD m e) e.head e.zi) hlen (by rw[show Slp.qG (qV (vD m e) e.head e.zi)=Slp.qG e from b1]) O (C5 (p:=3) (i6 su.done hk uM) (i6 su.done hk uM) O O O O O),
   .inr ⟨_,_,_,w7 (e':=qV (vD m e) e.head e.zi) (m':={m with pc:=2}) su hlen st2.jz O su.done O O O O O O O O,⟨uL,λ_=>l0,λ_=>lt,λ_=>by
    show(e.next.set m.slot.toNat _)[m.slot.toNat]?=_;rw[gu aw]⟩⟩⟩
 ·have l0:=lo.fi aw;obtain⟨h0,h1,h2⟩:=MC su.at_ ow (p:=3) (i6 su.done hk uM) (.inr O);rw[gf aw,gf aw,gk p];by_cases q:e.head=m.word
  ·rw[gk q];have hx:=lo.next p;have hh:zA m.word=Slp.zA e:=by rw[<-q];rfl
   rw[hh]at hx;obtain⟨c1,c2,c3⟩:=Xj f6 f1 h0 h1 h2;rw[yk _ _ hx,q]at c1 c2 c3;have nt:=NN (i:=m.slot) te.1 f6.1 hN aw aw;rw[q]at nt;have st2:=st1.lD su.at_ (e':=qV e (Slp.jb m.word m.slot) e.zi) (tk:=g.zt) c1 O c2 f7 aO;have ta:mr (qV e (Slp.jb m.word m.slot) e.zi)=mr e+1:=by unfold mr;rw[q];exact nt
   exact zQ O ⟨aP,st2,CP tg1 su.at_ (e':=qV e (Slp.jb m.word m.slot) e.zi) ⟨by have:=te.1;omega,te.2⟩,uO,rfl,rfl,wE su.at_ (e':=qV e (Slp.jb m.word m.slot) e.zi) ⟨rfl,aw,λh=>by omega,λ_ _ _=>O⟩,
    oO (p:=3) (p':=4) (i6 su.done hk uM) (i6 su.done hk uM) (Zf su.at_ (e':=qV e (Slp.jb m.word m.slot) e.zi) O h0 h1 c3 h2 O m.listen),.inr ⟨_,_,_,w7 (e':=qV e (Slp.jb m.word m.slot) e.zi) (m':={m with pc:=3}) su O st2.jz O su.done O O O O O O O O,
    ⟨uL,λ_=>l0,uK,uK⟩⟩⟩
  ·rw[gf q];exact zQ O ⟨aQ,st1,tg1,uO,rfl,rfl,jR.refl w _,qj w (C5 (p:=3) (i6 su.done hk uM) (i6 su.done hk uM) O O O O O),.inr ⟨v,g,e,uQ,⟨uL,λ_=>l0,uK,uK⟩⟩⟩
 ·have l0:=lo.fi aw;have a1:=XK su.at_ ow (p:=4) (i6 su.done hk uM) (.inr O);have hw:IntKind.i64.wrap (e.zi-1)=e.zi-1:=qb aw aw;have st2:=st1.lD su.at_ (e':=qV e e.head (e.zi-1)) (tk:=g.zt) (OJ f1 _ aw) O ⟨f6.1,f6.2.1,by show i64 (e.zi-1);unfold i64;omega⟩ f7 (by show e.zi-1<=_;omega);rw[gf aw,gf aw,gf aw,gk p,hw]
  exact zQ O ⟨tP,st2,CP tg1 su.at_ (e':=qV e e.head (e.zi-1)) (show A3 (N+1) e from C2 tg1 su.at_),uO,rfl,rfl,wE su.at_ (e':=qV e e.head (e.zi-1)) ⟨rfl,gR _,λ_=>O,λ_ _ _=>O⟩,
   oO (p:=4) (p':=1) (i6 su.done hk uM) (i6 su.done hk uM) (Zc su.at_ (e':=qV e e.head (e.zi-1)) O O a1 O m.slot m.listen),.inr ⟨_,_,_,w7 (e':=qV e e.head (e.zi-1)) (m':={m with pc:=4}) su O st2.jz O su.done O O O O O O O O,
   ⟨uL,λ_=>l0,uK,uK⟩⟩⟩
 ·have l0:=lo.fi aw;have p1:ph m=1:=(i6 su.done hk uM);obtain⟨_,x,hx,x1⟩:=N2 ow p1 ar;have ca:=st.iy.fi x (gh hx);have hw:IntKind.i64.wrap (x.zi-1)=x.zi-1:=qb aw aw;have st2:=IH st su hx (x.zi-1) aw aw hK;unfold wi;rw[gf aw,gf aw,gf aw,gf aw,gk p,gf aw,hx,gF];unfold Bw;rw[hw];exact zQ O ⟨tP,st2,tg1,uP,rfl,rfl,DU hx O id,oO (p:=1) (p':=0) p1 (yQ O (λh=>absurd (hk.symm.trans h.1) ar)) (NL l0 hx x1 O _ _ _ _ _ _ _ _ _),.inl ⟨rfl,.inl ⟨rfl,p⟩⟩⟩
 ·rw[gf aw,gf aw,gf aw,gf aw,gf aw,gk p];exact zQ O ⟨uX,st1,tg1,uP,rfl,rfl,jR.refl w _,qj w (kO (i6 su.done hk uM) (yQ O (λh=>absurd (hk.symm.trans h.1) ar))),.inl ⟨rfl,.inr ⟨rfl,p⟩⟩⟩
def XL(ow:∀x,j7 m x<=Has w x)(h:ph m=5):m.version≠w.current/\∀r∈w.zr,r.version≠m.version:=by
 have:=Ef ow h (.fI m.version) (by simp[qe]);simp only[Has]at this;split at this
 ·rename_i q;exact⟨q.2.2.1,q.2.2.2⟩
 ·omega
def Nn(w:Wor)(n:Int){x:fc}(hx:∀g∈x.zq,∀e∈g.ends,e.zi=0/\∀s,iE e s=0)(i j k:Int):
  iV {w with current := n, ze := w.ze ++ [x]} i j k = iV w i j k \/ (iV w i j k = none /\ ∃e, iV {w with current := n, ze := w.ze ++ [x]} i j k = some e /\ e.zi = 0 /\ ∀s, iE e s = 0) := by
 unfold iV wO;dsimp only;by_cases q:0<=i/\0<=j/\0<=k
 ·rw[gk q,gk q];by_cases h:i.toNat<w.ze.length
  ·rw[gz h];exact .inl O
  ·rw[gK aw,pV (show w.ze.length<=i.toNat by omega),uw];cases hv:[x][i.toNat-w.ze.length]? with
   |none=>exact .inl O
   |some y=>
    have:y=x:=gN.1 (gh hv);subst this;rw[gX];cases hg:y.zq[j.toNat]? with
    |none=>exact .inl O
    |some g=>
     rw[gX];cases he:g.ends[k.toNat]? with
     |none=>exact .inl O
     |some e=>exact .inr ⟨rfl,e,rfl,hx g (gh hg) e (gh he)⟩
 ·rw[gf q,gf q];exact .inl O
def T6(gw:jQ w){x:fc}(hx:∀g∈x.zq,∀e∈g.ends,e.zi=0/\∀s,iE e s=0)(a b c d l a' b' c' l':Int):Mv w {w with current:=w.ze.length,ze:=w.ze++[x]} (qe 0 d a b c l) (qe 5 w.current a' b' c' l'):=λy=>by
 have cu:=gw.current;rw[kZ];cases y with
 |slot i j k s=>
  have:qe 5 w.current a' b' c' l' (.slot i j k s)=0:=by simp[qe]
  rw[this];rcases Nn w w.ze.length hx i j k with q|⟨q,e,q1,q2,q3⟩
  ·simp only[Has,q]
  ·simp only[Has,q,q1,q3]
 |act i j k=>
  have:qe 5 w.current a' b' c' l' (.act i j k)=0:=by simp[qe]
  rw[this];rcases Nn w w.ze.length hx i j k with q|⟨q,e,q1,q2,q3⟩
  ·simp only[Has,q]
  ·simp only[Has,q,q1,q2];rfl
 |fi i=>simp[Has,qe]
 |lock=>simp[Has,qe]
 |fI i=>
  have la:∀r∈w.zr,r.version≠w.current/\r.version<w.ze.length:=λr hr=>by
   obtain⟨i,hi⟩:=gQ.1 hr;have:=Cz gw hi;exact⟨this.2.2.2.2,this.2.2.2.1⟩
  simp only[Has,qe,uv,gE,rP];by_cases q:w.current=i
  ·rw[gk (show 0<=i/\_/\_/\_ from⟨aw,aw,aw,λr hr=>by have:=la r hr;omega⟩),gf aw,gk q]
  ·rw[gf q];by_cases q2:0<=i/\i<w.ze.length/\i≠w.current/\∀r∈w.zr,r.version≠i
   ·rw[gk q2,gk ⟨q2.1,aw,aw,q2.2.2.2⟩]
   ·rw[gf q2,gf (λz=>q2 ⟨z.1,aw,aw,z.2.2.2⟩)]
def We{x:fA}(h0:0<=x.version/\x.version<w.ze.length)(h1:x.version≠w.current)(h2:∀r∈w.zr,r.version≠x.version)(a b c a' b' c' d' l l':Int):Mv w {w with zr:=w.zr++[x]} (qe 5 x.version a b c l) (qe 0 d' a' b' c' l'):=λy=>by
 rw[kZ];cases y with
 |slot i j k s=>simp[Has,qe];rfl
 |act i j k=>simp[Has,qe];rfl
 |fi i=>simp[Has,qe]
 |lock=>simp[Has,qe]
 |fI i=>
  simp only[Has,qe,uv];by_cases q:x.version=i
  ·rw[gf (λz=>z.2.2.2 x aj q),gk q,gk (q ▸ ⟨h0.1,h0.2,h1,h2⟩)]
  ·rw[gf q];by_cases q2:0<=i/\i<w.ze.length/\i≠w.current/\∀r∈w.zr,r.version≠i
   ·rw[gk q2,gk ⟨q2.1,q2.2.1,q2.2.2.1,λr hr=>by
     rcases gO.1 hr with hr|hr
     ·exact q2.2.2.2 r hr
     ·rw[gN.1 hr];exact q⟩]
   ·rw[gf q2,gf (λz=>q2 ⟨z.1,z.2.1,z.2.2.1,λr hr=>z.2.2.2 r (gO.2 (.inl hr))⟩)]
def Yx{x:fF}(h:Gg x)(n:Nat):A3 n (xG x)/\∀s,iE (xG x) s=0:=by
 have hs:=h.xP;unfold xG;have:x.xP=1\/x.xP=2\/x.xP=3\/x.xP=4:=aw
 rcases this with e|e|e|e <;> rw[e]
 ·refine⟨⟨aR,ar⟩,λs=>?_⟩;unfold iE;rw[gf];rintro⟨h1,h2,h3⟩;have h2:s<1:=h2;have:s=0:=by omega
  subst this;exact dW
 ·refine⟨⟨aR,ar⟩,λs=>?_⟩;unfold iE;rw[gf];rintro⟨h1,h2,h3⟩;have h2:s<2:=h2;have:s=0\/s=1:=by omega
  rcases this with rfl|rfl
  ·exact dW
  ·exact dW
 ·refine⟨⟨aR,ar⟩,λs=>?_⟩;unfold iE;rw[gf];rintro⟨h1,h2,h3⟩;have h2:s<3:=h2;have:s=0\/s=1\/s=2:=by omega
  rcases this with rfl|rfl|rfl
  ·exact dW
  ·exact dW
  ·exact dW
 ·refine⟨⟨aR,ar⟩,λs=>?_⟩;unfold iE;rw[gf];rintro⟨h1,h2,h3⟩;have h2:s<4:=h2;have:s=0\/s=1\/s=2\/s=3:=by omega
  rcases this with rfl|rfl|rfl|rfl
  ·exact dW
  ·exact dW
  ·exact dW
  ·exact dW
def Ni{s:Sna}(h:yY s=true)(n:Nat):∀g∈(qD s).1.zq,∀e∈g.ends,A3 n e/\e.zi=0/\∀t,iE e t=0:=λg hg e he=>by
 unfold qD at hg;rw[gk h]at hg;obtain⟨x,hx,rfl⟩:=gZ.1 (show g∈s.zk.map lu from hg);rw[pw (show e∈List.replicate x.zJ.length (xG x) from he)];have gc:=(jN h).all x hx;have f:=kI gc;have q:=Yx gc n;exact⟨q.1,f.2.2.1,q.2⟩
def YG(st:St N K w)(tg:Tg N w)(su:qF w m v g e)(tm:fT m)(lo:GN w m v g e)(hk:m.op.kind=3)(ow:∀x,j7 m x<=Has w x):∃r,yL w m=some r/\Nc N K w m GN BL r:=by
 have gw:=st.jz;have st1:St (N+1) (K+1) w:=st.mono aw aw;have tg1:=tg.mono (pY N);have pc:=lo.pc;have cu:=gw.current;unfold yL;rcases(by omega:m.pc=0\/m.pc=1\/m.pc=2) with p|p|p
 ·rw[gk p];by_cases q:nz m.op.config=0
  ·rw[gk q];have hc:(qg m.op.config).1=0:=by rw[<-vt];exact q
   have st2:=st.On hc (tm.cfg hk);have fr:=Ni (E8 hc);obtain⟨v',hv'⟩:∃v',w.ze[w.current.toNat]?=some v':=⟨_,dZ aw⟩;have gv:=(gw.fI _ v' hv').1;have h0:0<v'.zq.length:=aF
   obtain⟨g',e',hg,he,l1,l2⟩:=wR gv h0
   exact zQ O ⟨(by show(6:Int)≠0;decide),st2,λv2 hv g2 hg e2 he=>by
     rcases gO.1 hv with hv|hv
     ·exact tg1 v2 hv g2 hg e2 he
     ·rw[gN.1 hv]at hg;exact(fr (N+1) g2 hg e2 he).1,uO,rfl,rfl,V8,oO (p:=0) (p':=5) (AB su.done hk uM) (AB su.done hk uM) (T6 gw (λg hg e he=>(fr 0 g hg e he).2) _ _ _ _ _ _ _ _ _),.inr ⟨v',g',e',⟨qo.2 st2.jz,su.zf,su.done,⟨cu.1,aS⟩,
    by show(w.ze++[yK m.op.config])[w.current.toNat]?=some v';rw[gz aw];exact hv',⟨gR _,aL⟩,hg,⟨gR _,aL⟩,he,⟨gR _,aL⟩,⟨gR _,aL⟩,su.listen,by show(0:Int)<=(w.ze.length:Nat);omega,su.k⟩,
    ⟨uL,uK⟩⟩⟩
  ·rw[gf q];exact zQ O ⟨uX,st1,tg1,uP,rfl,rfl,jR.refl w _,qj w (kO (AB su.done hk uM) (yQ O (λh=>absurd (hk.symm.trans h.1) ar))),.inl ⟨rfl,by show(7:Int)<=9/\(9:Int)<=13;decide⟩⟩
 ·have ep:=(qf.1 gw.ground).zo;rw[gf aw,gk p];exact zQ O ⟨uX,st1,tg1,uO,rfl,rfl,jR.refl w _,qj w (zyx (AB su.done hk uM) (AB su.done hk uM) O),.inr ⟨v,g,e,uQ,⟨uL,λ_=>⟨ep.1,gR _⟩⟩⟩⟩
 ·have p5:ph m=5:=(AB su.done hk uM);have vf:=XL ow p5;have ep:=lo.ep p;have sv:=su.version
  have nl:wW w m=false:=by
   unfold wW;simp only[pD,pd,pq,beq_eq_false_iff_ne,pn];exact⟨⟨⟨λr hr=>vf.2 r hr,vf.1⟩,aw⟩,aw⟩
  have st2:=st.Pp (x:=⟨m.version,m.zo,false⟩) sv.1 sv.2 vf.1 ep.1 ep.2 O vf.2;rw[gf aw,gf aw,gk p,nl];exact zQ O ⟨tN,st2,tg1,uP,rfl,rfl,XQ,oO (p:=5) (p':=0) p5 (yQ O (λh=>absurd (hk.symm.trans h.1) ar)) (We (x:=⟨m.version,m.zo,false⟩) sv vf.1 vf.2 _ _ _ _ _ _ _ _ _),.inl ⟨rfl,by show(7:Int)<=8/\(8:Int)<=13;decide⟩⟩
def Xd(st:St N K w)(tg:Tg N w)(su:qF w m v g e)(tm:fT m)(lo:m.pc=0)(hk:m.op.kind=4)(hN:N<=100000000):∃r,vz w m=some r/\Nc N K w m (λ_ m _ _ _=>m.pc=0) BL r:=by
 have gw:=st.jz;have st1:St (N+1) (K+1) w:=st.mono aw aw;have tg1:=tg.mono (pY N);have pr:=Ly w.zd m.op.listen;have hl:=st.ty.fi;have p0:ph m=0:=D7 su.done aw aw aw aw;unfold vz;rw[gk lo];by_cases q:zx w.zd m.op.listen<0
 ·rw[gk q];exact zQ O ⟨uX,st1,tg1,uP,rfl,rfl,jR.refl w _,qj w (kO p0 (yQ O (λh=>absurd (hk.symm.trans h.1) ar))),.inl ⟨rfl,by show(7:Int)<=7/\(7:Int)<=13;decide⟩⟩
 ·rw[gf q];obtain⟨x,hx⟩:∃x,w.zd[(zx w.zd m.op.listen).toNat]?=some x:=⟨_,dZ aw⟩;have li:=FZ (gw.fi _ x hx).1;have lk:=st.ty.mN x (gh hx);have ca:=st.iy.fi x (gh hx);rw[hx,gF];have st2:=st1.D2 hx (y:=Go.Gat.yD x) O (Fz li.1 li.2.1 O) lk.2 (by show x.zi<=_;omega);exact zQ O ⟨tN,st2,tg1,⟨aK,tm.word,tm.link,tm.host,tm.path,tm.d0,tm.d1,tm.cfg,(λh=>absurd ((show m.op.kind=6 from h).symm.trans hk) ar)⟩,rfl,rfl,DU hx O (λ_=>O),L4 (y:=Go.Gat.yD x) aw hx O (kO p0 (yQ O (λh=>absurd (hk.symm.trans h.1) ar))),.inl ⟨rfl,by show(7:Int)<=10/\(10:Int)<=13;decide⟩⟩
def Xe(st:St N K w)(tg:Tg N w)(su:qF w m v g e)(tm:fT m)(lo:Dr w m v g e)(hk:m.op.kind=6):∃r,yu w m=some r/\Nc N K w m Dr BL r:=by
 have st1:St (N+1) (K+1) w:=st.mono aw aw;have tg1:=tg.mono (pY N);have i0:=su.i;have k0:=su.k;have ik:=lo.i;have kk:=lo.k;have eU:m.i.toNat<w.counts.length:=aw
 have hl:=(qf.1 st.jz.ground).counts.2 _ (gW eU);have p0:ph m=0:=D7 su.done aw aw aw aw;unfold yu;rw[gk ⟨lo.pc,lo.k⟩,dZ eU,gX,dZ (show m.k.toNat<(w.counts[m.i.toNat]).length by omega),gF];generalize (w.counts[m.i.toNat])[m.k.toNat]'aw=n;by_cases h6:m.k+1=6
 ·by_cases h7:m.i+1=w.counts.length
  ·have e3:=Ja (n:=n) h6 h7
   exact zQ O ⟨uX,st1,tg1,by
     show fT (jo w m n);rw[e3];exact⟨tm.listen,tm.word,tm.link,tm.host,tm.path,tm.d0,tm.d1,tm.cfg,λ_ h=>aT⟩,by show(jo w m n).op=m.op;rw[e3],by show(jo w m n).zf=m.zf;rw[e3],jR.refl w _,qj w (kO p0 (by show ph (jo w m n)=0;rw[e3];exact yQ O (λh=>absurd (hk.symm.trans h.1) ar))),.inl (by
     show(jo w m n).done=true/\BL (jo w m n);rw[e3];exact⟨rfl,by show(7:Int)<=13/\(13:Int)<=13;decide⟩)⟩
  ·have e2:=I9 (n:=n) h6 h7
   exact zQ O ⟨uX,st1,tg1,by
     show fT (jo w m n);rw[e2];exact uO,by show(jo w m n).op=m.op;rw[e2],by show(jo w m n).zf=m.zf;rw[e2],jR.refl w _,qj w (kO p0 (by show ph (jo w m n)=0;rw[e2];exact D7 su.done (by show m.op.kind≠1;omega) (by show m.op.kind≠2;omega) (by show m.op.kind≠3;omega) (by show m.op.kind≠5;omega))),.inr ⟨v,g,e,by
     show qF w (jo w m n) v g e;rw[e2];exact⟨su.world,su.zf,su.done,su.version,su.fH,su.zj,su.fE,su.end_,su.fL,su.other,su.slot,su.listen,by show 0<=m.i+1;omega,gR _⟩,by
     show Dr w (jo w m n) v g e;rw[e2];exact⟨lo.pc,by show(0:Int)<6;decide,by show m.i+1<_;omega⟩⟩⟩
 ·have e1:=I8 (w:=w) (n:=n) h6 aw
  exact zQ O ⟨uX,st1,tg1,by
    show fT (jo w m n);rw[e1];exact uO,by show(jo w m n).op=m.op;rw[e1],by show(jo w m n).zf=m.zf;rw[e1],jR.refl w _,qj w (kO p0 (by show ph (jo w m n)=0;rw[e1];exact D7 su.done (by show m.op.kind≠1;omega) (by show m.op.kind≠2;omega) (by show m.op.kind≠3;omega) (by show m.op.kind≠5;omega))),.inr ⟨v,g,e,by
    show qF w (jo w m n) v g e;rw[e1];exact⟨su.world,su.zf,su.done,su.version,su.fH,su.zj,su.fE,su.end_,su.fL,su.other,su.slot,su.listen,su.i,by show 0<=m.k+1;omega⟩,by
    show Dr w (jo w m n) v g e;rw[e1];exact⟨lo.pc,by show m.k+1<6;omega,lo.i⟩⟩⟩
end
def Zd{w:Wor}(h:w.lock=0)(a b c d l a' b' c' d' l':Int):Mv w {w with lock:=1} (qe 0 a b c d l) (qe 6 a' b' c' d' l'):=λy=>by
 rw[kZ];cases y with
 |slot i j k s=>simp[Has,qe];rfl
 |act i j k=>simp[Has,qe];rfl
 |fi i=>simp[Has,qe]
 |fI i=>simp[Has,qe]
 |lock=>simp[Has,qe,h]
def Wf{w:Wor}(h:w.lock=1)(a b c d l a' b' c' d' l':Int):Mv w {w with lock:=0} (qe 6 a' b' c' d' l') (qe 0 a b c d l):=λy=>by
 rw[kZ];cases y with
 |slot i j k s=>simp[Has,qe];rfl
 |act i j k=>simp[Has,qe];rfl
 |fi i=>simp[Has,qe]
 |fI i=>simp[Has,qe]
 |lock=>simp[Has,qe,h]
def Xx{w:Wor}{i k:Nat}{v:fc}{x:fA}{a b:Key->Nat}(hv:w.ze[k]?=some v)(hx:w.zr[i]?=some x)(h:a=b):Mv w {w with ze:=w.ze.set k (AG v),zr:=w.zr.set i (wU x)} a b:=λy=>by
 rw[h]
 have en:∀p q r,iV {w with ze:=w.ze.set k (AG v),zr:=w.zr.set i (wU x)} p q r=iV w p q r:=λp q r=>by
  unfold iV wO;dsimp only;by_cases z:k=p.toNat
  ·subst z;rw[gu (dY.1 hv).1,hv,gX,gX]
  ·rw[gV z]
 cases y with
 |slot p q r s=>simp only[Has,en]
 |act p q r=>simp only[Has,en]
 |fi p=>rfl
 |lock=>rfl
 |fI p=>
  have ml:(∀r∈w.zr.set i (wU x),r.version≠p)↔∀r∈w.zr,r.version≠p:=by
   constructor
   ·intro z r hr;obtain⟨j,hj⟩:=gQ.1 hr;by_cases e:i=j
    ·subst e;rw[hx]at hj;cases hj
     exact z (wU x) (gQ.2 ⟨i,gu (dY.1 hx).1⟩)
    ·exact z r (gQ.2 ⟨j,by rw[gV e];exact hj⟩)
   ·intro z r hr;rcases mem_set hr with hr|rfl
    ·exact z r hr
    ·exact z x (gh hx)
  simp only[Has,r4,ml]
section
variable {N K:Nat} {w:Wor} {m:eR} {v:fc} {g:Gr} {e:En}
def Yw{i k:Nat}{x:fA}(tg:Tg N w)(hv:w.ze[k]?=some v):Tg N {w with ze:=w.ze.set k (AG v),zr:=w.zr.set i (wU x)}:=λv2 hv2 g hg e he=>by
 rcases mem_set hv2 with hv2|rfl
 ·exact tg v2 hv2 g hg e he
 ·exact tg v (gh hv) g hg e he
def VX(ow:∀x,j7 m x<=Has w x)(gw:jQ w)(h:ph m=6):w.lock=1:=by
 have:=Ef ow h .lock (by simp[qe]);have l:=(qf.1 gw.ground).lock;simp only[Has]at this;omega
def Pk{m1:eR}(st:St N K w)(tg:Tg N w)(su:qF w m1 v g e)(tm:fT m1)(hk:m1.op.kind=5)(hN:N<=100000000)(hpc:m1.pc=8)(ho:m1.op=m.op)(ht:m1.zf=m.zf)(p6:ph m=6)(lk:w.lock=1):Nc N K w m EO BL (l8 w m1):=by
 have st1:St (N+1) (K+1) w:=st.mono aw aw;have tg1:=tg.mono (pY N);have i0:=su.i;have hl:=st.ty.fi;unfold l8;cases hx:w.zd[m1.i.toNat]? with
 |none=>
  have st2:=st1.ES (n:=0) (.inl O);exact⟨tN,st2,tg1,⟨tm.listen,tm.word,tm.link,tm.host,tm.path,tm.d0,tm.d1,tm.cfg,λh=>absurd ((show m1.op.kind=6 from h).symm.trans hk) ar⟩,ho,ht,x9 (gR _) O O O O O,oO (p:=6) (p':=0) p6 (yQ O (λh=>absurd (hk.symm.trans h.1) ar)) (Wf lk _ _ _ _ _ _ _ _ _ _),.inl ⟨rfl,by show(7:Int)<=11/\(11:Int)<=13;decide⟩⟩
 |some l=>
  have eU:=(dY.1 hx).1;have hw:IntKind.i64.wrap (m1.i+1)=m1.i+1:=qb aw aw;dsimp only;by_cases q:l.drain=true/\l.closed=false
  ·unfold BN;rw[gk q];exact⟨uX,st1,tg1,uO,ho,ht,jR.refl w _,qj w (kP p6 (iS su.done hk uM)),.inr ⟨v,g,e,uQ,⟨uL,uK,uK,uK,λ_=>⟨l,hx,q.1⟩⟩⟩⟩
  ·unfold BN;rw[gf q,hw];exact⟨uX,st1,tg1,uO,ho,ht,jR.refl w _,qj w (kP p6 (iS su.done hk uM)),.inr ⟨v,g,e,⟨su.world,su.zf,su.done,su.version,su.fH,su.zj,su.fE,su.end_,su.fL,su.other,su.slot,su.listen,(by show 0<=m1.i+1;omega),su.k⟩,⟨by show _\/(8<=m1.pc/\m1.pc<=10);omega,uK,uK,uK,uK⟩⟩⟩
def S4(st:St N K w)(tg:Tg N w)(su:qF w m v g e)(tm:fT m)(lo:EO w m v g e)(hk:m.op.kind=5)(hN:N<=100000000)(ow:∀x,j7 m x<=Has w x):∃r,j8 w m=some r/\Nc N K w m EO BL r:=by
 have gw:=st.jz;have st1:St (N+1) (K+1) w:=st.mono aw aw;have tg1:=tg.mono (pY N);have i0:=su.i;have k0:=su.k;have gr:=qf.1 gw.ground;have lT:=st.ty.fi;have lL:=st.ty.iX;have pc:=lo.pc;have pcs:m.pc=0\/m.pc=1\/m.pc=2\/m.pc=3\/m.pc=4\/m.pc=5\/m.pc=6\/m.pc=8\/m.pc=9\/m.pc=10:=aw
 unfold j8;by_cases p:m.pc=0
 ·rw[gk p];by_cases q:w.lock=0
  ·rw[gk q];have st2:=st1.ES (n:=1) (.inr O);exact zQ O ⟨aP,st2,tg1,uO,rfl,rfl,x9 (gR _) O O O O O,oO (p:=0) (p':=6) (iS su.done hk uM) (iS su.done hk uM) (Zd q _ _ _ _ _ _ _ _ _ _),.inr ⟨v,g,e,⟨qo.2 st2.jz,su.zf,su.done,su.version,su.fH,su.zj,su.fE,su.end_,su.fL,su.other,su.slot,su.listen,su.i,su.k⟩,⟨uL,uK,uK,uK,uK⟩⟩⟩
  ·rw[gf q];exact zQ O ⟨aQ,st1,tg1,uP,rfl,rfl,jR.refl w _,qj w (kO (iS su.done hk uM) (yQ O (λh=>absurd (hk.symm.trans h.1) ar))),.inl ⟨rfl,by show(7:Int)<=12/\(12:Int)<=13;decide⟩⟩
 replace pcs:=pcs.resolve_left p
 have p6:ph m=6:=(iS su.done hk uM);have lk:=VX ow gw p6;have kl:j7 m .lock=1:=by rw[jA p6];simp[qe]
 rw[gf p];clear p
 by_cases p:m.pc=1
 ·rw[gk p];exact zQ O ⟨uX,st1,tg1,uO,rfl,rfl,jR.refl w _,qj w (kP p6 (iS su.done hk uM)),.inr ⟨v,g,e,uS,⟨uL,λ_=>by show(0:Int)<(w.pins.length:Nat);have:=gr.pins.1;omega,uK,uK,uK⟩⟩⟩
 replace pcs:=pcs.resolve_left p
 rw[gf p];clear p
 by_cases p:m.pc=2
 ·rw[gk p];have hi:=lo.nk p;obtain⟨x,hx⟩:∃x,w.pins[m.i.toNat]?=some x:=⟨_,dZ aw⟩;have hw:IntKind.i64.wrap (m.i+1)=m.i+1:=qb aw (by have:=gr.pins.2;omega);rw[hx,gF];unfold Az;rw[hw];by_cases q:x≠0/\x≠IntKind.i64.wrap (m.zo+1)
  ·rw[gk q];exact zQ O ⟨uX,st1,tg1,uO,rfl,rfl,jR.refl w _,qj w (kP p6 (iS su.done hk uM)),.inr ⟨v,g,e,uS,⟨uL,uK,uK,uK,uK⟩⟩⟩
  rw[gf q];by_cases q2:m.i+1<w.pins.length
  ·rw[gk q2];exact zQ O ⟨uX,st1,tg1,uO,rfl,rfl,jR.refl w _,qj w (kP p6 (iS su.done hk uM)),.inr ⟨v,g,e,uR,⟨aU,λ_=>q2,uK,uK,uK⟩⟩⟩
  ·rw[gf q2];exact dE
 replace pcs:=pcs.resolve_left p
 rw[gf p];clear p
 by_cases p:m.pc=3
 ·rw[gk p];by_cases q:w.zo=m.zo/\w.zo<1000000000000
  ·have hw:IntKind.i64.wrap (w.zo+1)=w.zo+1:=qb (by have:=gr.zo;omega) aw;rw[gk q,hw];have st2:=st1.GV (n:=w.zo+1) aw aw;exact zQ O ⟨aP,st2,tg1,uO,rfl,rfl,x9 (by show w.zo<=w.zo+1;omega) O O O O O,CK O O O O O (kP p6 (iS su.done hk uM)),.inr ⟨v,g,e,⟨qo.2 st2.jz,su.zf,su.done,su.version,su.fH,su.zj,su.fE,su.end_,su.fL,su.other,su.slot,su.listen,gR _,su.k⟩,⟨uL,uK,uK,uK,uK⟩⟩⟩
  ·rw[gf q];exact zQ O ⟨aQ,st1,tg1,uO,rfl,rfl,jR.refl w _,qj w (kP p6 (iS su.done hk uM)),.inr ⟨v,g,e,uS,⟨uL,uK,uK,uK,uK⟩⟩⟩
 replace pcs:=pcs.resolve_left p
 rw[gf p];clear p
 by_cases p:m.pc=4
 ·rw[gk p];cases hx:w.zr[m.i.toNat]? with
  |none=>exact zQ O (Pk st tg (m1:=iA m 8 0) uS uO hk hN O O O p6 lk)
  |some r=>
   have eU:=(dY.1 hx).1;have hw:IntKind.i64.wrap (m.i+1)=m.i+1:=qb aw aw;have la:=Cz gw hx;dsimp only;unfold Ay;rw[hw];by_cases q:r.gone=true\/Go.Lim.BD r.at_ m.zo=false
   ·rw[gk q];exact zQ O ⟨uX,st1,tg1,uO,rfl,rfl,jR.refl w _,qj w (kP p6 (iS su.done hk uM)),.inr ⟨v,g,e,uR,⟨aU,uK,uK,uK,uK⟩⟩⟩
   ·rw[gf q];obtain⟨v',hv'⟩:∃v',w.ze[r.version.toNat]?=some v':=⟨_,dZ aw⟩;have gv:=(gw.fI _ v' hv').1;have h0:0<v'.zq.length:=by have:=(jN gv.snap).zk.1;have:=gv.len;omega
    obtain⟨g',e',hg,he,l1,l2⟩:=wR gv h0;have el:=Np gv
    exact zQ O ⟨uX,st1,tg1,uO,rfl,rfl,jR.refl w _,qj w (kP p6 (iS su.done hk uM)),.inr ⟨v',g',e',⟨su.world,su.zf,su.done,⟨la.2.2.1,la.2.2.2.1⟩,hv',⟨gR _,aL⟩,hg,⟨gR _,aL⟩,he,⟨gR _,aL⟩,⟨gR _,aL⟩,su.listen,su.i,gR _⟩,
     ⟨uL,uK,λ_=>⟨r,hx,rfl,by cases hgo:r.gone with|false=>rfl|true=>exact absurd (.inl hgo) q⟩,λ_=>by show(0:Int)<_;omega,uK⟩⟩⟩
 replace pcs:=pcs.resolve_left p
 rw[gf p];clear p
 by_cases p:m.pc=5
 ·rw[gk p];obtain⟨r,hr,hrv,hrg⟩:=lo.iX (.inl p);have eU:=(dY.1 hr).1;have hk2:=lo.act p;have gv:=(gw.fI _ v su.fH).1;have el:=Np gv;have hw:IntKind.i64.wrap (m.i+1)=m.i+1:=qb aw aw;have hwk:IntKind.i64.wrap (m.k+1)=m.k+1:=qb aw aw;obtain⟨x,hx⟩:∃x,(yw v)[m.k.toNat]?=some x:=⟨_,dZ aw⟩;rw[su.fH,gX,hx,gF];unfold Bb;rw[hw,hwk];by_cases q:x.zi≠0
  ·rw[gk q];exact dE
  rw[gf q];by_cases q2:m.k+1<(yw v).length
  ·rw[gk q2];exact zQ O ⟨uX,st1,tg1,uO,rfl,rfl,jR.refl w _,qj w (kP p6 (iS su.done hk uM)),.inr ⟨v,g,e,⟨su.world,su.zf,su.done,su.version,su.fH,su.zj,su.fE,su.end_,su.fL,su.other,su.slot,su.listen,su.i,(by show 0<=m.k+1;omega)⟩,⟨aU,uK,λ_=>⟨r,hr,hrv,hrg⟩,λ_=>q2,uK⟩⟩⟩
  ·rw[gf q2];exact zQ O ⟨uX,st1,tg1,uO,rfl,rfl,jR.refl w _,qj w (kP p6 (iS su.done hk uM)),.inr ⟨v,g,e,⟨su.world,su.zf,su.done,su.version,su.fH,su.zj,su.fE,su.end_,su.fL,su.other,su.slot,su.listen,su.i,(by show 0<=m.k+1;omega)⟩,⟨uL,uK,λ_=>⟨r,hr,hrv,hrg⟩,uK,uK⟩⟩⟩
 replace pcs:=pcs.resolve_left p
 rw[gf p];clear p
 by_cases p:m.pc=6
 ·rw[gk p];obtain⟨r,hr,hrv,hrg⟩:=lo.iX (.inr p);have eU:=(dY.1 hr).1;have hw:IntKind.i64.wrap (m.i+1)=m.i+1:=qb aw aw;have st2:=st.qQ su.version.1 su.fH hr hrv;have s1:=(dY.1 su.fH).1;rw[su.fH,gX,hr,gX,gk ⟨hrv,hrg⟩];unfold Ds;rw[hw]
  exact zQ O ⟨tN,st2,Yw tg1 su.fH,uP,rfl,rfl,Uk kl su.fH hr,Xx su.fH hr (kP p6 (iS su.done hk uM)),.inr ⟨AG v,g,e,⟨qo.2 st2.jz,su.zf,su.done,aq su.version,gu s1,su.zj,su.fE,su.end_,su.fL,su.other,su.slot,su.listen,by show 0<=m.i+1;omega,su.k⟩,
   ⟨uL,uK,uK,uK,uK⟩⟩⟩
 replace pcs:=pcs.resolve_left p
 rw[gf p];clear p
 by_cases p:m.pc=8
 ·rw[gk p];exact zQ O (Pk st tg su tm hk hN p O O p6 lk)
 replace pcs:=pcs.resolve_left p
 rw[gf p];clear p
 by_cases p:m.pc=9
 ·rw[gk p];obtain⟨l,hl,hd⟩:=lo.fi (.inl p);have eU:=(dY.1 hl).1;have hw:IntKind.i64.wrap (m.i+1)=m.i+1:=qb aw aw;rw[hl,gF,hw];by_cases q:l.zi=0
  ·rw[gk q];exact zQ O ⟨uX,st1,tg1,uO,rfl,rfl,jR.refl w _,qj w (kP p6 (iS su.done hk uM)),.inr ⟨v,g,e,uQ,⟨uL,uK,uK,uK,λ_=>⟨l,hl,hd⟩⟩⟩⟩
  ·rw[gf q];exact dE
 rw[gf p];have p:m.pc=10:=pcs.resolve_left p;obtain⟨l,hl,hd⟩:=lo.fi (.inr p);have eU:=(dY.1 hl).1;have hw:IntKind.i64.wrap (m.i+1)=m.i+1:=qb aw aw;have li:=FZ (gw.fi _ l hl).1;have st2:=st1.D2 hl (y:=Ep l) O (Fz li.1 li.2.1 (by show(l.drain || !true)=true;rw[hd];rfl)) (st.ty.mN l (gh hl)).2 (by have:=st.iy.fi l (gh hl);show l.zi<=_;omega);rw[gk p,hl,gX,gk hd,hw];exact zQ O ⟨tN,st2,tg1,uO,rfl,rfl,DU hl O id,L4 (y:=Ep l) i0 hl O (kP p6 (iS su.done hk uM)),.inr ⟨v,g,e,⟨qo.2 st2.jz,su.zf,su.done,su.version,su.fH,su.zj,su.fE,su.end_,su.fL,su.other,su.slot,aq su.listen,by show 0<=m.i+1;omega,su.k⟩,⟨uL,uK,uK,uK,uK⟩⟩⟩
end
def wT{α:Type}{l l':List α}{i:Nat}{x:α}(h:l[i]?=some x)(hl:l.length<=l'.length):∃y,l'[i]?=some y:=
 ⟨_,dZ (by have:=(dY.1 h).1;omega)⟩
def Ng:∀{l l':List Gr},l'.length=l.length->(∀(j:Nat) g g',l[j]?=some g->l'[j]?=some g'->g'.ends.length=g.ends.length)->(l'.flatMap (·.ends)).length=(l.flatMap (·.ends)).length
 |[],[],_,_=>rfl
 |g::l,g'::l',h,hh=>by
  have ih:=Ng (l:=l) (l':=l') (aq h) λj a b ha hb=>hh (j+1) a b (aq ha) (aq hb)
  have h0:=hh 0 g g' O O;simp only[eF,gE];omega
 |[],_::_,h,_=>by simp at h
 |_::_,[],h,_=>by simp at h
def VW{e:En}(h:Slp.ft e=true)(h0:0<=Slp.zA e):Slp.zA e∈(Slp.qG e).1:=by
 have ok:=(Slp.Bt h).1;rw[Slp.BU ok,(Slp.HO ok aw).2.2];exact pW ..
def Pd(e:En)(s:Int):iE e s<=1:=by unfold iE;split <;> omega
def Y6{w w':Wor}{m:eR}{v:fc}{g:Gr}{e:En}{o:Key->Nat}(su:qF w m v g e)(lc:Lc w m v g e)(gw:jQ w)(gw':jQ w')(kp:jR w w' o)(ow:∀x,o x+j7 m x<=Has w x):
  ∃v' g' e',qF w' m v' g' e'/\Lc w' m v' g' e':=by
 have hv:=su.version;have hg:=su.zj;have he:=su.end_;obtain⟨v',av⟩:=wT su.fH kp.mu;have kv:=kp.fI _ v v' su.fH av;obtain⟨g',ag⟩:=wT su.fE (ue kv.len.symm);have kg:=kv.Aw _ g g' su.fE ag;obtain⟨e',ae⟩:=wT su.fL (ue kg.len.symm);have ke:=kg.ends _ e e' su.fL ae;rw[rH hv.1,rH hg.1,rH he.1]at ke;have l1:=kp.mu;have l2:=kv.len;have l3:=kg.len;have l4:=ke.len;have l5:=kp.pins;have l6:=kp.fi;have su':qF w' m v' g' e':=⟨qo.2 gw',by have:=su.zf;omega,su.done,aw,av,aw,ag,aw,ae,by have:=su.other;omega,by have:=su.slot;omega,by have:=su.listen;omega,su.i,su.k⟩;refine⟨v',g',e',su',?_⟩;have isv:=(((gw.fI _ v su.fH).1.oy.2 g (gh su.fE)).2.2 e (gh su.fL)).1;have hsl:=Ih su.at_ m.slot;have s0:=su.slot;have slo:=ow (.slot m.version m.zj m.end_ m.slot);rw[hsl]at slo;have sle:=Pd e m.slot;rcases lc with⟨hk,lo⟩|⟨hk,lo⟩|⟨hk,lo⟩|⟨hk,lo⟩|⟨hk,lo⟩|⟨hk,lo⟩
 ·refine .inl ⟨hk,⟨lo.pc,λh=>?_,lo.fi,lo.early,lo.fk,λh=>?_,λh=>?_,λh h2=>?_,lo.mz,lo.kind⟩⟩
  ·have:=lo.ep h;have:=kp.zo;omega
  ·obtain⟨c,h1,h2⟩:=lo.draw h;exact⟨c,by rw[kv.snap];exact h1,h2⟩
  ·have:=lo.slot h;have:=ke.tag;exact⟨(lo.slot h).1,aw⟩
  ·have q:=lo.slot (.inr h);have t1:=ke.tag;have t2:mr e'=m.word / 4294967296:=by unfold mr;rw[h2]
   have hh:=ke.head aw;have hm:e.head=m.word:=by rw[<-hh];exact h2
   have hs:Slp.zA e=m.slot:=by rw[q.1,<-hm];rfl
   have fr:=VW isv aw
   have z:iE e m.slot=0:=by
    unfold iE;rw[gf (λz=>z.2.2 (hs ▸ fr))]
   rw[ke.next m.slot s0.1 (by show o _=0;omega)];exact lo.link h hm
 ·refine .inr (.inl ⟨hk,⟨lo.pc,lo.fi,λh=>?_,λh=>?_⟩⟩)
  ·have:=lo.tag h;have:=ke.tag;omega
  ·have p3:ph m=3:=i6 su.done hk (by rw[gk aw]);have:j7 m (.slot m.version m.zj m.end_ m.slot)=1:=by rw[jA p3];simp[qe]
   rw[ke.next m.slot s0.1 (by show o _=0;omega)];exact lo.next h
 ·refine .inr (.inr (.inl ⟨hk,⟨lo.pc,λh=>?_⟩⟩));have:=lo.ep h;have:=kp.zo;omega
 ·exact .inr (.inr (.inr (.inl ⟨hk,lo⟩)))
 ·refine .inr (.inr (.inr (.inr (.inl ⟨hk,⟨lo.pc,λh=>?_,λh=>?_,λh=>?_,λh=>?_⟩⟩))))
  ·have:=lo.nk h;omega
  ·obtain⟨r,h1,h2,h3⟩:=lo.iX h;obtain⟨r',h4⟩:=wT h1 kp.iX;have q:=kp.zr _ r r' h1 h4;have p6:ph m=6:=iS su.done hk (by rw[gk aw]);have k1:j7 m .lock=1:=by rw[jA p6];simp[qe]
   have lk:=(qf.1 gw.ground).lock;have k2:=ow .lock;have k3:Has w .lock=w.lock.toNat:=rfl;exact⟨r',h4,by rw[q.1];exact h2,by rw[q.2.2 aw];exact h3⟩
  ·have:=lo.act h;have fl:(yw v').length=(yw v).length:=Ng l2 λj a b ha hb=>(kv.Aw j a b ha hb).len
   omega
  ·obtain⟨l,h1,h2⟩:=lo.fi h;obtain⟨l',h3⟩:=wT h1 (ue l6.symm);exact⟨l',h3,(kp.wb _ l l' h1 h3).2 h2⟩
 ·exact .inr (.inr (.inr (.inr (.inr ⟨hk,⟨lo.pc,lo.k,by have:=lo.i;have:=kp.counts;omega⟩⟩))))
def Om{N K:Nat}{w:Wor}{m:eR}{v:fc}{g:Gr}{e:En}(st:St N K w)(tg:Tg N w)(su:qF w m v g e)(tm:fT m)(lo:Lc w m v g e)(hN:N<=100000000)(hK:K<=1099511627776)(ow:∀x,j7 m x<=Has w x):∃r,yl w m=some r/\Nc N K w m Lc EN r:=by
 have up:∀{L:Wor->eR->fc->Gr->En->Prop} {F:eR->Prop} {r:Wor×eR×eV},Nc N K w m L F r->(∀w' m' v g e,m'.op=m.op->L w' m' v g e->Lc w' m' v g e)->(∀m',m'.op=m.op->F m'->EN m')->Nc N K w m Lc EN r:=λh hL hF=>
  ⟨h.ev,h.st,h.tg,h.tm,h.op,h.th,h.keep,h.mv,h.go.imp (λz=>⟨z.1,hF _ h.op z.2⟩) (λ⟨v,g,e,z1,z2⟩=>⟨v,g,e,z1,hL _ _ _ _ _ h.op z2⟩)⟩
 rw[show yl w m=if m.op.kind=1 then zZ w m v g e else if m.op.kind=2 then xa w m v g e else if m.op.kind=3 then yL w m else if m.op.kind=4 then vz w m
  else if m.op.kind=5 then j8 w m else if m.op.kind=6 then yu w m else none by
   unfold yl;rw[su.fH];dsimp only;rw[su.fE];dsimp only;rw[su.fL]]
 rcases lo with⟨hk,lo⟩|⟨hk,lo⟩|⟨hk,lo⟩|⟨hk,lo⟩|⟨hk,lo⟩|⟨hk,lo⟩
 ·rw[gk hk];obtain⟨r,h1,h2⟩:=Vd st tg su tm lo hk hN hK ow;exact⟨r,h1,up h2 (λ_ m' _ _ _ ho z=>.inl ⟨aV,z⟩) λm' ho z=>.inl ⟨aV,z⟩⟩
 ·rw[gf aw,gk hk];obtain⟨r,h1,h2⟩:=Vc st tg su tm lo hk hN hK ow;exact⟨r,h1,up h2 (λ_ m' _ _ _ ho z=>.inr (.inl ⟨aV,z⟩)) λm' ho z=>.inr (.inl ⟨aV,z⟩)⟩
 ·rw[gf aw,gf aw,gk hk];obtain⟨r,h1,h2⟩:=YG st tg su tm lo hk ow;exact⟨r,h1,up h2 (λ_ m' _ _ _ ho z=>.inr (.inr (.inl ⟨aV,z⟩))) λm' ho z=>.inr (.inr ⟨aW,aW,z⟩)⟩
 ·rw[gf aw,gf aw,gf aw,gk hk];obtain⟨r,h1,h2⟩:=Xd st tg su tm lo hk hN;exact⟨r,h1,up h2 (λ_ m' _ _ _ ho z=>.inr (.inr (.inr (.inl ⟨aV,z⟩)))) λm' ho z=>.inr (.inr ⟨aW,aW,z⟩)⟩
 ·rw[gf aw,gf aw,gf aw,gf aw,gk hk];obtain⟨r,h1,h2⟩:=S4 st tg su tm lo hk hN ow;exact⟨r,h1,up h2 (λ_ m' _ _ _ ho z=>.inr (.inr (.inr (.inr (.inl ⟨aV,z⟩))))) λm' ho z=>.inr (.inr ⟨aW,aW,z⟩)⟩
 ·rw[gf aw,gf aw,gf aw,gf aw,gf aw,gk hk];obtain⟨r,h1,h2⟩:=Xe st tg su tm lo hk;exact⟨r,h1,up h2 (λ_ m' _ _ _ ho z=>.inr (.inr (.inr (.inr (.inr ⟨aV,z⟩))))) λm' ho z=>.inr (.inr ⟨aW,aW,z⟩)⟩
end Go.Wor
namespace Go.Pla
open Go.Ab Go.Proofs Tryz Go.Hy
def wg.at_{given L1 L2:List ff}{b:ff}(h:wg given (L1++b::L2)):∃l1 i l2,jH given=l1++i::l2/\l1.map (λi=>given[i]?)=L1.map some/\given[i]?=some b/\l2.map (λi=>given[i]?)=L2.map some:=by
 unfold wg at h;rw[rb,rE]at h;obtain⟨l1,l',h1,h2,h3⟩:=List.map_eq_append_iff.1 h;obtain⟨i,l2,h4,h5,h6⟩:=List.map_eq_cons_iff.1 h3;exact⟨l1,i,l2,by rw[h1,h4],h2,h5,h6⟩
def wg.ZH{given L1 L2:List ff}{b f:ff}(h:wg given (L1++b::L2))(he:wP f b=true)(hn:∀x∈L1,wP f x=false):wg (given++[f]) (L1++L2):=by
 have eU:∀n∈jH given,n<given.length:=kM given given.length (gD _)
 have h6:f.kind=6:=by
  unfold wP at he;simp only[gC,gM]at he;exact he.1
 obtain⟨l1,i,l2,h1,h2,h3,h4⟩:=h.at_
 have a1:∀n∈l1,ir given f n=false:=λn hm=>by
  have:given[n]?∈l1.map (λi=>given[i]?):=gZ.2 ⟨n,hm,rfl⟩;rw[h2]at this;obtain⟨x,hx,e⟩:=gZ.1 this;unfold ir;rw[<-e];exact hn x hx
 have e:(jH given).findIdx? (ir given f)=some l1.length:=by
  rw[h1,tp,gP.2 a1,rK];have:ir given f i=true:=by unfold ir;rw[h3];exact he
  rw[gk this];simp
 unfold wg;rw[HP,gf aw,e,h1];dsimp only
 rw[List.eraseIdx_append_of_length_le (gD _),rJ,List.eraseIdx_cons_zero,Il given f _ (λn hn=>eU n (by
  rw[h1];rcases gO.1 hn with hn|hn
  ·exact gO.2 (.inl hn)
  ·exact gO.2 (.inr (pT _ hn)))),rb,h2,h4,rb]
end Go.Pla
namespace Go.Beg
open Go.Ab Go.Proofs Tryz Go.Hy Go.Pla
def Yv{o:fh}{given L:List ff}(h:wg given L)(h0:0<=o.n)(h1:o.n<L.length):∃a,L[o.n.toNat]?=some a/\B0 o given=a:=by
 obtain⟨i,a,h2,h3,h4⟩:=Oc h0 (by rw[h.len];exact h1);refine⟨a,?_,h4⟩;have:=rz (λl=>l[o.n.toNat]?) h;simp only[gj,h2,gF,h3]at this;cases hl:L[o.n.toNat]? with
 |none=>rw[hl]at this;cases this
 |some b=>rw[hl]at this;simp only[gF,gS]at this;rw[this]
def UW{o:fh}{given L:List ff}(h:wg given L)(h1:¬(0<=o.n/\o.n<L.length)):B0 o given=y6:=HW (by rw[h.len];exact h1)
end Go.Beg
namespace Go.Wor
open Go.Ab Go.Proofs Tryz Go.Gat Go.Nam Go.Hos Go.Con Go.Sna Go.Pla
open Go.Hy hiding encI
def jF(x:fp)(t:Int)(o:fh):eR:=if x.on then x.m else Beg.jY t o x.given
def iN(L:List ff)(x:Key):Nat:=(L.map λa=>mj a x).sum
def DY(L L':List ff)(x:Key):iN (L++L') x=iN L x+iN L' x:=by unfold iN;rw[rb,List.sum_append]
def Ff(a:ff)(L:List ff)(x:Key):iN (a::L) x=mj a x+iN L x:=by unfold iN;rw[rE,rR]
def YE(a:ff)(x:Key):iN [a] x=mj a x:=by rw[Ff];rfl
structure Ko(w:Wor)(t:Int)(x:fp)(m:eR)(L:List ff)(o:Key->Nat):Prop where
 at_:x.ops[x.done]?=some m.op
 th:m.zf=t
 tm:fT m
 lc:∃v g e,qF w m v g e/\Lc w m v g e
 own:(((m.op.kind≠2\/m.pc=9)/\∀k,o k=iN L k+j7 m k)\/(m.op.kind=2/\m.pc<=4/\∃L1 a L2,L=L1++a::L2/\a.version=m.version/\a.zj=m.zj/\a.end_=m.end_/\a.slot=m.slot/\a.listen=m.listen/\(∀b∈L1,¬Gf b a)/\∀k,o k=iN (L1++L2) k+j7 m k))
structure TI(w:Wor)(t:Int)(x:fp)(o:Key->Nat):Prop where
 le:x.done<=x.ops.length
 given:x.given.length=x.done
 open_ : ∃L, wg x.given L /\ (∀a∈L, a.kind = 1 /\ 0 <= a.listen) /\ ((x.on = false /\ ∀k, o k = iN L k) \/ (x.on = true /\ Ko w t x x.m L o))
def OW{L:List ff}{a:ff}(h:a∈L)(k:Key):mj a k<=iN L k:=by
 obtain⟨L1,L2,rfl⟩:=List.append_of_mem h;rw[DY,Ff];omega
def ZI{w:Wor}{a:ff}(h:∀k,mj a k<=Has w k):oR w a:=by
 have h1:=h (.slot a.version a.zj a.end_ a.slot);have h2:=h (.fi a.listen);have e1:mj a (.slot a.version a.zj a.end_ a.slot)=1:=by simp[mj,qe]
 have e2:mj a (.fi a.listen)=1:=by simp[mj,qe]
 rw[e1]at h1;rw[e2]at h2;simp only[Has]at h1 h2;split at h1
 ·rename_i e he;unfold iV at he;split at he
  ·rename_i q;unfold iE at h1;split at h1
   ·rename_i z;split at h2
    ·rename_i l0;split at h2
     ·rename_i l hl;have:=(dY.1 hl).1;exact⟨⟨q.1,q.2.1,q.2.2,z.1⟩,⟨l0,aw⟩,e,he,z.2⟩
     ·omega
    ·omega
   ·omega
  ·cases he
 ·omega
def zxg(w:Wor)(i j k s:Int):Has w (.slot i j k s)<=1:=by
 simp only[Has];split
 ·exact Pd _ _
 ·omega
def DB{t:Int}{o:fh}{given:List ff}(h:o.kind≠2):Beg.jY t o given=⟨o,t,0,0,0, -1,0,0,0,0,0,0,0,0,0,false,Beg.y6,i4⟩:=by
 unfold Beg.jY;rw[gf h]
structure J3(o:fh):Prop where
 kind:1<=o.kind/\o.kind<=6
 host:o.host.length<1000000000000000
 path:o.path.length<1000000000000000
 d0:i64 o.d0
 d1:i64 o.d1
 cfg:o.kind=3->xZ o.config
def M0{N K:Nat}{w:Wor}{t:Int}{x:fp}{o:Key->Nat}{p:fh}(st:St N K w)(tg:Tg N w)(ht:0<=t/\t<w.pins.length)(ti:TI w t x o)(hoff:x.on=false)(hp:x.ops[x.done]?=some p)(po:J3 p)(hN:N<=100000000)(ow:∀k,o k<=Has w k):
  TI w t ⟨x.ops,x.done,true,Beg.jY t p x.given,x.given⟩ o:=by
 obtain⟨hle,hgl,L,hL,hk,hon⟩:=ti
 have hon:∀k,o k=iN L k:=by
  rcases hon with⟨_,h⟩|⟨h,_⟩
  ·exact h
  ·rw[hoff]at h;cases h
 refine⟨hle,hgl,L,hL,hk,.inr ⟨rfl,?_⟩⟩;have pk:=po.kind;have gr:=qf.1 st.jz.ground
 have idle:∀{pc:Int} {op:fh},op=p->(pc=0\/pc=9)->fT ⟨op,t,pc,0,0, -1,0,0,0,0,0,0,0,0,0,false,Beg.y6,i4⟩/\∃v g e,qF w ⟨op,t,pc,0,0, -1,0,0,0,0,0,0,0,0,0,false,Beg.y6,i4⟩ v g e:=λe _=>by
  subst e;exact⟨⟨(by decide:i64 (-1)),(by decide:u64 0),(by decide:(-1:Int)<=0/\(0:Int)<=2147483646),po.host,po.path,po.d0,po.d1,po.cfg,λ_ _=>O⟩,LM st.jz ht O O O O O O O O O⟩
 by_cases k2:p.kind=2
 ·by_cases hn:0<=p.n/\p.n<L.length
  ·obtain⟨a,ha,hta⟩:=Beg.Yv hL hn.1 hn.2;have am:=gh ha;obtain⟨ak,al⟩:=hk a am;have fa:oR w a:=ZI λk=>pB (OW am k) (by rw[<-hon k];exact ow k)
   obtain⟨⟨p1,p2,p3,p4⟩,⟨l0,l1⟩,e,hat,hs,hf⟩:=fa;obtain⟨v,g,a1,a2,a3⟩:=Pw hat;have s1:=(dY.1 a1).1;have s2:=(dY.1 a2).1;have s3:=(dY.1 a3).1
   have eb:Beg.jY t p x.given=⟨p,t,0,0,a.version,a.listen,a.zj,a.end_,0,a.slot,0,0,0,0,0,false,Beg.y6,i4⟩:=by
    unfold Beg.jY;rw[gk k2,hta];unfold Beg.Bl;rw[gk ak,gk ak]
   rw[eb];have lN:=st.ty.fi
   obtain⟨L1,L2,hsp,hln⟩:∃L1 L2,L=L1++a::L2/\L1.length=p.n.toNat:=⟨L.take p.n.toNat,L.drop (p.n.toNat+1),by
    have eU:=(dY.1 ha).1;have he:=(dY.1 ha).2;rw[<-he,List.getElem_cons_drop,rq],aA⟩
   have AB:ph ⟨p,t,0,0,a.version,a.listen,a.zj,a.end_,0,a.slot,0,0,0,0,0,false,Beg.y6,i4⟩=3:=i6 O k2 O
   refine⟨hp,rfl,⟨by show i64 a.listen;unfold i64;omega,(by decide:u64 0),(by decide:(-1:Int)<=0/\(0:Int)<=2147483646),po.host,po.path,po.d0,po.d1,po.cfg,λ_ _=>O⟩,
    ⟨v,g,e,⟨qo.2 st.jz,ht,rfl,⟨p1,by show a.version<_;omega⟩,a1,⟨p2,by show a.zj<_;omega⟩,a2,⟨p3,by show a.end_<_;omega⟩,a3,⟨gR _,aL⟩,⟨p4,hs⟩,⟨by show -1<=a.listen;omega,l1⟩,gR _,gR _⟩,
     .inr (.inl ⟨k2,⟨.inl ⟨gR _,by show(0:Int)<=4;decide⟩,λ_=>l0,(λh=>by dsimp only at h;omega),λh=>absurd (show(0:Int)=2 from h) ar⟩⟩)⟩,
    .inr ⟨k2,by show(0:Int)<=4;decide,L1,a,L2,hsp,rfl,rfl,rfl,rfl,rfl,λb hb cl=>?_,λk=>?_⟩⟩
   ·have q1:=ow (.slot a.version a.zj a.end_ a.slot);have q2:=zxg w a.version a.zj a.end_ a.slot;have q3:=OW hb (.slot a.version a.zj a.end_ a.slot);have e1:mj a (.slot a.version a.zj a.end_ a.slot)=1:=by simp[mj,qe]
    have e2:mj b (.slot a.version a.zj a.end_ a.slot)=1:=by simp[mj,qe,cl.1,cl.2.1,cl.2.2.1,cl.2.2.2]
    rw[hon,hsp,DY,Ff]at q1;omega
   rw[hon k,hsp,DY,DY,Ff,jA AB];show _=_+mj a k;omega
  ·have eb:Beg.jY t p x.given=⟨p,t,9,0,0, -1,0,0,0,0,0,0,0,0,0,false,Beg.y6,i4⟩:=by
    unfold Beg.jY;rw[gk k2,Beg.UW hL hn]
    rfl
   rw[eb];obtain⟨ty,v,g,e,su⟩:=idle (pc:=9) O (.inr O);have p0:ph ⟨p,t,9,0,0, -1,0,0,0,0,0,0,0,0,0,false,Beg.y6,i4⟩=0:=i6 O k2 O;exact⟨hp,rfl,ty,⟨v,g,e,su,.inr (.inl ⟨k2,⟨.inr O,λh=>absurd (show(9:Int)<=4 from h) ar,(λh=>by dsimp only at h;omega),λh=>absurd (show(9:Int)=2 from h) ar⟩⟩)⟩,.inl ⟨.inr O,λk=>by rw[hon k,jA p0,kZ];rfl⟩⟩
 ·rw[DB k2];obtain⟨ty,v,g,e,su⟩:=idle (pc:=0) O (.inl O)
  have p0:ph ⟨p,t,0,0,0, -1,0,0,0,0,0,0,0,0,0,false,Beg.y6,i4⟩=0:=by
   by_cases k1:p.kind=1
   ·exact fG O k1 O
   by_cases k3:p.kind=3
   ·exact AB O k3 O
   by_cases k5:p.kind=5
   ·exact iS O k5 O
   exact D7 O k1 k2 k3 k5
  refine⟨hp,rfl,ty,⟨v,g,e,su,?_⟩,.inl ⟨.inl k2,λk=>by rw[hon k,jA p0,kZ];rfl⟩⟩;rcases(by omega:p.kind=1\/p.kind=3\/p.kind=4\/p.kind=5\/p.kind=6) with k|k|k|k|k
  ·exact .inl ⟨k,⟨.inl ⟨gR _,by show(0:Int)<=12;decide⟩,(λh=>by dsimp only at h;omega),(λh=>by dsimp only at h;omega),(λh=>by dsimp only at h;omega),(λh=>by dsimp only at h;omega),λh=>absurd (show(0:Int)=6 from h) ar,(λh=>by dsimp only at h;omega),λh=>absurd (show(0:Int)=11 from h) ar,λh=>absurd (show(20:Int)<=0 from h) ar,λh=>absurd (show(0:Int)=22 from h) ar⟩⟩
  ·exact .inr (.inr (.inl ⟨k,⟨⟨gR _,by show(0:Int)<=2;decide⟩,λh=>absurd (show(0:Int)=2 from h) ar⟩⟩))
  ·exact .inr (.inr (.inr (.inl ⟨k,rfl⟩)))
  ·exact .inr (.inr (.inr (.inr (.inl ⟨k,⟨.inl ⟨gR _,by show(0:Int)<=6;decide⟩,λh=>absurd (show(0:Int)=2 from h) ar,(λh=>by dsimp only at h;omega),λh=>absurd (show(0:Int)=5 from h) ar,(λh=>by dsimp only at h;omega)⟩⟩))))
  ·exact .inr (.inr (.inr (.inr (.inr ⟨k,⟨rfl,by show(0:Int)<6;decide,by show(0:Int)<(w.counts.length:Nat);have:=gr.counts.1;have:=gr.pins.1;omega⟩⟩))))
def Iw{w:Wor}{m:eR}{v:fc}{g:Gr}{e:En}{r:Wor×eR×eV}(h:xa w m v g e=some r):r.2.1.version=m.version/\r.2.1.zj=m.zj/\r.2.1.end_=m.end_/\r.2.1.slot=m.slot/\r.2.1.listen=m.listen/\(m.pc=9->r.2.1.pc=9/\r.2.1.done=true)/\(m.pc<=4->r.2.1.pc<=4)/\(r.2.1.done=true->m.done=false->r.2.1.pc=m.pc):=by
 have c4:∀{a b:Int},a=b->(a=9->(1:Int)=2)->b=9->False:=λh1 h2 h3=>absurd (h2 (h1.trans h3)) ar
 unfold xa wi at h;split at h
 ·rename_i p;cases h
  exact⟨rfl,rfl,rfl,rfl,rfl,λh=>by omega,λ_=>by show(1:Int)<=4;decide,λa b=>absurd (b.symm.trans a) ar⟩
 split at h
 ·rename_i p;cases h
  exact⟨rfl,rfl,rfl,rfl,rfl,λh=>by omega,λ_=>by show(2:Int)<=4;decide,λa b=>absurd (b.symm.trans a) ar⟩
 split at h
 ·rename_i p;split at h
  ·cases h
   exact⟨rfl,rfl,rfl,rfl,rfl,λh=>by omega,λ_=>by show(3:Int)<=4;decide,λa b=>absurd (b.symm.trans a) ar⟩
  ·cases h
   exact⟨rfl,rfl,rfl,rfl,rfl,λh=>by omega,λ_=>by show(0:Int)<=4;decide,λa b=>absurd (b.symm.trans a) ar⟩
 split at h
 ·rename_i p;cases h
  exact⟨rfl,rfl,rfl,rfl,rfl,λh=>by omega,λ_=>by show(4:Int)<=4;decide,λa b=>absurd (b.symm.trans a) ar⟩
 split at h
 ·rename_i p;split at h
  ·cases h
  ·obtain⟨x,_,rfl⟩:=gT.1 h;exact⟨rfl,rfl,rfl,rfl,rfl,λh=>by omega,λh=>h,λ_ _=>O⟩
 split at h
 ·cases h
  exact⟨rfl,rfl,rfl,rfl,rfl,λh=>⟨h,rfl⟩,λh=>h,λ_ _=>O⟩
 ·cases h
def vq{x:fp}{m:eR}(h:m.done=true):jj x m=⟨x.ops,x.done+1,false,m,x.given++[m.answer]⟩:=gk h
def BS{x:fp}{m:eR}(h:m.done=false):jj x m=⟨x.ops,x.done,true,m,x.given⟩:=gf aI
def Ou{N K:Nat}{w:Wor}{t:Int}{x:fp}{o:Key->Nat}(st:St N K w)(tg:Tg N w)(ti:TI w t x o)(hon:x.on=true)(hN:N<=100000000)(hK:K<=1099511627776)(ow:∀k,o k<=Has w k):
  zY w x.m=true/\fT x.m/\(∀k,j7 x.m k<=o k)/\∃r,yl w x.m=some r/\r.2.2.access≠0/\St (N+1) (K+1) r.1/\Tg (N+1) r.1/\jR w r.1 (j7 x.m)/\∃o',TI r.1 t (jj x r.2.1) o'/\Mv w r.1 o o':=by
 obtain⟨hle,hgl,L,hL,hk,hon'⟩:=ti
 have on:Ko w t x x.m L o:=by
  rcases hon' with⟨h,_⟩|⟨_,h⟩
  ·rw[hon]at h;cases h
  ·exact h
 clear hon'
 obtain⟨hat,hth,htm,⟨v,g,e,su,lc⟩,hown⟩:=on
 have om:∀k,j7 x.m k<=o k:=λk=>by
  rcases hown with⟨_,h⟩|⟨_,_,_,_,_,_,_,_,_,_,_,_,h⟩
  ·rw[h k];omega
  ·rw[h k];omega
 have oh:∀k,j7 x.m k<=Has w k:=λk=>pB (om k) (ow k)
 obtain⟨r,h1,nc⟩:=Om st tg su htm lc hN hK oh;refine⟨Mq su,htm,om,r,h1,nc.ev,nc.st,nc.tg,nc.keep,?_⟩;have lt:x.done<x.ops.length:=(dY.1 hat).1;have fs:x.m.op.kind=2->xa w x.m v g e=some r:=λhk=>by rw[Yn su,gf aw,gk hk]at h1;exact h1
 rcases nc.go with⟨hd,hf⟩|⟨v',g',e',su',lc'⟩
 ·rw[vq hd];have hgl':(x.given++[r.2.1.answer]).length=x.done+1:=by simp[hgl]
  rcases hf with⟨k1,f1,f2,f3⟩|⟨k2,f⟩|⟨k3,k4,f⟩
  ·rw[nc.op]at k1
   have hb:∀k,o k=iN L k+j7 x.m k:=by
    rcases hown with⟨_,h⟩|⟨h,_⟩
    ·exact h
    ·omega
   by_cases a1:r.2.1.answer.kind=1
   ·obtain⟨ea,el⟩:=f3 a1;have p3:ph r.2.1=3:=MN hd (by rw[nc.op];exact k1) a1
    have eo:∀k,j7 r.2.1 k=mj r.2.1.answer k:=λk=>by
     rw[jA p3];unfold mj;rw[ea]
    refine⟨λk=>iN (L++[r.2.1.answer]) k,⟨aX,hgl',L++[r.2.1.answer],hL.zxO a1,λa ha=>?_,.inl ⟨rfl,λ_=>O⟩⟩,λk=>?_⟩
    ·rcases gO.1 ha with ha|ha
     ·exact hk a ha
     ·rw[gN.1 ha];exact⟨a1,by rw[ea];exact el⟩
    ·have:=nc.mv k;dsimp only;rw[hb k,DY,YE,<-eo k];omega
   ·have p0:ph r.2.1=0:=yQ hd λh=>a1 h.2
    refine⟨λk=>iN L k,⟨aX,hgl',L,hL.other a1 aw,hk,.inl ⟨rfl,λ_=>O⟩⟩,λk=>?_⟩;have:=nc.mv k
    try dsimp only
    rw[jA p0,kZ]at this;rw[hb k];omega
  ·rw[nc.op]at k2;have fsm:=Iw (fs k2);obtain⟨e1,e2,e3,e4,e5,e6,e7,e8⟩:=fsm;have p0:ph r.2.1=0:=yQ hd λh=>by rw[nc.op]at h;omega
   have pc:=e8 hd su.done;rcases hown with⟨h9,hb⟩|⟨_,h4,L1,a,L2,hsp,q1,q2,q3,q4,q5,hcl,hb⟩
   ·have a7:r.2.1.answer=lH 7:=by
     rcases f with⟨_,f⟩|⟨f,_⟩
     ·omega
     ·exact f
    refine⟨λk=>iN L k,⟨aX,hgl',L,hL.other (by rw[a7];show(7:Int)≠1;decide) (by rw[a7];show(7:Int)≠6;decide),hk,.inl ⟨rfl,λ_=>O⟩⟩,λk=>?_⟩;have:=nc.mv k
    try dsimp only
    rw[jA p0,kZ]at this;rw[hb k];omega
   ·have a6:r.2.1.answer=Py r.2.1:=by
     rcases f with⟨f,_⟩|⟨_,f⟩
     ·exact f
     ·omega
    have hka:=hk a (by rw[hsp];simp)
    have en:Pla.wP r.2.1.answer a=true:=by
     rw[a6];unfold Pla.wP;simp[hka.1,e1,e2,e3,e4,e5,q1,q2,q3,q4,q5]
    have en2:∀b∈L1,wP r.2.1.answer b=false:=λb hb2=>by
     cases he:Pla.wP r.2.1.answer b with
     |false=>rfl
     |true=>
      rw[a6]at he;unfold Pla.wP at he;simp only[gC,gM,e1,e2,e3,e4,e5]at he;exact absurd ⟨he.2.2.1.symm.trans q1.symm,he.2.2.2.1.symm.trans q2.symm,he.2.2.2.2.1.symm.trans q3.symm,he.2.2.2.2.2.1.symm.trans q4.symm⟩ (hcl b hb2)
    rw[hsp]at hL
    refine⟨λk=>iN (L1++L2) k,⟨aX,hgl',L1++L2,hL.ZH en en2,λb hb2=>hk b (by
     rw[hsp];rcases gO.1 hb2 with h|h
     ·exact gO.2 (.inl h)
     ·exact gO.2 (.inr (pT _ h))),.inl ⟨rfl,λ_=>O⟩⟩,λk=>?_⟩
    have:=nc.mv k
    try dsimp only
    rw[jA p0,kZ]at this;rw[hb k];omega
  ·rw[nc.op]at k3 k4;have p0:ph r.2.1=0:=yQ hd λh=>by rw[nc.op]at h;omega
   have hb:∀k,o k=iN L k+j7 x.m k:=by
    rcases hown with⟨_,h⟩|⟨h,_⟩
    ·exact h
    ·omega
   refine⟨λk=>iN L k,⟨aX,hgl',L,hL.other (by have:=f.1;omega) (by have:=f.1;omega),hk,.inl ⟨rfl,λ_=>O⟩⟩,λk=>?_⟩;have:=nc.mv k
   try dsimp only
   rw[jA p0,kZ]at this;rw[hb k];omega
 ·rw[BS su'.done];rcases hown with⟨h9,hb⟩|⟨k2,h4,L1,a,L2,hsp,q1,q2,q3,q4,q5,hcl,hb⟩
  ·have k2:x.m.op.kind≠2:=λk2=>by
    rcases h9 with h|h
    ·exact h k2
    ·have:=(Iw (fs k2)).2.2.2.2.2.1 h;have h2:=su'.done;rw[this.2]at h2;cases h2
   refine⟨λk=>iN L k+j7 r.2.1 k,⟨hle,hgl,L,hL,hk,.inr ⟨rfl,⟨by rw[hat,nc.op],nc.th.trans hth,nc.tm,⟨v',g',e',su',lc'⟩,.inl ⟨.inl (by rw[nc.op];exact k2),λ_=>O⟩⟩⟩⟩,λk=>?_⟩;have:=nc.mv k
   try dsimp only
   rw[hb k];omega
  ·obtain⟨e1,e2,e3,e4,e5,e6,e7,e8⟩:=Iw (fs k2);refine⟨λk=>iN (L1++L2) k+j7 r.2.1 k,⟨hle,hgl,L,hL,hk,.inr ⟨rfl,⟨by rw[hat,nc.op],nc.th.trans hth,nc.tm,⟨v',g',e',su',lc'⟩,.inr ⟨by rw[nc.op];exact k2,e7 h4,L1,a,L2,hsp,q1.trans e1.symm,q2.trans e2.symm,q3.trans e3.symm,q4.trans e4.symm,q5.trans e5.symm,hcl,λ_=>O⟩⟩⟩⟩,λk=>?_⟩;have:=nc.mv k
   try dsimp only
   rw[hb k];omega
def zwy{w w':Wor}{t:Int}{x:fp}{o p:Key->Nat}(ti:TI w t x o)(gw:jQ w)(gw':jQ w')(kp:jR w w' p)(ow:∀k,p k+o k<=Has w k):TI w' t x o:=by
 obtain⟨hle,hgl,L,hL,hk,hon⟩:=ti;refine⟨hle,hgl,L,hL,hk,hon.imp id λ⟨h1,on⟩=>⟨h1,?_⟩⟩;obtain⟨hat,hth,htm,⟨v,g,e,su,lc⟩,hown⟩:=on
 have om:∀k,j7 x.m k<=o k:=λk=>by
  rcases hown with⟨_,h⟩|⟨_,_,_,_,_,_,_,_,_,_,_,_,h⟩
  ·rw[h k];omega
  ·rw[h k];omega
 obtain⟨v',g',e',su',lc'⟩:=Y6 su lc gw gw' kp λk=>by have:=om k;have:=ow k;omega
 exact⟨hat,hth,htm,⟨v',g',e',su',lc'⟩,hown⟩
def Ek:∀(l:List Nat) (i:Nat) {a:Nat},l[i]?=some a->a<=l.sum
 |[],i,a,h=>by simp at h
 |x::l,0,a,h=>by
  have:x=a:=aq h
  rw[rR];omega
 |x::l,i+1,a,h=>by
  have:=Ek l i (aq h);rw[rR];omega
def Ov:∀(l:List Nat) (i j:Nat) {a b:Nat},i≠j->l[i]?=some a->l[j]?=some b->a+b<=l.sum
 |[],i,j,a,b,_,h,_=>by simp at h
 |x::l,0,0,a,b,h,_,_=>absurd O h
 |x::l,0,j+1,a,b,_,h1,h2=>by
  have:=Ek l j tR;have:x=a:=aq h1
  rw[rR];omega
 |x::l,i+1,0,a,b,_,h1,h2=>by
  have:=Ek l i tD;have:x=b:=aq h2
  rw[rR];omega
 |x::l,i+1,j+1,a,b,h,h1,h2=>by
  have:=Ov l i j aw tD tR;rw[rR];omega
structure GI(N K:Nat)(w:Wor)(X:List fp):Prop where
 st:St N K w
 tg:Tg N w
 len:w.pins.length=X.length
 ops:∀x∈X,∀p∈x.ops,J3 p
 own:∃os:List (Key->Nat),os.length=X.length/\(∀(i:Nat) x o,X[i]?=some x->os[i]?=some o->TI w i x o)/\∀k,Has w k=(os.map (· k)).sum
def ZL{N K:Nat}{w:Wor}{X:List fp}{t:Nat}{x:fp}{p:fh}(gi:GI N K w X)(hx:X[t]?=some x)(hp:x.ops[x.done]?=some p)(hN:N<=100000000)(hK:K<=1099511627776):
  zY w (jF x t p)=true/\fT (jF x t p)/\∃r,yl w (jF x t p)=some r/\r.2.2.access≠0/\GI (N+1) (K+1) r.1 (X.set t (jj x r.2.1)):=by
 obtain⟨st,tg,hlen,hops,os,hol,hti,hsum⟩:=gi;have eU:=(dY.1 hx).1;obtain⟨o,ho⟩:∃o,os[t]?=some o:=⟨_,dZ aw⟩;have ti:=hti t x o hx ho;have ow:∀k,o k<=Has w k:=λk=>by rw[hsum k];exact Ek _ t (by rw[gj,ho];rfl)
 have po:=hops x (gh hx) p (gh hp)
 obtain⟨x',hx1,hx2,hx3,hx4⟩:∃x',x'.m=jF x t p/\x'.on=true/\TI w t x' o/\∀m,jj x' m=jj x m:=by
  cases hon:x.on with
  |true=>exact⟨x,aY,hon,ti,λ_=>O⟩
  |false=>exact⟨⟨x.ops,x.done,true,Beg.jY t p x.given,x.given⟩,aY,rfl,M0 st tg aw ti hon hp po hN ow,λ_=>O⟩
 obtain⟨s1,s2,s3,r,s4,s5,s6,s7,s8,o',s9,s10⟩:=Ou st tg hx3 hx2 hN hK ow;rw[hx1]at s1 s2 s4;refine⟨s1,s2,r,s4,s5,s6,s7,by have:=s8.pins;simp;omega,λy hy q hq=>?_,os.set t o',by simp[hol],λi y oi hy hoi=>?_,λk=>?_⟩
 ·rcases mem_set hy with hy|rfl
  ·exact hops y hy q hq
  ·have:(jj x r.2.1).ops=x.ops:=by unfold jj;split <;> rfl
   rw[this]at hq;exact hops x (gh hx) q hq
 ·rcases x7 hy with⟨rfl,rfl,_⟩|⟨hne,hy⟩
  ·rw[gu aw]at hoi;cases hoi
   rw[<-hx4];exact s9
  ·rw[gV hne]at hoi;refine zwy (hti i y oi hy hoi) st.jz s6.jz s8 λk=>?_
   have h2:=Ov (os.map (· k)) t i hne (by rw[gj,ho];rfl) (by rw[gj,hoi];rfl);have:=s3 k;rw[hsum k];dsimp only at h2 ⊢;omega
 ·have q1:=Jc (λf:Key->Nat=>f k) os t o' ho;have q2:=s10 k;have q3:=hsum k;(try dsimp only at q1)
  (try dsimp only at q3)
  (try dsimp only)
  omega
def Xf{l:List eZ}{i:Nat}{s:eZ}(h:l[i]?=some s)(hn:zx ((l.take i).map yX) s<0):zx (l.map yX) s=i:=by
 have eU:=(dY.1 h).1
 have h0:((l.take i).map yX).findIdx? (λr=>r.name == s)=none:=by
  unfold zx at hn;split at hn
  ·omega
  ·rename_i q;exact q
 have e:(l.map yX).findIdx? (λr=>r.name == s)=some i:=by
  rw[gJ];refine⟨aq eU,?_,λj hj=>?_⟩
  ·have:=(dY.1 h).2;simp[yX,this]
  ·have q:=gP.1 h0 (yX (l[j]'aw)) (gZ.2 ⟨_,List.mem_take_iff_getElem.2 ⟨j,aw,rfl⟩,rfl⟩);simpa using q
 unfold zx;rw[e]
def P4{α:Type}:∀(T:List α),(T.map λ_=>(0:Nat)).sum=0
 |[]=>rfl
 |_::T=>by rw[rE,rR,P4 T]
def zxr{s:Sna}{l:List eZ}{n:Int}{w:Wor}{N:Nat}{T:List (List fh)}(h:i7 s l n=(w,0))(hs:Aa s)(hl:l.length<=N)(hN:1<=N)(hn:∀x∈l,x.length<=reachBytes)(hT:(T.length:Int)=n)(hO:∀L∈T,∀o∈L,J3 o):
  GI N 0 w (T.map iP):=by
 unfold i7 at h;split at h
 ·have:=rz Prod.snd h;exact absurd (show(1:Int)=0 from this) ar
 rename_i q;have hw:=(rz Prod.fst h).symm;have hw:w=⟨0,0,0,List.replicate n.toNat 0,[(qD s).1],l.map yX,List.replicate n.toNat [0,0,0,0,0,0],[]⟩:=hw
 have q1:yY s=true:=by
  cases z:yY s with
  |true=>rfl
  |false=>exact absurd (.inl z) q
 have q2:1<=n:=aw
 have q3:n<=8:=aw
 have q4:∀i x,l[i]?=some x->xJ x=true/\zx ((l.take i).map yX) x<0:=λi x hx=>by
  have z:BQ l=true:=by
   cases z:BQ l with
   |true=>rfl
   |false=>exact absurd (.inr (.inr (.inr z))) q
  have:=gA.1 z i (rp.2 (dY.1 hx).1);unfold CW at this;rw[hx]at this;simpa using this
 subst hw;have hc:(qD s).1=⟨s,s.zk.map lu,false⟩:=by unfold qD;rw[gk q1]
 have fr:∀g∈(qD s).1.zq,g.zt=0/\∀e∈g.ends,e.zi=0/\e.ok:=λg hg=>by
  rw[hc]at hg;obtain⟨x,hx,rfl⟩:=gZ.1 (show g∈s.zk.map lu from hg);refine⟨rfl,λe he=>?_⟩;rw[pw (show e∈List.replicate x.zJ.length (xG x) from he)];have f:=kI ((jN q1).all x hx);exact f.2.2
 have one:∀v,v∈[(qD s).1]->v=(qD s).1:=λv hv=>gN.1 hv
 have lz:∀x∈l.map yX,∃y∈l,x=yX y:=λx hx=>by
  obtain⟨y,hy,e⟩:=gZ.1 hx;exact⟨y,hy,e.symm⟩
 have fv:=Ni q1 0
 have ends:∀i j k e,iV ⟨0,0,0,List.replicate n.toNat 0,[(qD s).1],l.map yX,List.replicate n.toNat [0,0,0,0,0,0],[]⟩ i j k=some e->e.zi=0/\∀t,iE e t=0:=λi j k e he=>by
  unfold iV at he;split at he
  ·obtain⟨v,g,a1,a2,a3⟩:=Pw he;have hv:=one v (gh a1);subst hv;exact(fv g (gh a2) e (gh a3)).2
  ·cases he
 refine⟨⟨⟨qf.2 ⟨?_,⟨?_,?_⟩,⟨gR _,by show(0:Int)<=1000000000000;decide⟩,.inl O,?_⟩,⟨gR _,by show(0:Int)<1;decide⟩,(by show Go.Lim.ft []=true;rfl),(λr hr=>nomatch hr),?_,?_⟩,⟨by show 1<=N;omega,aq hl,by show 0<=N;omega,?_,?_⟩,⟨?_,?_⟩⟩,?_,?_,?_,?_⟩
 ·simp only[sP];omega
 ·simp
 ·intro r hr;rw[pw hr];rfl
 ·intro p hp;rw[pw hp];exact⟨gR _,by show(0:Int)<=0+1;decide⟩
 ·intro i v hv;have hi:i=0:=by have:=(dY.1 hv).1;exact de
  subst hi;cases hv
  exact⟨L7 q1,by rw[hc];rfl⟩
 ·intro i x hx;obtain⟨y,hy,rfl⟩:=gT.1 ((gj ..).symm.trans hx);have z:=q4 i y hy;refine⟨Fz z.1 (gR _) O,Xf hy z.2⟩
 ·intro v hv;rw[one v hv];exact⟨by rw[hc];exact hs,λg hg=>⟨by rw[(fr g hg).1];decide,λe he=>((fr g hg).2 e he).2⟩⟩
 ·intro x hx;obtain⟨y,hy,rfl⟩:=lz x hx;exact⟨hn y hy,by show i64 0;decide⟩
 ·intro x hx;obtain⟨y,hy,rfl⟩:=lz x hx;show(0:Int)<=_
  decide
 ·intro v hv g hg e he;rw[one v hv]at hg;rw[((fr g hg).2 e he).1]
  decide
 ·intro v hv g hg e he;rw[one v hv]at hg;exact((fv g hg e he).1:A3 0 e) |> λz=>⟨by have:=z.1;omega,z.2⟩
 ·simp only[sP,gp];omega
 ·intro x hx p hp;obtain⟨L,hL,rfl⟩:=gZ.1 hx;exact hO L hL p hp
 ·refine⟨T.map λ_=>λ_=>0,aj,λi x o hx ho=>?_,λk=>?_⟩
  ·obtain⟨L,hL,rfl⟩:=gT.1 ((gj ..).symm.trans hx);obtain⟨_,_,rfl⟩:=gT.1 ((gj ..).symm.trans ho);exact⟨gY _,rfl,[],YT,⟨λa ha=>(by cases ha),.inl ⟨rfl,λ_=>O⟩⟩⟩
  ·have z:((T.map λ_=>λ(_:Key)=>0).map (· k)).sum=0:=by
    rw[rQ];exact P4 T
   rw[z];cases k with
   |slot i j k s'=>
    simp only[Has];split
    ·rename_i e he;exact(ends i j k e he).2 s'
    ·rfl
   |act i j k=>
    simp only[Has];split
    ·rename_i e he;rw[(ends i j k e he).1];rfl
    ·rfl
   |fi i=>
    simp only[Has];split
    ·split
     ·rename_i x hx;obtain⟨y,_,rfl⟩:=lz x (gh hx)
      rfl
     ·rfl
    ·rfl
   |fI i=>
    simp only[Has];rw[gf];rintro⟨h1,h2,h3,_⟩;have h2:i<1:=h2;exact h3 (by show i=0;omega)
   |lock=>rfl
abbrev ij:=Wor×List fp×List eV
def nT(e:eV)(x:fp):eV:={e with op:=x.done,qX:=!x.on}
def GY(s:ij)(t:Nat):ij:=match s.2.1[t]? with
 |some x=>match x.ops[x.done]? with
  |some o=>match yl s.1 (jF x t o) with
   |some r=>(r.1,s.2.1.set t (jj x r.2.1),s.2.2++[nT r.2.2 x])
   |none=>s
  |none=>s
 |none=>s
def vp(s:ij)(p:Int):ij:=match (qB s.2.1 s.2.1.length)[(p%(qB s.2.1 s.2.1.length).length).toNat]? with
 |some t=>GY s t
 |none=>s
def Fl{X:List fp}:∀{k t:Nat},t∈qB X k↔t<k/\∃x,X[t]?=some x/\x.done<x.ops.length
 |0,t=>by simp[qB]
 |k+1,t=>by
  unfold qB;cases hx:X[k]? with
  |none=>
   dsimp only;rw[Fl];constructor
   ·rintro⟨h,q⟩;exact⟨aw,q⟩
   ·rintro⟨h,x,hx2,q⟩;refine⟨?_,x,hx2,q⟩;rcases pR t k with h|h
    ·exact h
    ·have:t=k:=by omega
     subst this;rw[hx]at hx2;cases hx2
  |some y=>
   dsimp only;split
   ·rename_i hd;rw[Fl];constructor
    ·rintro⟨h,q⟩;exact⟨aw,q⟩
    ·rintro⟨h,x,hx2,q⟩;refine⟨?_,x,hx2,q⟩;rcases pR t k with h|h
     ·exact h
     ·have:t=k:=by omega
      subst this;rw[hx]at hx2;cases hx2
      omega
   ·rename_i hd;rw[gO,Fl,gN];constructor
    ·rintro(⟨h,q⟩|rfl)
     ·exact⟨aw,q⟩
     ·exact⟨aw,y,hx,aw⟩
    ·rintro⟨h,x,hx2,q⟩;rcases pR t k with h|h
     ·exact .inl ⟨h,x,hx2,q⟩
     ·exact .inr aw
def yI{N K:Nat}{s:ij}(gi:GI N K s.1 s.2.1)(p:Int)(hN:N<=100000000)(hK:K<=1099511627776):
  (qB s.2.1 s.2.1.length=[]/\vp s p=s)\/∃t x o r,(qB s.2.1 s.2.1.length)[(p%(qB s.2.1 s.2.1.length).length).toNat]?=some t/\s.2.1[t]?=some x/\x.ops[x.done]?=some o/\zY s.1 (jF x t o)=true/\fT (jF x t o)/\yl s.1 (jF x t o)=some r/\r.2.2.access≠0/\
   vp s p=(r.1,s.2.1.set t (jj x r.2.1),s.2.2++[nT r.2.2 x])/\GI (N+1) (K+1) r.1 (s.2.1.set t (jj x r.2.1)):=by
 by_cases ha:qB s.2.1 s.2.1.length=[]
 ·refine .inl ⟨ha,?_⟩;unfold vp;rw[ha]
  rfl
 ·right
  have hl:0<(qB s.2.1 s.2.1.length).length:=ub.2 ha;have b0:=sA p (show((qB s.2.1 s.2.1.length).length:Int)≠0 by omega);have b1:=sr p (show(0:Int)<(qB s.2.1 s.2.1.length).length by omega);obtain⟨t,ht⟩:∃t,(qB s.2.1 s.2.1.length)[(p%(qB s.2.1 s.2.1.length).length).toNat]?=some t:=⟨_,dZ aw⟩;obtain⟨_,x,hx,hd⟩:=Fl.1 (gh ht);obtain⟨o,ho⟩:∃o,x.ops[x.done]?=some o:=⟨_,dZ hd⟩;obtain⟨h1,h2,r,h3,h4,h5⟩:=ZL gi hx ho hN hK;refine⟨t,x,o,r,ht,hx,ho,h1,h2,h3,h4,?_,h5⟩;unfold vp GY;rw[ht];dsimp only;rw[hx];dsimp only;rw[ho];dsimp only;rw[h3]
def GI.mono{N K N' K':Nat}{w:Wor}{X:List fp}(h:GI N K w X)(hN:N<=N')(hK:K<=K'):GI N' K' w X:=⟨h.st.mono hN hK,h.tg.mono hN,h.len,h.ops,h.own⟩
def Z3{N K:Nat}{s:ij}(gi:GI N K s.1 s.2.1)(p:Int)(hN:N<=100000000)(hK:K<=1099511627776):GI (N+1) (K+1) (vp s p).1 (vp s p).2.1:=by
 rcases yI gi p hN hK with⟨_,h⟩|⟨t,x,o,r,_,_,_,_,_,_,_,h,h2⟩
 ·rw[h];exact gi.mono aw aw
 ·rw[h];exact h2
def iv(s:ij)(l:List Int)(k:Nat):ij:=(l.take k).foldl vp s
def wK{s:ij}{l:List Int}{k:Nat}{p:Int}(h:l[k]?=some p):iv s l (k+1)=vp (iv s l k) p:=by
 unfold iv;obtain⟨h1,h2⟩:=dY.1 h;rw[p7 h1,sE,h2]
 rfl
def CZ{N K:Nat}{s:ij}(gi:GI N K s.1 s.2.1)(l:List Int):∀k,k<=l.length->N+k<=100000000->K+k<=1099511627776->GI (N+k) (K+k) (iv s l k).1 (iv s l k).2.1
 |0,_,_,_=>gi
 |k+1,hk,hN,hK=>by
  have ih:=CZ gi l k aw aw aw;rw[wK (dZ aw)];exact Z3 ih _ aw aw
def Wu{l:List Int}:∀{s:ij},qB s.2.1 s.2.1.length=[]->l.foldl vp s=s:=by
 induction l with
 |nil=>intro s _;rfl
 |cons p l ih=>
  intro s h;have:vp s p=s:=by unfold vp;rw[h];rfl
  rw[eh,this];exact ih h
end Go.Wor
