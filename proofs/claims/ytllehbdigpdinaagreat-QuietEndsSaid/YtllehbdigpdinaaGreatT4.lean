import Derived.Test.YtllehbdigpdinaaGreatT3
import Derived.Test.YtllehbdigpdinaaGreatT1
import Derived.Test.YtllehbdigpdinaaGreatT2
set_option linter.all false
set_option maxRecDepth 100000
set_option maxHeartbeats 4000000
namespace Go.Wor
open Go.Ab Go.Proofs Tryz Go.Gat Go.Nam Go.Hos Go.Con Go.Sna
open Go.Hy hiding encI
variable{p i:Nat}{x:fS}{w:Wor}{v:fI}{e:En}{m:fD}{g:Gr}
section
variable {N K:Nat} {w:Wor} {m:fD} {v:fI} {g:Gr} {e:En}
def Qh(hat:iB w m v g e)(ow:∀x,j3 m x<=Has w x)(h:ph m=p)(hp:p=2\/p=3):0<=m.slot/\m.slot<e.next.length/\m.slot∉(Slp.qB e).1:=by
 have:=FX ow h (.slot m.version m.zg m.end_ m.slot) (by simp[qj,hp]);rw[KX hat]at this;unfold lb at this;split at this
 .assumption
 .omega
def zvH(hat:iB w m v g e)(ow:∀x,j3 m x<=Has w x)(h:ph m=p)(hp:p=3\/p=4):1<=e.zj:=by
 have:=FX ow h (.act m.version m.zg m.end_) (by simp[qj,hp]);rw[HZ hat]at this;omega
def ZM(st:St N K w)(tg:Tg N w)(su:qt w m v g e)(tm:iy m)(lo:Jb w m v g e)(hk:m.op.kind=2)(hN:N<=100000000)(hK:K<=1099511627776)(ow:∀x,j3 m x<=Has w x):∃r,jW w m v g e=some r/\Nc N K w m Jb M1 r:=by
 obtain⟨f1,f2,f3,f4,f5,f6,f7⟩:=kR st su;have st1:St (N+1) (K+1) w:=st.mono aw aw;have tg1:=tg.mono (ru N);have te:=ET tg su.at_;have hs:=YC f1 f2;have pc:=lo.pc;unfold jW;rcases(by omega:m.pc=0\/m.pc=1\/m.pc=2\/m.pc=3\/m.pc=4\/m.pc=9) with p|p|p|p|p|p
 .have l0:=lo.fP aw;rw[gz p];exact zF V ⟨uX,st1,tg1,⟨tm.listen,f6.1,tm.link,tm.host,tm.path,tm.d0,tm.d1,tm.cfg,tm.nA⟩,rfl,rfl,xb.refl w _,qs w (ED (p:=3) (lQ su.done hk uM) (lQ su.done hk uM) V V V V V),.inr ⟨v,g,e,uQ,⟨uL,λ_=>l0,λ_=>⟨gO _,hs⟩,uK⟩⟩⟩
 .have l0:=lo.fP aw;have lt:=lo.tag (.inl p);obtain⟨h0,h1,h2⟩:=Qh su.at_ ow (p:=3) (lQ su.done hk uM) (.inr V);have hw: -1<=zA m.word:=by show -1<=m.word%4294967296-1;omega
  obtain⟨b1,b2⟩:=Slp.ztp (v:=zA m.word) f1 h0 h2;have hlen:(vx m e).next.length=e.next.length:=pV
  have hok:(vx m e).ok:=⟨f6.1,⟨λx hx=>by
   rcases mem_set hx with hx|rfl
   .exact f6.2.1.1 x hx
   .unfold i64;omega,by rw[hlen];exact f6.2.1.2⟩,f6.2.2⟩
  have st2:=st1.np su.at_ (e':=qK (vx m e) e.head e.zj) (tk:=g.zx) b2 hlen hok f7 aM;rw[gp aw,gz p]
  exact zF V ⟨tI,st2,Ei tg1 su.at_ (e':=qK (vx m e) e.head e.zj) ⟨by have:=te.1;show nn e<=_;omega,λx hx=>by
    rcases mem_set hx with hx|rfl
    .exact te.2 x hx
    .exact⟨hw,lt.2⟩⟩,uO,rfl,rfl,DY su.at_ (e':=qK (vx m e) e.head e.zj) ⟨hlen,gO _,λ_=>V,λs s0 hso=>by
    show(e.next.set m.slot.toNat _)[s.toNat]?=_;rw[pj];intro hc;have hc:s=m.slot:=aw
    rw[hc,jl (p:=3) (lQ su.done hk uM)]at hso;simp[qj]at hso⟩,Sb su.at_ (e':=qK (vx m e) e.head e.zj) hlen (by rw[show Slp.qB (qK (vx m e) e.head e.zj)=Slp.qB e from b1]) V (ED (p:=3) (lQ su.done hk uM) (lQ su.done hk uM) V V V V V),
   .inr ⟨_,_,_,Fx (e':=qK (vx m e) e.head e.zj) (m':={m with pc:=2}) su hlen st2.qI V su.done V V V V V V V V,⟨uL,λ_=>l0,λ_=>lt,λ_=>by
    show(e.next.set m.slot.toNat _)[m.slot.toNat]?=_;rw[gD aw]⟩⟩⟩
 .have l0:=lo.fP aw;obtain⟨h0,h1,h2⟩:=Qh su.at_ ow (p:=3) (lQ su.done hk uM) (.inr V);rw[gp aw,gp aw,gz p];by_cases q:e.head=m.word
  .rw[gz q];have hx:=lo.next p;have hh:zA m.word=Slp.zA e:=by rw[<-q];rfl
   rw[hh]at hx;obtain⟨c1,c2,c3⟩:=zt4 f6 f1 h0 h1 h2;rw[xV _ _ hx,q]at c1 c2 c3;have nt:=QV (i:=m.slot) te.1 f6.1 hN aw aw;rw[q]at nt;have st2:=st1.np su.at_ (e':=qK e (Slp.qY m.word m.slot) e.zj) (tk:=g.zx) c1 V c2 f7 aM;have ta:nn (qK e (Slp.qY m.word m.slot) e.zj)=nn e+1:=by unfold nn;rw[q];exact nt
   exact zF V ⟨aN,st2,Ei tg1 su.at_ (e':=qK e (Slp.qY m.word m.slot) e.zj) ⟨by have:=te.1;omega,te.2⟩,uO,rfl,rfl,DY su.at_ (e':=qK e (Slp.qY m.word m.slot) e.zj) ⟨rfl,aw,λh=>by omega,λ_ _ _=>V⟩,
    AZ (p:=3) (p':=4) (lQ su.done hk uM) (lQ su.done hk uM) (zyn su.at_ (e':=qK e (Slp.qY m.word m.slot) e.zj) V h0 h1 c3 h2 V m.listen),.inr ⟨_,_,_,Fx (e':=qK e (Slp.qY m.word m.slot) e.zj) (m':={m with pc:=3}) su V st2.qI V su.done V V V V V V V V,
    ⟨uL,λ_=>l0,uK,uK⟩⟩⟩
  .rw[gp q];exact zF V ⟨aO,st1,tg1,uO,rfl,rfl,xb.refl w _,qs w (ED (p:=3) (lQ su.done hk uM) (lQ su.done hk uM) V V V V V),.inr ⟨v,g,e,uQ,⟨uL,λ_=>l0,uK,uK⟩⟩⟩
 .have l0:=lo.fP aw;have a1:=zvH su.at_ ow (p:=4) (lQ su.done hk uM) (.inr V);have hw:IntKind.i64.wrap (e.zj-1)=e.zj-1:=z7 aw aw;have st2:=st1.np su.at_ (e':=qK e e.head (e.zj-1)) (tk:=g.zx) (R6 f1 _ aw) V ⟨f6.1,f6.2.1,by show i64 (e.zj-1);unfold i64;omega⟩ f7 (by show e.zj-1<=_;omega);rw[gp aw,gp aw,gp aw,gz p,hw]
  exact zF V ⟨tM,st2,Ei tg1 su.at_ (e':=qK e e.head (e.zj-1)) (show Cn (N+1) e from ET tg1 su.at_),uO,rfl,rfl,DY su.at_ (e':=qK e e.head (e.zj-1)) ⟨rfl,gO _,λ_=>V,λ_ _ _=>V⟩,
   AZ (p:=4) (p':=1) (lQ su.done hk uM) (lQ su.done hk uM) (zyk su.at_ (e':=qK e e.head (e.zj-1)) V V a1 V m.slot m.listen),.inr ⟨_,_,_,Fx (e':=qK e e.head (e.zj-1)) (m':={m with pc:=4}) su V st2.qI V su.done V V V V V V V V,
   ⟨uL,λ_=>l0,uK,uK⟩⟩⟩
 .have l0:=lo.fP aw;have p1:ph m=1:=(lQ su.done hk uM);obtain⟨_,x,hx,x1⟩:=Q3 ow p1 ar;have ca:=st.i5.fP x (gu hx);have hw:IntKind.i64.wrap (x.zj-1)=x.zj-1:=z7 aw aw;have st2:=LQ st su hx (x.zj-1) aw aw hK;unfold w9;rw[gp aw,gp aw,gp aw,gp aw,gz p,gp aw,hx,gK];unfold CT;rw[hw];exact zF V ⟨tM,st2,tg1,uP,rfl,rfl,FI hx V id,AZ (p:=1) (p':=0) p1 (vc V (λh=>absurd (hk.symm.trans h.1) ar)) (QT l0 hx x1 V _ _ _ _ _ _ _ _ _),.inl ⟨rfl,.inl ⟨rfl,p⟩⟩⟩
 .rw[gp aw,gp aw,gp aw,gp aw,gp aw,gz p];exact zF V ⟨uX,st1,tg1,uP,rfl,rfl,xb.refl w _,qs w (wP (lQ su.done hk uM) (vc V (λh=>absurd (hk.symm.trans h.1) ar))),.inl ⟨rfl,.inr ⟨rfl,p⟩⟩⟩
def zvL(ow:∀x,j3 m x<=Has w x)(h:ph m=5):m.version≠w.current/\∀r∈w.zm,r.version≠m.version:=by
 have:=FX ow h (.fW m.version) (by simp[qj])
 grind [Has]
theorem Rf(w:Wor)(n:Int){x:fI}(hx:∀g∈x.zq,∀e∈g.ends,e.zj=0/\∀s,lb e s=0)(i j k:Int):
  wE {w with current := n, ze := w.ze ++ [x]} i j k = wE w i j k \/ (wE w i j k = none /\ ∃e, wE {w with current := n, ze := w.ze ++ [x]} i j k = some e /\ e.zj = 0 /\ ∀s, lb e s = 0) := by
 unfold wE yZ;dsimp only;by_cases q:0<=i/\0<=j/\0<=k
 .rw[gz q,gz q];by_cases h:i.toNat<w.ze.length
  .rw[gF h];exact .inl V
  .rw[gP aw,pM (show w.ze.length<=i.toNat by omega),u6];cases hv:[x][i.toNat-w.ze.length]? with
   |none=>exact .inl V
   |some y=>
    have:y=x:=gZ.1 (gu hv);subst this;rw[gW];cases hg:y.zq[j.toNat]? with
    |none=>exact .inl V
    |some g=>
     rw[gW];cases he:g.ends[k.toNat]? with
     |none=>exact .inl V
     |some e=>exact .inr ⟨rfl,e,rfl,hx g (gu hg) e (gu he)⟩
 .rw[gp q,gp q];exact .inl V
def ZE(gw:qQ w){x:fI}(hx:∀g∈x.zq,∀e∈g.ends,e.zj=0/\∀s,lb e s=0)(a b c d l a' b' c' l':Int):Mv w {w with current:=w.ze.length,ze:=w.ze++[x]} (qj 0 d a b c l) (qj 5 w.current a' b' c' l'):=λy=>by
 have cu:=gw.current;rw[Am];cases y with
 |slot i j k s=>
  grind [qj,Rf,Has]
 |act i j k=>
  grind [qj,Rf,Has]
 |fP i=>simp[Has,qj]
 |lock=>simp[Has,qj]
 |fW i=>
  have la:∀r∈w.zm,r.version≠w.current/\r.version<w.ze.length:=λr hr=>by
   obtain⟨i,hi⟩:=gI.1 hr;have:=xR gw hi
   grind
  grind [Has,qj,List.length_append,List.length_singleton]
def ztv(h0:0<=x.version/\x.version<w.ze.length)(h1:x.version≠w.current)(h2:∀r∈w.zm,r.version≠x.version)(a b c a' b' c' d' l l':Int):Mv w {w with zm:=w.zm++[x]} (qj 5 x.version a b c l) (qj 0 d' a' b' c' l'):=λy=>by
 rw[Am];cases y with
 |slot i j k s=>simp[Has,qj];rfl
 |act i j k=>simp[Has,qj];rfl
 |fP i=>simp[Has,qj]
 |lock=>simp[Has,qj]
 |fW i=>
  grind [Has,qj]
theorem zxd{x:ij}(h:II x)(n:Nat):Cn n (x6 x)/\∀s,lb (x6 x) s=0:=by
 have hs:=h.ye;unfold x6;have:x.ye=1\/x.ye=2\/x.ye=3\/x.ye=4:=aw
 rcases this with e|e|e|e <;> rw[e]
 .refine⟨⟨aP,ar⟩,λs=>?_⟩;unfold lb;rw[gp];rintro⟨h1,h2,h3⟩;have h2:s<1:=h2;have:s=0:=by omega
  subst this;exact dY
 .refine⟨⟨aP,ar⟩,λs=>?_⟩;unfold lb;rw[gp];rintro⟨h1,h2,h3⟩;have h2:s<2:=h2;have:s=0\/s=1:=by omega
  rcases this with rfl|rfl
  .exact dY
  .exact dY
 .refine⟨⟨aP,ar⟩,λs=>?_⟩;unfold lb;rw[gp];rintro⟨h1,h2,h3⟩;have h2:s<3:=h2;have:s=0\/s=1\/s=2:=by omega
  rcases this with rfl|rfl|rfl
  .exact dY
  .exact dY
  .exact dY
 .refine⟨⟨aP,ar⟩,λs=>?_⟩;unfold lb;rw[gp];rintro⟨h1,h2,h3⟩;have h2:s<4:=h2;have:s=0\/s=1\/s=2\/s=3:=by omega
  rcases this with rfl|rfl|rfl|rfl
  .exact dY
  .exact dY
  .exact dY
  .exact dY
def P9{s:Sna}(h:kO s=true)(n:Nat):∀g∈(ja s).1.zq,∀e∈g.ends,Cn n e/\e.zj=0/\∀t,lb e t=0:=λg hg e he=>by
 unfold ja at hg;rw[gz h]at hg;obtain⟨x,hx,rfl⟩:=gY.1 (show g∈s.zo.map mK from hg);rw[pS (show e∈List.replicate x.zS.length (x6 x) from he)];have gc:=(jP h).all x hx
 grind [wK,zxd]
def zwr(st:St N K w)(tg:Tg N w)(su:qt w m v g e)(tm:iy m)(lo:Jc w m v g e)(hk:m.op.kind=3)(ow:∀x,j3 m x<=Has w x):∃r,yg w m=some r/\Nc N K w m Jc C4 r:=by
 have gw:=st.qI;have st1:St (N+1) (K+1) w:=st.mono aw aw;have tg1:=tg.mono (ru N);have pc:=lo.pc;have cu:=gw.current;unfold yg;rcases(by omega:m.pc=0\/m.pc=1\/m.pc=2) with p|p|p
 .rw[gz p];by_cases q:oT m.op.config=0
  .rw[gz q];have hc:(jj m.op.config).1=0:=by grind [wX]
   have st2:=st.Sj hc (tm.cfg hk);have fr:=P9 (Kn hc);obtain⟨v',hv'⟩:∃v',w.ze[w.current.toNat]?=some v':=⟨_,gk aw⟩;have gv:=(gw.fW _ v' hv').1;have h0:0<v'.zq.length:=aE
   obtain⟨g',e',hg,he,l1,l2⟩:=wI gv h0
   exact zF V ⟨(by show(6:Int)≠0;decide),st2,λv2 hv g2 hg e2 he=>by
     rcases pw.1 hv with hv|hv
     .exact tg1 v2 hv g2 hg e2 he
     .rw[gZ.1 hv]at hg;exact(fr (N+1) g2 hg e2 he).1,uO,rfl,rfl,ztn,AZ (p:=0) (p':=5) (Bq su.done hk uM) (Bq su.done hk uM) (ZE gw (λg hg e he=>(fr 0 g hg e he).2) _ _ _ _ _ _ _ _ _),.inr ⟨v',g',e',⟨qf.2 st2.qI,su.zf,su.done,⟨cu.1,aQ⟩,
    by show(w.ze++[vm m.op.config])[w.current.toNat]?=some v';rw[gF aw];exact hv',⟨gO _,aJ⟩,hg,⟨gO _,aJ⟩,he,⟨gO _,aJ⟩,⟨gO _,aJ⟩,su.listen,by show(0:Int)<=(w.ze.length:Nat);omega,su.k⟩,
    ⟨uL,uK⟩⟩⟩
  .rw[gp q];exact zF V ⟨uX,st1,tg1,uP,rfl,rfl,xb.refl w _,qs w (wP (Bq su.done hk uM) (vc V (λh=>absurd (hk.symm.trans h.1) ar))),.inl ⟨rfl,by show(7:Int)<=9/\(9:Int)<=13;decide⟩⟩
 .have ep:=(zU.1 gw.ground).zl;rw[gp aw,gz p];exact zF V ⟨uX,st1,tg1,uO,rfl,rfl,xb.refl w _,qs w (Vm (Bq su.done hk uM) (Bq su.done hk uM) V),.inr ⟨v,g,e,uQ,⟨uL,λ_=>⟨ep.1,gO _⟩⟩⟩⟩
 .have p5:ph m=5:=(Bq su.done hk uM);have vf:=zvL ow p5;have ep:=lo.ep p;have sv:=su.version
  have nl:nJ w m=false:=by
   grind [nJ,Bool.or_eq_false_iff,List.any_eq_false]
  have st2:=st.SQ (x:=⟨m.version,m.zl,false⟩) sv.1 sv.2 vf.1 ep.1 ep.2 V vf.2;rw[gp aw,gp aw,gz p,nl];exact zF V ⟨tI,st2,tg1,uP,rfl,rfl,zvR,AZ (p:=5) (p':=0) p5 (vc V (λh=>absurd (hk.symm.trans h.1) ar)) (ztv (x:=⟨m.version,m.zl,false⟩) sv vf.1 vf.2 _ _ _ _ _ _ _ _ _),.inl ⟨rfl,by show(7:Int)<=8/\(8:Int)<=13;decide⟩⟩
def ztT(st:St N K w)(tg:Tg N w)(su:qt w m v g e)(tm:iy m)(lo:m.pc=0)(hk:m.op.kind=4)(hN:N<=100000000):∃r,yM w m=some r/\Nc N K w m (λ_ m _ _ _=>m.pc=0) C4 r:=by
 have gw:=st.qI;have st1:St (N+1) (K+1) w:=st.mono aw aw;have tg1:=tg.mono (ru N);have pr:=O9 w.zc m.op.listen;have hl:=st.ty.fP;have p0:ph m=0:=F2 su.done aw aw aw aw;unfold yM;rw[gz lo];by_cases q:zT w.zc m.op.listen<0
 .rw[gz q];exact zF V ⟨uX,st1,tg1,uP,rfl,rfl,xb.refl w _,qs w (wP p0 (vc V (λh=>absurd (hk.symm.trans h.1) ar))),.inl ⟨rfl,by show(7:Int)<=7/\(7:Int)<=13;decide⟩⟩
 .rw[gp q];obtain⟨x,hx⟩:∃x,w.zc[(zT w.zc m.op.listen).toNat]?=some x:=⟨_,gk aw⟩;have li:=Eo (gw.fP _ x hx).1;have lk:=st.ty.nF x (gu hx);have ca:=st.i5.fP x (gu hx);rw[hx,gK];have st2:=st1.Ep hx (y:=Go.Gat.Br x) V (FM li.1 li.2.1 V) lk.2 (by show x.zj<=_;omega);exact zF V ⟨tI,st2,tg1,⟨aI,tm.word,tm.link,tm.host,tm.path,tm.d0,tm.d1,tm.cfg,(λh=>absurd ((show m.op.kind=6 from h).symm.trans hk) ar)⟩,rfl,rfl,FI hx V (λ_=>V),PI (y:=Go.Gat.Br x) aw hx V (wP p0 (vc V (λh=>absurd (hk.symm.trans h.1) ar))),.inl ⟨rfl,by show(7:Int)<=10/\(10:Int)<=13;decide⟩⟩
def ztU(st:St N K w)(tg:Tg N w)(su:qt w m v g e)(tm:iy m)(lo:Fg w m v g e)(hk:m.op.kind=6):∃r,yf w m=some r/\Nc N K w m Fg C4 r:=by
 have st1:St (N+1) (K+1) w:=st.mono aw aw;have tg1:=tg.mono (ru N);have i0:=su.i;have k0:=su.k;have ik:=lo.i;have kk:=lo.k;have fE:m.i.toNat<w.counts.length:=aw
 have hl:=(zU.1 st.qI.ground).counts.2 _ (pt fE);have p0:ph m=0:=F2 su.done aw aw aw aw;unfold yf;rw[gz ⟨lo.pc,lo.k⟩,gk fE,gW,gk (show m.k.toNat<(w.counts[m.i.toNat]).length by omega),gK];generalize (w.counts[m.i.toNat])[m.k.toNat]'aw=n;by_cases h6:m.k+1=6
 .by_cases h7:m.i+1=w.counts.length
  .have e3:=LF (n:=n) h6 h7
   exact zF V ⟨uX,st1,tg1,by
     show iy (jo w m n);rw[e3];exact⟨tm.listen,tm.word,tm.link,tm.host,tm.path,tm.d0,tm.d1,tm.cfg,λ_ h=>aR⟩,by show(jo w m n).op=m.op;rw[e3],by show(jo w m n).zf=m.zf;rw[e3],xb.refl w _,qs w (wP p0 (by show ph (jo w m n)=0;rw[e3];exact vc V (λh=>absurd (hk.symm.trans h.1) ar))),.inl (by
     show(jo w m n).done=true/\C4 (jo w m n);rw[e3];exact⟨rfl,by show(7:Int)<=13/\(13:Int)<=13;decide⟩)⟩
  .have e2:=LD (n:=n) h6 h7
   exact zF V ⟨uX,st1,tg1,by
     show iy (jo w m n);rw[e2];exact uO,by show(jo w m n).op=m.op;rw[e2],by show(jo w m n).zf=m.zf;rw[e2],xb.refl w _,qs w (wP p0 (by show ph (jo w m n)=0;rw[e2];exact F2 su.done (by show m.op.kind≠1;omega) (by show m.op.kind≠2;omega) (by show m.op.kind≠3;omega) (by show m.op.kind≠5;omega))),.inr ⟨v,g,e,by
     show qt w (jo w m n) v g e;rw[e2];exact⟨su.world,su.zf,su.done,su.version,su.fZ,su.zg,su.fY,su.end_,su.ib,su.other,su.slot,su.listen,aT,gO _⟩,by
     show Fg w (jo w m n) v g e;rw[e2];exact⟨lo.pc,by show(0:Int)<6;decide,by show m.i+1<_;omega⟩⟩⟩
 .have e1:=LC (w:=w) (n:=n) h6 aw
  exact zF V ⟨uX,st1,tg1,by
    show iy (jo w m n);rw[e1];exact uO,by show(jo w m n).op=m.op;rw[e1],by show(jo w m n).zf=m.zf;rw[e1],xb.refl w _,qs w (wP p0 (by show ph (jo w m n)=0;rw[e1];exact F2 su.done (by show m.op.kind≠1;omega) (by show m.op.kind≠2;omega) (by show m.op.kind≠3;omega) (by show m.op.kind≠5;omega))),.inr ⟨v,g,e,by
    show qt w (jo w m n) v g e;rw[e1];exact⟨su.world,su.zf,su.done,su.version,su.fZ,su.zg,su.fY,su.end_,su.ib,su.other,su.slot,su.listen,su.i,by show 0<=m.k+1;omega⟩,by
    show Fg w (jo w m n) v g e;rw[e1];exact⟨lo.pc,by show m.k+1<6;omega,lo.i⟩⟩⟩
end
def zyl(h:w.lock=0)(a b c d l a' b' c' d' l':Int):Mv w {w with lock:=1} (qj 0 a b c d l) (qj 6 a' b' c' d' l'):=λy=>by
 rw[Am];cases y with
 |slot i j k s=>simp[Has,qj];rfl
 |act i j k=>simp[Has,qj];rfl
 |fP i=>simp[Has,qj]
 |fW i=>simp[Has,qj]
 |lock=>simp[Has,qj,h]
def ztw(h:w.lock=1)(a b c d l a' b' c' d' l':Int):Mv w {w with lock:=0} (qj 6 a' b' c' d' l') (qj 0 a b c d l):=λy=>by
 rw[Am];cases y with
 |slot i j k s=>simp[Has,qj];rfl
 |act i j k=>simp[Has,qj];rfl
 |fP i=>simp[Has,qj]
 |fW i=>simp[Has,qj]
 |lock=>simp[Has,qj,h]
def zv6{k:Nat}{a b:Key->Nat}(hv:w.ze[k]?=some v)(hx:w.zm[i]?=some x)(h:a=b):Mv w {w with ze:=w.ze.set k (x5 v),zm:=w.zm.set i (xG x)} a b:=λy=>by
 rw[h]
 have en:∀p q r,wE {w with ze:=w.ze.set k (x5 v),zm:=w.zm.set i (xG x)} p q r=wE w p q r:=λp q r=>by
  grind [wE,yZ,List.getElem?_set_self,List.getElem?_set_ne]
 cases y with
 |slot p q r s=>simp only[Has,en]
 |act p q r=>simp only[Has,en]
 |fP p=>rfl
 |lock=>rfl
 |fW p=>
  have ml:(∀r∈w.zm.set i (xG x),r.version≠p)↔∀r∈w.zm,r.version≠p:=by
   constructor
   .intro z r hr;obtain⟨j,hj⟩:=gI.1 hr;by_cases e:i=j
    .subst e;rw[hx]at hj;cases hj
     exact z (xG x) (gI.2 ⟨i,gD (gh.1 hx).1⟩)
    .exact z r (gI.2 ⟨j,by rw[pj e];exact hj⟩)
   all_goals grind
  grind [Has,List.length_set]
section
variable {N K:Nat} {w:Wor} {m:fD} {v:fI} {g:Gr} {e:En}
def zxc{k:Nat}(tg:Tg N w)(hv:w.ze[k]?=some v):Tg N {w with ze:=w.ze.set k (x5 v),zm:=w.zm.set i (xG x)}:=λv2 hv2 g hg e he=>by
 rcases mem_set hv2 with hv2|rfl
 .exact tg v2 hv2 g hg e he
 .exact tg v (gu hv) g hg e he
def zte(ow:∀x,j3 m x<=Has w x)(gw:qQ w)(h:ph m=6):w.lock=1:=by
 have:=FX ow h .lock (by simp[qj]);have l:=(zU.1 gw.ground).lock
 grind [Has]
def S2{m1:fD}(st:St N K w)(tg:Tg N w)(su:qt w m1 v g e)(tm:iy m1)(hk:m1.op.kind=5)(hN:N<=100000000)(hpc:m1.pc=8)(ho:m1.op=m.op)(ht:m1.zf=m.zf)(p6:ph m=6)(lk:w.lock=1):Nc N K w m Ff C4 (i6 w m1):=by
 have st1:St (N+1) (K+1) w:=st.mono aw aw;have tg1:=tg.mono (ru N);have i0:=su.i;have hl:=st.ty.fP;unfold i6;cases hx:w.zc[m1.i.toNat]? with
 |none=>
  have st2:=st1.DK (n:=0) (.inl V);exact⟨tI,st2,tg1,⟨tm.listen,tm.word,tm.link,tm.host,tm.path,tm.d0,tm.d1,tm.cfg,λh=>absurd ((show m1.op.kind=6 from h).symm.trans hk) ar⟩,ho,ht,yu (gO _) V V V V V,AZ (p:=6) (p':=0) p6 (vc V (λh=>absurd (hk.symm.trans h.1) ar)) (ztw lk _ _ _ _ _ _ _ _ _ _),.inl ⟨rfl,by show(7:Int)<=11/\(11:Int)<=13;decide⟩⟩
 |some l=>
  have fE:=(gh.1 hx).1;have hw:IntKind.i64.wrap (m1.i+1)=m1.i+1:=z7 aw aw;dsimp only;by_cases q:l.drain=true/\l.closed=false
  .unfold Ak;rw[gz q];exact⟨uX,st1,tg1,uO,ho,ht,xb.refl w _,qs w (wQ p6 (lZ su.done hk uM)),.inr ⟨v,g,e,uQ,⟨uL,uK,uK,uK,λ_=>⟨l,hx,q.1⟩⟩⟩⟩
  .unfold Ak;rw[gp q,hw];exact⟨uX,st1,tg1,uO,ho,ht,xb.refl w _,qs w (wQ p6 (lZ su.done hk uM)),.inr ⟨v,g,e,⟨su.world,su.zf,su.done,su.version,su.fZ,su.zg,su.fY,su.end_,su.ib,su.other,su.slot,su.listen,(by show 0<=m1.i+1;omega),su.k⟩,⟨by show _\/(8<=m1.pc/\m1.pc<=10);omega,uK,uK,uK,uK⟩⟩⟩
def X6(st:St N K w)(tg:Tg N w)(su:qt w m v g e)(tm:iy m)(lo:Ff w m v g e)(hk:m.op.kind=5)(hN:N<=100000000)(ow:∀x,j3 m x<=Has w x):∃r,qZ w m=some r/\Nc N K w m Ff C4 r:=by
 have gw:=st.qI;have st1:St (N+1) (K+1) w:=st.mono aw aw;have tg1:=tg.mono (ru N);have i0:=su.i;have k0:=su.k;have gr:=zU.1 gw.ground;have lT:=st.ty.fP;have lL:=st.ty.lim;have pc:=lo.pc;have pcs:m.pc=0\/m.pc=1\/m.pc=2\/m.pc=3\/m.pc=4\/m.pc=5\/m.pc=6\/m.pc=8\/m.pc=9\/m.pc=10:=aw
 unfold qZ;by_cases p:m.pc=0
 .rw[gz p];by_cases q:w.lock=0
  .rw[gz q];have st2:=st1.DK (n:=1) (.inr V);exact zF V ⟨aN,st2,tg1,uO,rfl,rfl,yu (gO _) V V V V V,AZ (p:=0) (p':=6) (lZ su.done hk uM) (lZ su.done hk uM) (zyl q _ _ _ _ _ _ _ _ _ _),.inr ⟨v,g,e,⟨qf.2 st2.qI,su.zf,su.done,su.version,su.fZ,su.zg,su.fY,su.end_,su.ib,su.other,su.slot,su.listen,su.i,su.k⟩,⟨uL,uK,uK,uK,uK⟩⟩⟩
  .rw[gp q];exact zF V ⟨aO,st1,tg1,uP,rfl,rfl,xb.refl w _,qs w (wP (lZ su.done hk uM) (vc V (λh=>absurd (hk.symm.trans h.1) ar))),.inl ⟨rfl,by show(7:Int)<=12/\(12:Int)<=13;decide⟩⟩
 replace pcs:=pcs.resolve_left p
 have p6:ph m=6:=(lZ su.done hk uM);have lk:=zte ow gw p6;have kl:j3 m .lock=1:=by rw[jl p6];simp[qj]
 rw[gp p];clear p
 by_cases p:m.pc=1
 .rw[gz p];exact zF V ⟨uX,st1,tg1,uO,rfl,rfl,xb.refl w _,qs w (wQ p6 (lZ su.done hk uM)),.inr ⟨v,g,e,uS,⟨uL,λ_=>by show(0:Int)<(w.pins.length:Nat);have:=gr.pins.1;omega,uK,uK,uK⟩⟩⟩
 replace pcs:=pcs.resolve_left p
 rw[gp p];clear p
 by_cases p:m.pc=2
 .rw[gz p];have hi:=lo.mP p;obtain⟨x,hx⟩:∃x,w.pins[m.i.toNat]?=some x:=⟨_,gk aw⟩;have hw:IntKind.i64.wrap (m.i+1)=m.i+1:=z7 aw aU;rw[hx,gK];unfold n7;rw[hw];by_cases q:x≠0/\x≠IntKind.i64.wrap (m.zl+1)
  .rw[gz q];exact zF V ⟨uX,st1,tg1,uO,rfl,rfl,xb.refl w _,qs w (wQ p6 (lZ su.done hk uM)),.inr ⟨v,g,e,uS,⟨uL,uK,uK,uK,uK⟩⟩⟩
  rw[gp q];by_cases q2:m.i+1<w.pins.length
  .rw[gz q2];exact zF V ⟨uX,st1,tg1,uO,rfl,rfl,xb.refl w _,qs w (wQ p6 (lZ su.done hk uM)),.inr ⟨v,g,e,uR,⟨aV,λ_=>q2,uK,uK,uK⟩⟩⟩
  .rw[gp q2];exact dE
 replace pcs:=pcs.resolve_left p
 rw[gp p];clear p
 by_cases p:m.pc=3
 .rw[gz p];by_cases q:w.zl=m.zl/\w.zl<1000000000000
  .have hw:IntKind.i64.wrap (w.zl+1)=w.zl+1:=z7 (by have:=gr.zl;omega) aw;rw[gz q,hw];have st2:=st1.GH (n:=w.zl+1) aw aw;exact zF V ⟨aN,st2,tg1,uO,rfl,rfl,yu (by show w.zl<=w.zl+1;omega) V V V V V,Ef V V V V V (wQ p6 (lZ su.done hk uM)),.inr ⟨v,g,e,⟨qf.2 st2.qI,su.zf,su.done,su.version,su.fZ,su.zg,su.fY,su.end_,su.ib,su.other,su.slot,su.listen,gO _,su.k⟩,⟨uL,uK,uK,uK,uK⟩⟩⟩
  .rw[gp q];exact zF V ⟨aO,st1,tg1,uO,rfl,rfl,xb.refl w _,qs w (wQ p6 (lZ su.done hk uM)),.inr ⟨v,g,e,uS,⟨uL,uK,uK,uK,uK⟩⟩⟩
 replace pcs:=pcs.resolve_left p
 rw[gp p];clear p
 by_cases p:m.pc=4
 .rw[gz p];cases hx:w.zm[m.i.toNat]? with
  |none=>exact zF V (S2 st tg (m1:=iV m 8 0) uS uO hk hN V V V p6 lk)
  |some r=>
   have fE:=(gh.1 hx).1;have hw:IntKind.i64.wrap (m.i+1)=m.i+1:=z7 aw aw;have la:=xR gw hx;dsimp only;unfold oO;rw[hw];by_cases q:r.gone=true\/Go.Lim.wS r.at_ m.zl=false
   .rw[gz q];exact zF V ⟨uX,st1,tg1,uO,rfl,rfl,xb.refl w _,qs w (wQ p6 (lZ su.done hk uM)),.inr ⟨v,g,e,uR,⟨aV,uK,uK,uK,uK⟩⟩⟩
   .rw[gp q];obtain⟨v',hv'⟩:∃v',w.ze[r.version.toNat]?=some v':=⟨_,gk aw⟩;have gv:=(gw.fW _ v' hv').1;have h0:0<v'.zq.length:=by have:=(jP gv.snap).zo.1;have:=gv.len;omega
    obtain⟨g',e',hg,he,l1,l2⟩:=wI gv h0;have el:=Ea gv
    exact zF V ⟨uX,st1,tg1,uO,rfl,rfl,xb.refl w _,qs w (wQ p6 (lZ su.done hk uM)),.inr ⟨v',g',e',⟨su.world,su.zf,su.done,⟨la.2.2.1,la.2.2.2.1⟩,hv',⟨gO _,aJ⟩,hg,⟨gO _,aJ⟩,he,⟨gO _,aJ⟩,⟨gO _,aJ⟩,su.listen,su.i,gO _⟩,
     ⟨uL,uK,λ_=>⟨r,hx,rfl,aW⟩,λ_=>by show(0:Int)<_;omega,uK⟩⟩⟩
 replace pcs:=pcs.resolve_left p
 rw[gp p];clear p
 by_cases p:m.pc=5
 .rw[gz p];obtain⟨r,hr,hrv,hrg⟩:=lo.lim (.inl p);have fE:=(gh.1 hr).1;have hk2:=lo.act p;have gv:=(gw.fW _ v su.fZ).1;have el:=Ea gv;have hw:IntKind.i64.wrap (m.i+1)=m.i+1:=z7 aw aw;have hwk:IntKind.i64.wrap (m.k+1)=m.k+1:=z7 aw aw;obtain⟨x,hx⟩:∃x,(qv v)[m.k.toNat]?=some x:=⟨_,gk aw⟩;rw[su.fZ,gW,hx,gK];unfold nD;rw[hw,hwk];by_cases q:x.zj≠0
  .rw[gz q];exact dE
  rw[gp q];by_cases q2:m.k+1<(qv v).length
  .rw[gz q2];exact zF V ⟨uX,st1,tg1,uO,rfl,rfl,xb.refl w _,qs w (wQ p6 (lZ su.done hk uM)),.inr ⟨v,g,e,uT,⟨aV,uK,λ_=>⟨r,hr,hrv,hrg⟩,λ_=>q2,uK⟩⟩⟩
  .rw[gp q2];exact zF V ⟨uX,st1,tg1,uO,rfl,rfl,xb.refl w _,qs w (wQ p6 (lZ su.done hk uM)),.inr ⟨v,g,e,uT,⟨uL,uK,λ_=>⟨r,hr,hrv,hrg⟩,uK,uK⟩⟩⟩
 replace pcs:=pcs.resolve_left p
 rw[gp p];clear p
 by_cases p:m.pc=6
 .rw[gz p];obtain⟨r,hr,hrv,hrg⟩:=lo.lim (.inr p);have fE:=(gh.1 hr).1;have hw:IntKind.i64.wrap (m.i+1)=m.i+1:=z7 aw aw;have st2:=st.qX su.version.1 su.fZ hr hrv;have s1:=(gh.1 su.fZ).1;rw[su.fZ,gW,hr,gW,gz ⟨hrv,hrg⟩];unfold Cr;rw[hw]
  exact zF V ⟨tI,st2,zxc tg1 su.fZ,uP,rfl,rfl,Ym kl su.fZ hr,zv6 su.fZ hr (wQ p6 (lZ su.done hk uM)),.inr ⟨x5 v,g,e,⟨qf.2 st2.qI,su.zf,su.done,aq su.version,gD s1,su.zg,su.fY,su.end_,su.ib,su.other,su.slot,su.listen,aT,su.k⟩,
   ⟨uL,uK,uK,uK,uK⟩⟩⟩
 replace pcs:=pcs.resolve_left p
 rw[gp p];clear p
 by_cases p:m.pc=8
 .rw[gz p];exact zF V (S2 st tg su tm hk hN p V V p6 lk)
 replace pcs:=pcs.resolve_left p
 rw[gp p];clear p
 by_cases p:m.pc=9
 .rw[gz p];obtain⟨l,hl,hd⟩:=lo.fP (.inl p);have fE:=(gh.1 hl).1;have hw:IntKind.i64.wrap (m.i+1)=m.i+1:=z7 aw aw;rw[hl,gK,hw];by_cases q:l.zj=0
  .rw[gz q];exact zF V ⟨uX,st1,tg1,uO,rfl,rfl,xb.refl w _,qs w (wQ p6 (lZ su.done hk uM)),.inr ⟨v,g,e,uQ,⟨uL,uK,uK,uK,λ_=>⟨l,hl,hd⟩⟩⟩⟩
  .rw[gp q];exact dE
 rw[gp p];have p:m.pc=10:=pcs.resolve_left p;obtain⟨l,hl,hd⟩:=lo.fP (.inr p);have fE:=(gh.1 hl).1;have hw:IntKind.i64.wrap (m.i+1)=m.i+1:=z7 aw aw;have li:=Eo (gw.fP _ l hl).1;have st2:=st1.Ep hl (y:=As l) V (FM li.1 li.2.1 (by show(l.drain || !true)=true;rw[hd];rfl)) (st.ty.nF l (gu hl)).2 aX;rw[gz p,hl,gW,gz hd,hw];exact zF V ⟨tI,st2,tg1,uO,rfl,rfl,FI hl V id,PI (y:=As l) i0 hl V (wQ p6 (lZ su.done hk uM)),.inr ⟨v,g,e,⟨qf.2 st2.qI,su.zf,su.done,su.version,su.fZ,su.zg,su.fY,su.end_,su.ib,su.other,su.slot,aq su.listen,aT,su.k⟩,⟨uL,uK,uK,uK,uK⟩⟩⟩
end
def Fs{α:Type}{l l':List α}{x:α}(h:l[i]?=some x)(hl:l.length<=l'.length):∃y,l'[i]?=some y:=
 ⟨_,gk (by have:=(gh.1 h).1;omega)⟩
def P7:∀{l l':List Gr},l'.length=l.length->(∀(j:Nat) g g',l[j]?=some g->l'[j]?=some g'->g'.ends.length=g.ends.length)->(l'.flatMap (·.ends)).length=(l.flatMap (·.ends)).length
 |[],[],_,_=>rfl
 |g::l,g'::l',h,hh=>by
  have ih:=P7 (l:=l) (l':=l') tO λj a b ha hb=>hh (j+1) a b (aq ha) (aq hb)
  have h0:=hh 0 g g' V V;simp only[sd,pz];omega
 |[],_::_,h,_=>by simp at h
 |_::_,[],h,_=>by simp at h
def ztd(h:Slp.fV e=true)(h0:0<=Slp.zA e):Slp.zA e∈(Slp.qB e).1:=by
 have ok:=(Slp.CG h).1;rw[Slp.Df ok,(Slp.J8 ok aw).2.2]
 grind
theorem SS(e:En)(s:Int):lb e s<=1:=by unfold lb;split <;> omega
def zx5{w':Wor}{o:Key->Nat}(su:qt w m v g e)(lc:Lc w m v g e)(gw:qQ w)(gw':qQ w')(kp:xb w w' o)(ow:∀x,o x+j3 m x<=Has w x):
  ∃v' g' e',qt w' m v' g' e'/\Lc w' m v' g' e':=by
 have hv:=su.version;have hg:=su.zg;have he:=su.end_;obtain⟨v',av⟩:=Fs su.fZ kp.vg;have kv:=kp.fW _ v v' su.fZ av;obtain⟨g',ag⟩:=Fs su.fY (uq kv.len.symm);have kg:=kv.BS _ g g' su.fY ag;obtain⟨e',ae⟩:=Fs su.ib (uq kg.len.symm);have ke:=kg.ends _ e e' su.ib ae;rw[rM hv.1,rM hg.1,rM he.1]at ke;have l1:=kp.vg;have l2:=kv.len;have l3:=kg.len;have l4:=ke.len;have l5:=kp.pins;have l6:=kp.fP;have su':qt w' m v' g' e':=⟨qf.2 gw',by have:=su.zf;omega,su.done,aw,av,aw,ag,aw,ae,by have:=su.other;omega,by have:=su.slot;omega,by have:=su.listen;omega,su.i,su.k⟩;refine⟨v',g',e',su',?_⟩;have isv:=(((gw.fW _ v su.fZ).1.mG.2 g (gu su.fY)).2.2 e (gu su.ib)).1;have hsl:=KX su.at_ m.slot;have s0:=su.slot;have slo:=ow (.slot m.version m.zg m.end_ m.slot);rw[hsl]at slo;have sle:=SS e m.slot;rcases lc with⟨hk,lo⟩|⟨hk,lo⟩|⟨hk,lo⟩|⟨hk,lo⟩|⟨hk,lo⟩|⟨hk,lo⟩
 .refine .inl ⟨hk,⟨lo.pc,λh=>?_,lo.fP,lo.early,lo.Ct,λh=>?_,λh=>?_,λh h2=>?_,lo.nA,lo.kind⟩⟩
  .have:=lo.ep h;have:=kp.zl;omega
  .obtain⟨c,h1,h2⟩:=lo.draw h;exact⟨c,by rw[kv.snap];exact h1,h2⟩
  .have:=lo.slot h;have:=ke.tag;exact⟨(lo.slot h).1,aw⟩
  .have q:=lo.slot (.inr h);have t1:=ke.tag;have t2:nn e'=m.word / 4294967296:=by unfold nn;rw[h2]
   have hh:=ke.head aw;have hm:e.head=m.word:=by rw[<-hh];exact h2
   have hs:Slp.zA e=m.slot:=by rw[q.1,<-hm];rfl
   have fr:=ztd isv aw
   have z:lb e m.slot=0:=by
    grind [lb]
   rw[ke.next m.slot s0.1 (by show o _=0;omega)];exact lo.link h hm
 .refine .inr (.inl ⟨hk,⟨lo.pc,lo.fP,λh=>?_,λh=>?_⟩⟩)
  .have:=lo.tag h;have:=ke.tag;omega
  .have p3:ph m=3:=lQ su.done hk (by rw[gz aw]);have:j3 m (.slot m.version m.zg m.end_ m.slot)=1:=by rw[jl p3];simp[qj]
   rw[ke.next m.slot s0.1 (by show o _=0;omega)];exact lo.next h
 .refine .inr (.inr (.inl ⟨hk,⟨lo.pc,λh=>?_⟩⟩));have:=lo.ep h;have:=kp.zl;omega
 .exact .inr (.inr (.inr (.inl ⟨hk,lo⟩)))
 .refine .inr (.inr (.inr (.inr (.inl ⟨hk,⟨lo.pc,λh=>?_,λh=>?_,λh=>?_,λh=>?_⟩⟩))))
  .have:=lo.mP h;omega
  .obtain⟨r,h1,h2,h3⟩:=lo.lim h;obtain⟨r',h4⟩:=Fs h1 kp.lim;have q:=kp.zm _ r r' h1 h4;have p6:ph m=6:=lZ su.done hk (by rw[gz aw]);have k1:j3 m .lock=1:=by rw[jl p6];simp[qj]
   have lk:=(zU.1 gw.ground).lock;have k2:=ow .lock;have k3:Has w .lock=w.lock.toNat:=rfl;exact⟨r',h4,by rw[q.1];exact h2,by rw[q.2.2 aw];exact h3⟩
  .have:=lo.act h;have fl:(qv v').length=(qv v).length:=P7 l2 λj a b ha hb=>(kv.BS j a b ha hb).len
   omega
  .obtain⟨l,h1,h2⟩:=lo.fP h;obtain⟨l',h3⟩:=Fs h1 (uq l6.symm);exact⟨l',h3,(kp.og _ l l' h1 h3).2 h2⟩
 .exact .inr (.inr (.inr (.inr (.inr ⟨hk,⟨lo.pc,lo.k,by have:=lo.i;have:=kp.counts;omega⟩⟩))))
def RO{N K:Nat}(st:St N K w)(tg:Tg N w)(su:qt w m v g e)(tm:iy m)(lo:Lc w m v g e)(hN:N<=100000000)(hK:K<=1099511627776)(ow:∀x,j3 m x<=Has w x):∃r,vj w m=some r/\Nc N K w m Lc GF r:=by
 have up:∀{L:Wor->fD->fI->Gr->En->Prop} {F:fD->Prop} {r:Wor×fD×fG},Nc N K w m L F r->(∀w' m' v g e,m'.op=m.op->L w' m' v g e->Lc w' m' v g e)->(∀m',m'.op=m.op->F m'->GF m')->Nc N K w m Lc GF r:=λh hL hF=>
  ⟨h.ev,h.st,h.tg,h.tm,h.op,h.th,h.keep,h.mv,h.go.imp (λz=>⟨z.1,hF _ h.op z.2⟩) (λ⟨v,g,e,z1,z2⟩=>⟨v,g,e,z1,hL _ _ _ _ _ h.op z2⟩)⟩
 rw[show vj w m=if m.op.kind=1 then qe w m v g e else if m.op.kind=2 then jW w m v g e else if m.op.kind=3 then yg w m else if m.op.kind=4 then yM w m
  else if m.op.kind=5 then qZ w m else if m.op.kind=6 then yf w m else none by
   unfold vj;rw[su.fZ];dsimp only;rw[su.fY];dsimp only;rw[su.ib]]
 rcases lo with⟨hk,lo⟩|⟨hk,lo⟩|⟨hk,lo⟩|⟨hk,lo⟩|⟨hk,lo⟩|⟨hk,lo⟩
 .rw[gz hk];obtain⟨r,h1,h2⟩:=Y8 st tg su tm lo hk hN hK ow;exact⟨r,h1,up h2 (λ_ m' _ _ _ ho z=>.inl ⟨aY,z⟩) λm' ho z=>.inl ⟨aY,z⟩⟩
 .rw[gp aw,gz hk];obtain⟨r,h1,h2⟩:=ZM st tg su tm lo hk hN hK ow;exact⟨r,h1,up h2 (λ_ m' _ _ _ ho z=>.inr (.inl ⟨aY,z⟩)) λm' ho z=>.inr (.inl ⟨aY,z⟩)⟩
 .rw[gp aw,gp aw,gz hk];obtain⟨r,h1,h2⟩:=zwr st tg su tm lo hk ow;exact⟨r,h1,up h2 (λ_ m' _ _ _ ho z=>.inr (.inr (.inl ⟨aY,z⟩))) λm' ho z=>.inr (.inr ⟨aZ,aZ,z⟩)⟩
 .rw[gp aw,gp aw,gp aw,gz hk];obtain⟨r,h1,h2⟩:=ztT st tg su tm lo hk hN;exact⟨r,h1,up h2 (λ_ m' _ _ _ ho z=>.inr (.inr (.inr (.inl ⟨aY,z⟩)))) λm' ho z=>.inr (.inr ⟨aZ,aZ,z⟩)⟩
 .rw[gp aw,gp aw,gp aw,gp aw,gz hk];obtain⟨r,h1,h2⟩:=X6 st tg su tm lo hk hN ow;exact⟨r,h1,up h2 (λ_ m' _ _ _ ho z=>.inr (.inr (.inr (.inr (.inl ⟨aY,z⟩))))) λm' ho z=>.inr (.inr ⟨aZ,aZ,z⟩)⟩
 .rw[gp aw,gp aw,gp aw,gp aw,gp aw,gz hk];obtain⟨r,h1,h2⟩:=ztU st tg su tm lo hk;exact⟨r,h1,up h2 (λ_ m' _ _ _ ho z=>.inr (.inr (.inr (.inr (.inr ⟨aY,z⟩))))) λm' ho z=>.inr (.inr ⟨aZ,aZ,z⟩)⟩
end Go.Wor
namespace Go.Pla
open Go.Ab Go.Proofs Tryz Go.Hy
def wZ.at_{given L1 L2:List fN}{b:fN}(h:wZ given (L1++b::L2)):∃l1 i l2,qG given=l1++i::l2/\l1.map (λi=>given[i]?)=L1.map some/\given[i]?=some b/\l2.map (λi=>given[i]?)=L2.map some:=by
 unfold wZ at h;rw[pR,pP]at h;obtain⟨l1,l',h1,h2,h3⟩:=List.map_eq_append_iff.1 h;obtain⟨i,l2,h4,h5,h6⟩:=List.map_eq_cons_iff.1 h3
 grind
def wZ.zxU{given L1 L2:List fN}{b f:fN}(h:wZ given (L1++b::L2))(he:od f b=true)(hn:∀x∈L1,od f x=false):wZ (given++[f]) (L1++L2):=by
 have fE:∀n∈qG given,n<given.length:=ky given given.length (gG _)
 have h6:f.kind=6:=by
  unfold od at he;simp only[gH,gR]at he;exact he.1
 obtain⟨l1,i,l2,h1,h2,h3,h4⟩:=h.at_
 have a1:∀n∈l1,iS given f n=false:=λn hm=>by
  have:given[n]?∈l1.map (λi=>given[i]?):=gY.2 ⟨n,hm,rfl⟩;rw[h2]at this;obtain⟨x,hx,e⟩:=gY.1 this;unfold iS;rw[<-e];exact hn x hx
 have e:(qG given).findIdx? (iS given f)=some l1.length:=by
  rw[h1,eD,gV.2 a1,rQ];have:iS given f i=true:=by unfold iS;rw[h3];exact he
  rw[gz this];simp
 unfold wZ;rw[Kt,gp aw,e,h1];dsimp only
 rw[List.eraseIdx_append_of_length_le (gG _),rR,List.eraseIdx_cons_zero,KO given f _ (λn hn=>fE n (by
  rw[h1];rcases pw.1 hn with hn|hn
  .exact pw.2 (.inl hn)
  .exact pw.2 (.inr (pL _ hn)))),pR,h2,h4,pR]
end Go.Pla
namespace Go.Beg
open Go.Ab Go.Proofs Tryz Go.Hy Go.Pla
variable{o:fQ}
def zxb{given L:List fN}(h:wZ given L)(h0:0<=o.n)(h1:o.n<L.length):∃a,L[o.n.toNat]?=some a/\Dk o given=a:=by
 obtain⟨i,a,h2,h3,h4⟩:=Ro h0 (by rw[h.len];exact h1);refine⟨a,?_,h4⟩;have:=rq (λl=>l[o.n.toNat]?) h
 grind
def Y7{given L:List fN}(h:wZ given L)(h1:¬(0<=o.n/\o.n<L.length)):Dk o given=yL:=KD (by rw[h.len];exact h1)
end Go.Beg
namespace Go.Wor
open Go.Ab Go.Proofs Tryz Go.Gat Go.Nam Go.Hos Go.Con Go.Sna Go.Pla
open Go.Hy hiding encI
variable{a:fN}{w:Wor}{t:Int}{o:Key->Nat}{N:Nat}{x:fM}{p:fQ}{m:fD}{l:List Int}
def qk(x:fM)(t:Int)(o:fQ):fD:=if x.on then x.m else Beg.ji t o x.given
def yP(L:List fN)(x:Key):Nat:=(L.map λa=>lH a x).sum
def Eg(L L':List fN)(x:Key):yP (L++L') x=yP L x+yP L' x:=by unfold yP;rw[pR,fp]
def DZ(a:fN)(L:List fN)(x:Key):yP (a::L) x=lH a x+yP L x:=by unfold yP;rw[pP,rI]
def zwm(a:fN)(x:Key):yP [a] x=lH a x:=by rw[DZ];rfl
structure M4(w:Wor)(t:Int)(x:fM)(m:fD)(L:List fN)(o:Key->Nat):Prop where
 at_:x.ops[x.done]?=some m.op
 th:m.zf=t
 tm:iy m
 lc:∃v g e,qt w m v g e/\Lc w m v g e
 own:(((m.op.kind≠2\/m.pc=9)/\∀k,o k=yP L k+j3 m k)\/(m.op.kind=2/\m.pc<=4/\∃L1 a L2,L=L1++a::L2/\a.version=m.version/\a.zg=m.zg/\a.end_=m.end_/\a.slot=m.slot/\a.listen=m.listen/\(∀b∈L1,¬EI b a)/\∀k,o k=yP (L1++L2) k+j3 m k))
structure TI(w:Wor)(t:Int)(x:fM)(o:Key->Nat):Prop where
 le:x.done<=x.ops.length
 given:x.given.length=x.done
 open_ : ∃L, wZ x.given L /\ (∀a∈L, a.kind = 1 /\ 0 <= a.listen) /\ ((x.on = false /\ ∀k, o k = yP L k) \/ (x.on = true /\ M4 w t x x.m L o))
def F1{L:List fN}(h:a∈L)(k:Key):lH a k<=yP L k:=by
 obtain⟨L1,L2,rfl⟩:=List.append_of_mem h;rw[Eg,DZ];omega
def R2(h:∀k,lH a k<=Has w k):Az w a:=by
 have h1:=h (.slot a.version a.zg a.end_ a.slot);have h2:=h (.fP a.listen);have e1:lH a (.slot a.version a.zg a.end_ a.slot)=1:=by simp[lH,qj]
 have e2:lH a (.fP a.listen)=1:=by simp[lH,qj]
 rw[e1]at h1;rw[e2]at h2;simp only[Has]at h1 h2;split at h1
 .rename_i e he;unfold wE at he;split at he
  .rename_i q;unfold lb at h1;split at h1
   .rename_i z;split at h2
    .rename_i l0;split at h2
     .rename_i l hl;have:=(gh.1 hl).1;exact⟨⟨q.1,q.2.1,q.2.2,z.1⟩,⟨l0,aw⟩,e,he,z.2⟩
     .omega
    .omega
   .omega
  .cases he
 .omega
def SC(w:Wor)(i j k s:Int):Has w (.slot i j k s)<=1:=by
 grind [Has,SS]
theorem kW{o:fQ}{given:List fN}(h:o.kind≠2):Beg.ji t o given=⟨o,t,0,0,0, -1,0,0,0,0,0,0,0,0,0,false,Beg.yL,vd⟩:=by
 unfold Beg.ji;rw[gp h]
structure MV(o:fQ):Prop where
 kind:1<=o.kind/\o.kind<=6
 host:o.host.length<1000000000000000
 path:o.path.length<1000000000000000
 d0:i64 o.d0
 d1:i64 o.d1
 cfg:o.kind=3->yn o.config
def Hm{K:Nat}(st:St N K w)(tg:Tg N w)(ht:0<=t/\t<w.pins.length)(ti:TI w t x o)(hoff:x.on=false)(hp:x.ops[x.done]?=some p)(po:MV p)(hN:N<=100000000)(ow:∀k,o k<=Has w k):
  TI w t ⟨x.ops,x.done,true,Beg.ji t p x.given,x.given⟩ o:=by
 obtain⟨hle,hgl,L,hL,hk,hon⟩:=ti
 have hon:∀k,o k=yP L k:=by
  rcases hon with⟨_,h⟩|⟨h,_⟩
  .exact h
  .rw[hoff]at h;cases h
 refine⟨hle,hgl,L,hL,hk,.inr ⟨rfl,?_⟩⟩;have pk:=po.kind;have gr:=zU.1 st.qI.ground
 have idle:∀{pc:Int} {op:fQ},op=p->(pc=0\/pc=9)->iy ⟨op,t,pc,0,0, -1,0,0,0,0,0,0,0,0,0,false,Beg.yL,vd⟩/\∃v g e,qt w ⟨op,t,pc,0,0, -1,0,0,0,0,0,0,0,0,0,false,Beg.yL,vd⟩ v g e:=λe _=>by
  subst e;exact⟨⟨(by decide:i64 (-1)),(by decide:u64 0),(by decide:(-1:Int)<=0/\(0:Int)<=2147483646),po.host,po.path,po.d0,po.d1,po.cfg,λ_ _=>V⟩,J1 st.qI ht V V V V V V V V V⟩
 by_cases k2:p.kind=2
 .by_cases hn:0<=p.n/\p.n<L.length
  .obtain⟨a,ha,hta⟩:=Beg.zxb hL hn.1 hn.2;have am:=gu ha;obtain⟨ak,al⟩:=hk a am;have fa:Az w a:=R2 λk=>pH (F1 am k) (by rw[<-hon k];exact ow k)
   obtain⟨⟨p1,p2,p3,p4⟩,⟨l0,l1⟩,e,hat,hs,hf⟩:=fa;obtain⟨v,g,a1,a2,a3⟩:=Tm hat;have s1:=(gh.1 a1).1;have s2:=(gh.1 a2).1;have s3:=(gh.1 a3).1
   have eb:Beg.ji t p x.given=⟨p,t,0,0,a.version,a.listen,a.zg,a.end_,0,a.slot,0,0,0,0,0,false,Beg.yL,vd⟩:=by
    unfold Beg.ji;rw[gz k2,hta];unfold Beg.De;rw[gz ak,gz ak]
   rw[eb];have lN:=st.ty.fP
   obtain⟨L1,L2,hsp,hln⟩:∃L1 L2,L=L1++a::L2/\L1.length=p.n.toNat:=⟨L.take p.n.toNat,L.drop (p.n.toNat+1),by
    have fE:=(gh.1 ha).1;have he:=(gh.1 ha).2;rw[<-he,List.getElem_cons_drop,sC],aA⟩
   have Bq:ph ⟨p,t,0,0,a.version,a.listen,a.zg,a.end_,0,a.slot,0,0,0,0,0,false,Beg.yL,vd⟩=3:=lQ V k2 V
   refine⟨hp,rfl,⟨by show i64 a.listen;unfold i64;omega,(by decide:u64 0),(by decide:(-1:Int)<=0/\(0:Int)<=2147483646),po.host,po.path,po.d0,po.d1,po.cfg,λ_ _=>V⟩,
    ⟨v,g,e,⟨qf.2 st.qI,ht,rfl,⟨p1,by show a.version<_;omega⟩,a1,⟨p2,by show a.zg<_;omega⟩,a2,⟨p3,by show a.end_<_;omega⟩,a3,⟨gO _,aJ⟩,⟨p4,hs⟩,⟨by show -1<=a.listen;omega,l1⟩,gO _,gO _⟩,
     .inr (.inl ⟨k2,⟨.inl ⟨gO _,by show(0:Int)<=4;decide⟩,λ_=>l0,(λh=>by dsimp only at h;omega),λh=>absurd (show(0:Int)=2 from h) ar⟩⟩)⟩,
    .inr ⟨k2,by show(0:Int)<=4;decide,L1,a,L2,hsp,rfl,rfl,rfl,rfl,rfl,λb hb cl=>?_,λk=>?_⟩⟩
   .have q1:=ow (.slot a.version a.zg a.end_ a.slot);have q2:=SC w a.version a.zg a.end_ a.slot;have q3:=F1 hb (.slot a.version a.zg a.end_ a.slot);have e1:lH a (.slot a.version a.zg a.end_ a.slot)=1:=by simp[lH,qj]
    have e2:lH b (.slot a.version a.zg a.end_ a.slot)=1:=by simp[lH,qj,cl.1,cl.2.1,cl.2.2.1,cl.2.2.2]
    rw[hon,hsp,Eg,DZ]at q1;omega
   rw[hon k,hsp,Eg,Eg,DZ,jl Bq];show _=_+lH a k;omega
  .have eb:Beg.ji t p x.given=⟨p,t,9,0,0, -1,0,0,0,0,0,0,0,0,0,false,Beg.yL,vd⟩:=by
    unfold Beg.ji;rw[gz k2,Beg.Y7 hL hn]
    rfl
   rw[eb];obtain⟨ty,v,g,e,su⟩:=idle (pc:=9) V (.inr V);have p0:ph ⟨p,t,9,0,0, -1,0,0,0,0,0,0,0,0,0,false,Beg.yL,vd⟩=0:=lQ V k2 V;exact⟨hp,rfl,ty,⟨v,g,e,su,.inr (.inl ⟨k2,⟨.inr V,λh=>absurd (show(9:Int)<=4 from h) ar,(λh=>by dsimp only at h;omega),λh=>absurd (show(9:Int)=2 from h) ar⟩⟩)⟩,.inl ⟨.inr V,λk=>by rw[hon k,jl p0,Am];rfl⟩⟩
 .rw[kW k2];obtain⟨ty,v,g,e,su⟩:=idle (pc:=0) V (.inl V)
  have p0:ph ⟨p,t,0,0,0, -1,0,0,0,0,0,0,0,0,0,false,Beg.yL,vd⟩=0:=by
   by_cases k1:p.kind=1
   .exact ic V k1 V
   by_cases k3:p.kind=3
   .exact Bq V k3 V
   by_cases k5:p.kind=5
   .exact lZ V k5 V
   exact F2 V k1 k2 k3 k5
  refine⟨hp,rfl,ty,⟨v,g,e,su,?_⟩,.inl ⟨.inl k2,λk=>by rw[hon k,jl p0,Am];rfl⟩⟩;rcases(by omega:p.kind=1\/p.kind=3\/p.kind=4\/p.kind=5\/p.kind=6) with k|k|k|k|k
  .exact .inl ⟨k,⟨.inl ⟨gO _,by show(0:Int)<=12;decide⟩,(λh=>by dsimp only at h;omega),(λh=>by dsimp only at h;omega),(λh=>by dsimp only at h;omega),(λh=>by dsimp only at h;omega),λh=>absurd (show(0:Int)=6 from h) ar,(λh=>by dsimp only at h;omega),λh=>absurd (show(0:Int)=11 from h) ar,λh=>absurd (show(20:Int)<=0 from h) ar,λh=>absurd (show(0:Int)=22 from h) ar⟩⟩
  .exact .inr (.inr (.inl ⟨k,⟨⟨gO _,by show(0:Int)<=2;decide⟩,λh=>absurd (show(0:Int)=2 from h) ar⟩⟩))
  .exact .inr (.inr (.inr (.inl ⟨k,rfl⟩)))
  .exact .inr (.inr (.inr (.inr (.inl ⟨k,⟨.inl ⟨gO _,by show(0:Int)<=6;decide⟩,λh=>absurd (show(0:Int)=2 from h) ar,(λh=>by dsimp only at h;omega),λh=>absurd (show(0:Int)=5 from h) ar,(λh=>by dsimp only at h;omega)⟩⟩))))
  .exact .inr (.inr (.inr (.inr (.inr ⟨k,⟨rfl,by show(0:Int)<6;decide,by show(0:Int)<(w.counts.length:Nat);have:=gr.counts.1;have:=gr.pins.1;omega⟩⟩))))
def KT{v:fI}{g:Gr}{e:En}{r:Wor×fD×fG}(h:jW w m v g e=some r):r.2.1.version=m.version/\r.2.1.zg=m.zg/\r.2.1.end_=m.end_/\r.2.1.slot=m.slot/\r.2.1.listen=m.listen/\(m.pc=9->r.2.1.pc=9/\r.2.1.done=true)/\(m.pc<=4->r.2.1.pc<=4)/\(r.2.1.done=true->m.done=false->r.2.1.pc=m.pc):=by
 have c4:∀{a b:Int},a=b->(a=9->(1:Int)=2)->b=9->False:=λh1 h2 h3=>absurd (h2 (h1.trans h3)) ar
 unfold jW w9 at h;split at h
 .grind
 split at h
 .grind
 split at h
 .grind
 split at h
 .grind
 split at h
 .rename_i p;split at h
  .cases h
  .obtain⟨x,_,rfl⟩:=gT.1 h
   grind
 grind
def vU(h:m.done=true):ql x m=⟨x.ops,x.done+1,false,m,x.given++[m.answer]⟩:=gz h
theorem xu(h:m.done=false):ql x m=⟨x.ops,x.done,true,m,x.given⟩:=gp aH
def Ig{K:Nat}(st:St N K w)(tg:Tg N w)(ti:TI w t x o)(hon:x.on=true)(hN:N<=100000000)(hK:K<=1099511627776)(ow:∀k,o k<=Has w k):
  z8 w x.m=true/\iy x.m/\(∀k,j3 x.m k<=o k)/\∃r,vj w x.m=some r/\r.2.2.access≠0/\St (N+1) (K+1) r.1/\Tg (N+1) r.1/\xb w r.1 (j3 x.m)/\∃o',TI r.1 t (ql x r.2.1) o'/\Mv w r.1 o o':=by
 obtain⟨hle,hgl,L,hL,hk,hon'⟩:=ti
 have on:M4 w t x x.m L o:=by
  rcases hon' with⟨h,_⟩|⟨_,h⟩
  .rw[hon]at h;cases h
  .exact h
 clear hon'
 obtain⟨hat,hth,htm,⟨v,g,e,su,lc⟩,hown⟩:=on
 have om:∀k,j3 x.m k<=o k:=λk=>by
  rcases hown with⟨_,h⟩|⟨_,_,_,_,_,_,_,_,_,_,_,_,h⟩
  .rw[h k];omega
  .rw[h k];omega
 have oh:∀k,j3 x.m k<=Has w k:=λk=>pH (om k) (ow k)
 obtain⟨r,h1,nc⟩:=RO st tg su htm lc hN hK oh;refine⟨J6 su,htm,om,r,h1,nc.ev,nc.st,nc.tg,nc.keep,?_⟩;have lt:x.done<x.ops.length:=(gh.1 hat).1;have fs:x.m.op.kind=2->jW w x.m v g e=some r:=λhk=>by rw[zw1 su,gp aw,gz hk]at h1;exact h1
 rcases nc.go with⟨hd,hf⟩|⟨v',g',e',su',lc'⟩
 .rw[vU hd];have hgl':(x.given++[r.2.1.answer]).length=x.done+1:=by simp[hgl]
  rcases hf with⟨k1,f1,f2,f3⟩|⟨k2,f⟩|⟨k3,k4,f⟩
  .rw[nc.op]at k1
   have hb:∀k,o k=yP L k+j3 x.m k:=by
    rcases hown with⟨_,h⟩|⟨h,_⟩
    .exact h
    .omega
   by_cases a1:r.2.1.answer.kind=1
   .obtain⟨ea,el⟩:=f3 a1;have p3:ph r.2.1=3:=PX hd (by rw[nc.op];exact k1) a1
    have eo:∀k,j3 r.2.1 k=lH r.2.1.answer k:=λk=>by
     rw[jl p3];unfold lH;rw[ea]
    refine⟨λk=>yP (L++[r.2.1.answer]) k,⟨ba,hgl',L++[r.2.1.answer],hL.UF a1,λa ha=>?_,.inl ⟨rfl,λ_=>V⟩⟩,λk=>?_⟩
    .rcases pw.1 ha with ha|ha
     .exact hk a ha
     .rw[gZ.1 ha];exact⟨a1,by rw[ea];exact el⟩
    .have:=nc.mv k;dsimp only;rw[hb k,Eg,zwm,<-eo k];omega
   .have p0:ph r.2.1=0:=vc hd λh=>a1 h.2
    refine⟨λk=>yP L k,⟨ba,hgl',L,hL.other a1 aw,hk,.inl ⟨rfl,λ_=>V⟩⟩,λk=>?_⟩;have:=nc.mv k
    try dsimp only
    rw[jl p0,Am]at this;rw[hb k];omega
  .rw[nc.op]at k2;have fsm:=KT (fs k2);obtain⟨e1,e2,e3,e4,e5,e6,e7,e8⟩:=fsm;have p0:ph r.2.1=0:=vc hd λh=>by rw[nc.op]at h;omega
   have pc:=e8 hd su.done;rcases hown with⟨h9,hb⟩|⟨_,h4,L1,a,L2,hsp,q1,q2,q3,q4,q5,hcl,hb⟩
   .have a7:r.2.1.answer=mT 7:=by
     rcases f with⟨_,f⟩|⟨f,_⟩
     .omega
     .exact f
    refine⟨λk=>yP L k,⟨ba,hgl',L,hL.other (by rw[a7];show(7:Int)≠1;decide) (by rw[a7];show(7:Int)≠6;decide),hk,.inl ⟨rfl,λ_=>V⟩⟩,λk=>?_⟩;have:=nc.mv k
    try dsimp only
    rw[jl p0,Am]at this;rw[hb k];omega
   .have a6:r.2.1.answer=Tp r.2.1:=by
     rcases f with⟨f,_⟩|⟨_,f⟩
     .exact f
     .omega
    have hka:=hk a (by rw[hsp];simp)
    have en:Pla.od r.2.1.answer a=true:=by
     rw[a6];unfold Pla.od;simp[hka.1,e1,e2,e3,e4,e5,q1,q2,q3,q4,q5]
    have en2:∀b∈L1,od r.2.1.answer b=false:=λb hb2=>by
     cases he:Pla.od r.2.1.answer b with
     |false=>rfl
     |true=>
      rw[a6]at he;unfold Pla.od at he;simp only[gH,gR,e1,e2,e3,e4,e5]at he;exact absurd ⟨he.2.2.1.symm.trans q1.symm,he.2.2.2.1.symm.trans q2.symm,he.2.2.2.2.1.symm.trans q3.symm,he.2.2.2.2.2.1.symm.trans q4.symm⟩ (hcl b hb2)
    rw[hsp]at hL
    refine⟨λk=>yP (L1++L2) k,⟨ba,hgl',L1++L2,hL.zxU en en2,λb hb2=>hk b (by
     rw[hsp];rcases pw.1 hb2 with h|h
     .exact pw.2 (.inl h)
     .exact pw.2 (.inr (pL _ h))),.inl ⟨rfl,λ_=>V⟩⟩,λk=>?_⟩
    have:=nc.mv k
    try dsimp only
    rw[jl p0,Am]at this;rw[hb k];omega
  .rw[nc.op]at k3 k4;have p0:ph r.2.1=0:=vc hd λh=>by rw[nc.op]at h;omega
   have hb:∀k,o k=yP L k+j3 x.m k:=by
    rcases hown with⟨_,h⟩|⟨h,_⟩
    .exact h
    .omega
   refine⟨λk=>yP L k,⟨ba,hgl',L,hL.other (by have:=f.1;omega) (by have:=f.1;omega),hk,.inl ⟨rfl,λ_=>V⟩⟩,λk=>?_⟩;have:=nc.mv k
   try dsimp only
   rw[jl p0,Am]at this;rw[hb k];omega
 .rw[xu su'.done];rcases hown with⟨h9,hb⟩|⟨k2,h4,L1,a,L2,hsp,q1,q2,q3,q4,q5,hcl,hb⟩
  .have k2:x.m.op.kind≠2:=λk2=>by
    rcases h9 with h|h
    .exact h k2
    .have:=(KT (fs k2)).2.2.2.2.2.1 h;have h2:=su'.done;rw[this.2]at h2;cases h2
   refine⟨λk=>yP L k+j3 r.2.1 k,⟨hle,hgl,L,hL,hk,.inr ⟨rfl,⟨by rw[hat,nc.op],nc.th.trans hth,nc.tm,⟨v',g',e',su',lc'⟩,.inl ⟨.inl (by rw[nc.op];exact k2),λ_=>V⟩⟩⟩⟩,λk=>?_⟩;have:=nc.mv k
   try dsimp only
   rw[hb k];omega
  .obtain⟨e1,e2,e3,e4,e5,e6,e7,e8⟩:=KT (fs k2);refine⟨λk=>yP (L1++L2) k+j3 r.2.1 k,⟨hle,hgl,L,hL,hk,.inr ⟨rfl,⟨by rw[hat,nc.op],nc.th.trans hth,nc.tm,⟨v',g',e',su',lc'⟩,.inr ⟨by rw[nc.op];exact k2,e7 h4,L1,a,L2,hsp,q1.trans e1.symm,q2.trans e2.symm,q3.trans e3.symm,q4.trans e4.symm,q5.trans e5.symm,hcl,λ_=>V⟩⟩⟩⟩,λk=>?_⟩;have:=nc.mv k
   try dsimp only
   rw[hb k];omega
def zzf{w':Wor}{p:Key->Nat}(ti:TI w t x o)(gw:qQ w)(gw':qQ w')(kp:xb w w' p)(ow:∀k,p k+o k<=Has w k):TI w' t x o:=by
 obtain⟨hle,hgl,L,hL,hk,hon⟩:=ti;refine⟨hle,hgl,L,hL,hk,hon.imp id λ⟨h1,on⟩=>⟨h1,?_⟩⟩;obtain⟨hat,hth,htm,⟨v,g,e,su,lc⟩,hown⟩:=on
 have om:∀k,j3 x.m k<=o k:=λk=>by
  grind
 obtain⟨v',g',e',su',lc'⟩:=zx5 su lc gw gw' kp λk=>by grind
 exact⟨hat,hth,htm,⟨v',g',e',su',lc'⟩,hown⟩
def FQ:∀(l:List Nat) (i:Nat) {a:Nat},l[i]?=some a->a<=l.sum
 |[],i,a,h=>by simp at h
 |x::l,0,a,h=>by
  grind
 |x::l,i+1,a,h=>by
  have:=FQ l i tO
  grind
def LG:∀(l:List Nat) (i j:Nat) {a b:Nat},i≠j->l[i]?=some a->l[j]?=some b->a+b<=l.sum
 |[],i,j,a,b,_,h,_=>by simp at h
 |x::l,0,0,a,b,h,_,_=>absurd V h
 |x::l,0,j+1,a,b,_,h1,h2=>by
  have:=FQ l j tS
  grind
 |x::l,i+1,0,a,b,_,h1,h2=>by
  have:=FQ l i tG
  grind
 |x::l,i+1,j+1,a,b,h,h1,h2=>by
  have:=LG l i j aw tG tS
  grind
structure GI(N K:Nat)(w:Wor)(X:List fM):Prop where
 st:St N K w
 tg:Tg N w
 len:w.pins.length=X.length
 ops:∀x∈X,∀p∈x.ops,MV p
 own:∃os:List (Key->Nat),os.length=X.length/\(∀(i:Nat) x o,X[i]?=some x->os[i]?=some o->TI w i x o)/\∀k,Has w k=(os.map (· k)).sum
def zxY{K:Nat}{X:List fM}{t:Nat}(gi:GI N K w X)(hx:X[t]?=some x)(hp:x.ops[x.done]?=some p)(hN:N<=100000000)(hK:K<=1099511627776):
  z8 w (qk x t p)=true/\iy (qk x t p)/\∃r,vj w (qk x t p)=some r/\r.2.2.access≠0/\GI (N+1) (K+1) r.1 (X.set t (ql x r.2.1)):=by
 obtain⟨st,tg,hlen,hops,os,hol,hti,hsum⟩:=gi;have fE:=(gh.1 hx).1;obtain⟨o,ho⟩:∃o,os[t]?=some o:=⟨_,gk aw⟩;have ti:=hti t x o hx ho;have ow:∀k,o k<=Has w k:=λk=>by rw[hsum k];exact dX
 have po:=hops x (gu hx) p (gu hp)
 obtain⟨x',hx1,hx2,hx3,hx4⟩:∃x',x'.m=qk x t p/\x'.on=true/\TI w t x' o/\∀m,ql x' m=ql x m:=by
  cases hon:x.on with
  |true=>exact⟨x,bb,hon,ti,λ_=>V⟩
  |false=>exact⟨⟨x.ops,x.done,true,Beg.ji t p x.given,x.given⟩,bb,rfl,Hm st tg aw ti hon hp po hN ow,λ_=>V⟩
 obtain⟨s1,s2,s3,r,s4,s5,s6,s7,s8,o',s9,s10⟩:=Ig st tg hx3 hx2 hN hK ow;rw[hx1]at s1 s2 s4;refine⟨s1,s2,r,s4,s5,s6,s7,by have:=s8.pins;simp;omega,λy hy q hq=>?_,os.set t o',by simp[hol],λi y oi hy hoi=>?_,λk=>?_⟩
 .rcases mem_set hy with hy|rfl
  .exact hops y hy q hq
  .have:(ql x r.2.1).ops=x.ops:=by unfold ql;split <;> rfl
   rw[this]at hq;exact hops x (gu hx) q hq
 .rcases xc hy with⟨rfl,rfl,_⟩|⟨hne,hy⟩
  .rw[gD aw]at hoi;cases hoi
   rw[<-hx4];exact s9
  .rw[pj hne]at hoi;refine zzf (hti i y oi hy hoi) st.qI s6.qI s8 λk=>?_
   have h2:=LG (os.map (· k)) t i hne (by rw[gy,ho];rfl) (by rw[gy,hoi];rfl);have:=s3 k;rw[hsum k];dsimp only at h2|-;omega
 .have q1:=Ih (λf:Key->Nat=>f k) os t o' ho;have q2:=s10 k;have q3:=hsum k;(try dsimp only at q1)
  (try dsimp only at q3)
  (try dsimp only)
  omega
def ztW{l:List fK}{i:Nat}{s:fK}(h:l[i]?=some s)(hn:zT ((l.take i).map kG) s<0):zT (l.map kG) s=i:=by
 have fE:=(gh.1 h).1
 have h0:((l.take i).map kG).findIdx? (λr=>r.name == s)=none:=by
  grind [zT]
 have e:(l.map kG).findIdx? (λr=>r.name == s)=some i:=by
  rw[gS];refine⟨aq fE,?_,λj hj=>?_⟩
  .grind [kG]
  .have q:=gV.1 h0 (kG (l[j]'aw)) (gY.2 ⟨_,List.mem_take_iff_getElem.2 ⟨j,aw,rfl⟩,rfl⟩);simpa using q
 grind [zT]
def JD{α:Type}:∀(T:List α),(T.map λ_=>(0:Nat)).sum=0
 |[]=>rfl
 |_::T=>by rw[pP,rI,JD T]
def zz6{s:Sna}{l:List fK}{n:Int}{T:List (List fQ)}(h:lx s l n=(w,0))(hs:AT s)(hl:l.length<=N)(hN:1<=N)(hn:∀x∈l,x.length<=reachBytes)(hT:(T.length:Int)=n)(hO:∀L∈T,∀o∈L,MV o):
  GI N 0 w (T.map kI):=by
 unfold lx at h;split at h
 .have:=rq Prod.snd h;exact absurd (show(1:Int)=0 from this) ar
 rename_i q;have hw:=(rq Prod.fst h).symm;have hw:w=⟨0,0,0,List.replicate n.toNat 0,[(ja s).1],l.map kG,List.replicate n.toNat [0,0,0,0,0,0],[]⟩:=hw
 have q1:kO s=true:=by
  grind
 have q2:1<=n:=aw
 have q3:n<=8:=aw
 have q4:∀i x,l[i]?=some x->yk x=true/\zT ((l.take i).map kG) x<0:=λi x hx=>by
  have z:Er l=true:=by
   grind
  have:=gE.1 z i (rG.2 (gh.1 hx).1)
  grind [Et]
 subst hw;have hc:(ja s).1=⟨s,s.zo.map mK,false⟩:=by unfold ja;rw[gz q1]
 have fr:∀g∈(ja s).1.zq,g.zx=0/\∀e∈g.ends,e.zj=0/\e.ok:=λg hg=>by
  rw[hc]at hg;obtain⟨x,hx,rfl⟩:=gY.1 (show g∈s.zo.map mK from hg);refine⟨rfl,λe he=>?_⟩;rw[pS (show e∈List.replicate x.zS.length (x6 x) from he)];have f:=wK ((jP q1).all x hx);exact f.2.2
 have one:∀v,v∈[(ja s).1]->v=(ja s).1:=λv hv=>gZ.1 hv
 have lz:∀x∈l.map kG,∃y∈l,x=kG y:=λx hx=>by
  grind
 have fv:=P9 q1 0
 have ends:∀i j k e,wE ⟨0,0,0,List.replicate n.toNat 0,[(ja s).1],l.map kG,List.replicate n.toNat [0,0,0,0,0,0],[]⟩ i j k=some e->e.zj=0/\∀t,lb e t=0:=λi j k e he=>by
  grind [wE,Tm,List.mem_of_getElem?]
 refine⟨⟨⟨zU.2 ⟨?_,⟨?_,?_⟩,⟨gO _,by show(0:Int)<=1000000000000;decide⟩,.inl V,?_⟩,⟨gO _,by show(0:Int)<1;decide⟩,(by show Go.Lim.fV []=true;rfl),(λr hr=>nomatch hr),?_,?_⟩,⟨by show 1<=N;omega,aq hl,by show 0<=N;omega,?_,?_⟩,⟨?_,?_⟩⟩,?_,?_,?_,?_⟩
 .simp only[tn];omega
 .simp
 .intro r hr;rw[pS hr];rfl
 .intro p hp;rw[pS hp];exact⟨gO _,by show(0:Int)<=0+1;decide⟩
 .intro i v hv;have hi:i=0:=by have:=(gh.1 hv).1;exact dc
  subst hi;cases hv
  exact⟨Pv q1,by rw[hc];rfl⟩
 .intro i x hx;obtain⟨y,hy,rfl⟩:=gT.1 ((gy ..).symm.trans hx);have z:=q4 i y hy;refine⟨FM z.1 (gO _) V,ztW hy z.2⟩
 .intro v hv;rw[one v hv];exact⟨by rw[hc];exact hs,λg hg=>⟨by rw[(fr g hg).1];decide,λe he=>((fr g hg).2 e he).2⟩⟩
 .intro x hx;obtain⟨y,hy,rfl⟩:=lz x hx;exact⟨hn y hy,by show i64 0;decide⟩
 .intro x hx;obtain⟨y,hy,rfl⟩:=lz x hx;show(0:Int)<=_
  decide
 .intro v hv g hg e he;rw[one v hv]at hg;rw[((fr g hg).2 e he).1]
  decide
 .intro v hv g hg e he;rw[one v hv]at hg;exact((fv g hg e he).1:Cn 0 e) |> λz=>⟨by have:=z.1;omega,z.2⟩
 .simp only[tn,gC];omega
 .intro x hx p hp;obtain⟨L,hL,rfl⟩:=gY.1 hx;exact hO L hL p hp
 .refine⟨T.map λ_=>λ_=>0,aj,λi x o hx ho=>?_,λk=>?_⟩
  .obtain⟨L,hL,rfl⟩:=gT.1 ((gy ..).symm.trans hx);obtain⟨_,_,rfl⟩:=gT.1 ((gy ..).symm.trans ho);exact⟨pa _,rfl,[],zyA,⟨λa ha=>(by cases ha),.inl ⟨rfl,λ_=>V⟩⟩⟩
  .have z:((T.map λ_=>λ(_:Key)=>0).map (· k)).sum=0:=by
    rw[rC];exact JD T
   rw[z];cases k with
   |slot i j k s'=>
    simp only[Has];split
    .rename_i e he;exact(ends i j k e he).2 s'
    .rfl
   |act i j k=>
    simp only[Has];split
    .rename_i e he;rw[(ends i j k e he).1];rfl
    .rfl
   |fP i=>
    simp only[Has];split
    .split
     .rename_i x hx;obtain⟨y,_,rfl⟩:=lz x (gu hx)
      rfl
     .rfl
    .rfl
   |fW i=>
    simp only[Has];rw[gp];rintro⟨h1,h2,h3,_⟩;have h2:i<1:=h2;exact h3 (by show i=0;omega)
   |lock=>rfl
abbrev iC:=Wor×List fM×List fG
variable{s:iC}
def ou(e:fG)(x:fM):fG:={e with op:=x.done,q9:=!x.on}
def Jo(s:iC)(t:Nat):iC:=match s.2.1[t]? with
 |some x=>match x.ops[x.done]? with
  |some o=>match vj s.1 (qk x t o) with
   |some r=>(r.1,s.2.1.set t (ql x r.2.1),s.2.2++[ou r.2.2 x])
   |none=>s
  |none=>s
 |none=>s
def xk(s:iC)(p:Int):iC:=match (qD s.2.1 s.2.1.length)[(p%(qD s.2.1 s.2.1.length).length).toNat]? with
 |some t=>Jo s t
 |none=>s
def FA{X:List fM}:∀{k t:Nat},t∈qD X k↔t<k/\∃x,X[t]?=some x/\x.done<x.ops.length
 |0,t=>by simp[qD]
 |k+1,t=>by
  unfold qD;cases hx:X[k]? with
  |none=>
   dsimp only;rw[FA];constructor
   .rintro⟨h,q⟩;exact⟨aw,q⟩
   .rintro⟨h,x,hx2,q⟩;refine⟨?_,x,hx2,q⟩;rcases r6 t k with h|h
    .exact h
    .have:t=k:=by omega
     subst this;rw[hx]at hx2;cases hx2
  |some y=>
   dsimp only;split
   .rename_i hd;rw[FA];constructor
    .rintro⟨h,q⟩;exact⟨aw,q⟩
    .rintro⟨h,x,hx2,q⟩;refine⟨?_,x,hx2,q⟩;rcases r6 t k with h|h
     .exact h
     .have:t=k:=by omega
      subst this;rw[hx]at hx2;cases hx2
      omega
   .rename_i hd;rw[pw,FA,gZ];constructor
    .rintro(⟨h,q⟩|rfl)
     .exact⟨aw,q⟩
     .exact⟨aw,y,hx,aw⟩
    .rintro⟨h,x,hx2,q⟩;rcases r6 t k with h|h
     .exact .inl ⟨h,x,hx2,q⟩
     .exact .inr aw
def jO{K:Nat}(gi:GI N K s.1 s.2.1)(p:Int)(hN:N<=100000000)(hK:K<=1099511627776):
  (qD s.2.1 s.2.1.length=[]/\xk s p=s)\/∃t x o r,(qD s.2.1 s.2.1.length)[(p%(qD s.2.1 s.2.1.length).length).toNat]?=some t/\s.2.1[t]?=some x/\x.ops[x.done]?=some o/\z8 s.1 (qk x t o)=true/\iy (qk x t o)/\vj s.1 (qk x t o)=some r/\r.2.2.access≠0/\
   xk s p=(r.1,s.2.1.set t (ql x r.2.1),s.2.2++[ou r.2.2 x])/\GI (N+1) (K+1) r.1 (s.2.1.set t (ql x r.2.1)):=by
 by_cases ha:qD s.2.1 s.2.1.length=[]
 .refine .inl ⟨ha,?_⟩;unfold xk;rw[ha]
  rfl
 .right
  have hl:0<(qD s.2.1 s.2.1.length).length:=sg.2 ha;have b0:=sS p (show((qD s.2.1 s.2.1.length).length:Int)≠0 by omega);have b1:=sT p (show(0:Int)<(qD s.2.1 s.2.1.length).length by omega);obtain⟨t,ht⟩:∃t,(qD s.2.1 s.2.1.length)[(p%(qD s.2.1 s.2.1.length).length).toNat]?=some t:=⟨_,gk aw⟩;obtain⟨_,x,hx,hd⟩:=FA.1 (gu ht);obtain⟨o,ho⟩:∃o,x.ops[x.done]?=some o:=⟨_,gk hd⟩;obtain⟨h1,h2,r,h3,h4,h5⟩:=zxY gi hx ho hN hK;refine⟨t,x,o,r,ht,hx,ho,h1,h2,h3,h4,?_,h5⟩;unfold xk Jo;rw[ht];dsimp only;rw[hx];dsimp only;rw[ho];dsimp only;rw[h3]
def GI.mono{N K N' K':Nat}{w:Wor}{X:List fM}(h:GI N K w X)(hN:N<=N')(hK:K<=K'):GI N' K' w X:=⟨h.st.mono hN hK,h.tg.mono hN,h.len,h.ops,h.own⟩
theorem zyP{K:Nat}(gi:GI N K s.1 s.2.1)(p:Int)(hN:N<=100000000)(hK:K<=1099511627776):GI (N+1) (K+1) (xk s p).1 (xk s p).2.1:=by
 rcases jO gi p hN hK with⟨_,h⟩|⟨t,x,o,r,_,_,_,_,_,_,_,h,h2⟩
 .rw[h];exact gi.mono aw aw
 .grind
def ir(s:iC)(l:List Int)(k:Nat):iC:=(l.take k).foldl xk s
def xZ{k:Nat}{p:Int}(h:l[k]?=some p):ir s l (k+1)=xk (ir s l k) p:=by
 unfold ir
 grind [List.take_succ_eq_append_getElem]
def kh{N K:Nat}{s:iC}(gi:GI N K s.1 s.2.1)(l:List Int):∀k,k<=l.length->N+k<=100000000->K+k<=1099511627776->GI (N+k) (K+k) (ir s l k).1 (ir s l k).2.1
 |0,_,_,_=>gi
 |k+1,hk,hN,hK=>by
  have ih:=kh gi l k aw aw aw;rw[xZ (gk aw)]
  grind [zyP]
def zsV:∀{s:iC},qD s.2.1 s.2.1.length=[]->l.foldl xk s=s:=by
 induction l with
 |nil=>intro s _;rfl
 |cons p l ih=>
  grind [xk]
end Go.Wor
