import Derived.Test.YtoeaoedlpmohoaaGreatS3
import Derived.Test.YtoeaoedlpmohoaaGreatS1
import Derived.Test.YtoeaoedlpmohoaaGreatS2
set_option linter.all false
set_option maxRecDepth 100000
set_option maxHeartbeats 4000000
namespace Go.Wor
open Go.Ab Go.Proofs Tryz Go.Gat Go.Nam Go.Hos Go.Con Go.Sna
open Go.Hy hiding encI
section
variable {N K:Nat} {w:Wor} {m:lh} {v:lJ} {g:Gr} {e:En}
def TG(hat:m7 w m v g e)(ow:∀x,xw m x<=Has w x){p:Nat}(h:ph m=p)(hp:p=2\/p=3):0<=m.slot/\m.slot<e.next.length/\m.slot∉(Slp.qo e).1:=by
 have:=IK ow h (.slot m.version m.zi m.end_ m.slot) (by simp[qp,hp]);rw[NV hat]at this;unfold nN at this;split at this
 ·assumption
 ·omega
def zxI(hat:m7 w m v g e)(ow:∀x,xw m x<=Has w x){p:Nat}(h:ph m=p)(hp:p=3\/p=4):1<=e.zj:=by
 have:=IK ow h (.act m.version m.zi m.end_) (by simp[qp,hp]);rw[KT hat]at this;omega
def zsv(st:St N K w)(tg:Tg N w)(su:ja w m v g e)(tm:nh m)(lo:L5 w m v g e)(hk:m.op.kind=2)(hN:N<=100000000)(hK:K<=1099511627776)(ow:∀x,xw m x<=Has w x):∃r,jO w m v g e=some r/\Nc N K w m L5 Qd r:=by
 obtain⟨f1,f2,f3,f4,f5,f6,f7⟩:=wN st su;have st1:St (N+1) (K+1) w:=st.mono aw aw;have tg1:=tg.mono (sH N);have te:=G7 tg su.at_;have hs:=zrL f1 f2;have pc:=lo.pc;unfold jO;rcases(by omega:m.pc=0\/m.pc=1\/m.pc=2\/m.pc=3\/m.pc=4\/m.pc=9) with p|p|p|p|p|p
 ·have l0:=lo.lY aw;rw[pA p];exact zX O ⟨uY,st1,tg1,⟨tm.listen,f6.1,tm.link,tm.host,tm.path,tm.d0,tm.d1,tm.cfg,tm.AY⟩,rfl,rfl,xn.refl w _,qD w (GY (p:=3) (oy su.done hk uM) (oy su.done hk uM) O O O O O),.inr ⟨v,g,e,uQ,⟨uL,λ_=>l0,λ_=>⟨p8 _,hs⟩,uK⟩⟩⟩
 ·have l0:=lo.lY aw;have lt:=lo.tag (.inl p);obtain⟨h0,h1,h2⟩:=TG su.at_ ow (p:=3) (oy su.done hk uM) (.inr O);have hw: -1<=zG m.word:=by show -1<=m.word%4294967296-1;omega
  obtain⟨b1,b2⟩:=Slp.zvo (v:=zG m.word) f1 h0 h2;have hlen:(wj m e).next.length=e.next.length:=rX
  have hok:(wj m e).ok:=⟨f6.1,⟨λx hx=>by
   rcases mem_set hx with hx|rfl
   ·exact f6.2.1.1 x hx
   ·unfold i64;omega,by rw[hlen];exact f6.2.1.2⟩,f6.2.2⟩
  have st2:=st1.Am su.at_ (e':=qE (wj m e) e.head e.zj) (tk:=g.zx) b2 hlen hok f7 aO;rw[pw aw,pA p]
  exact zX O ⟨tU,st2,GH tg1 su.at_ (e':=qE (wj m e) e.head e.zj) ⟨by have:=te.1;show AO e<=_;omega,λx hx=>by
    rcases mem_set hx with hx|rfl
    ·exact te.2 x hx
    ·exact⟨hw,lt.2⟩⟩,uO,rfl,rfl,Ga su.at_ (e':=qE (wj m e) e.head e.zj) ⟨hlen,p8 _,λ_=>O,λs s0 hso=>by
    show(e.next.set m.slot.toNat _)[s.toNat]?=_;rw[pX];intro hc;have hc:s=m.slot:=aw
    rw[hc,jD (p:=3) (oy su.done hk uM)]at hso;simp[qp]at hso⟩,V0 su.at_ (e':=qE (wj m e) e.head e.zj) hlen (by rw[show Slp.qo (qE (wj m e) e.head e.zj)=Slp.qo e from b1]) O (GY (p:=3) (oy su.done hk uM) (oy su.done hk uM) O O O O O),
   .inr ⟨_,_,_,HQ (e':=qE (wj m e) e.head e.zj) (m':={m with pc:=2}) su hlen st2.jn O su.done O O O O O O O O,⟨uL,λ_=>l0,λ_=>lt,λ_=>by
    show(e.next.set m.slot.toNat _)[m.slot.toNat]?=_;rw[pC aw]⟩⟩⟩
 ·have l0:=lo.lY aw;obtain⟨h0,h1,h2⟩:=TG su.at_ ow (p:=3) (oy su.done hk uM) (.inr O);rw[pw aw,pw aw,pA p];by_cases q:e.head=m.word
  ·rw[pA q];have hx:=lo.next p;have hh:zG m.word=Slp.zG e:=by rw[<-q];rfl
   rw[hh]at hx;obtain⟨c1,c2,c3⟩:=zv0 f6 f1 h0 h1 h2;rw[yO _ _ hx,q]at c1 c2 c3;have nt:=UY (i:=m.slot) te.1 f6.1 hN aw aw;rw[q]at nt;have st2:=st1.Am su.at_ (e':=qE e (Slp.jC m.word m.slot) e.zj) (tk:=g.zx) c1 O c2 f7 aO;have ta:AO (qE e (Slp.jC m.word m.slot) e.zj)=AO e+1:=by unfold AO;rw[q];exact nt
   exact zX O ⟨aP,st2,GH tg1 su.at_ (e':=qE e (Slp.jC m.word m.slot) e.zj) ⟨by have:=te.1;omega,te.2⟩,uO,rfl,rfl,Ga su.at_ (e':=qE e (Slp.jC m.word m.slot) e.zj) ⟨rfl,aw,λh=>by omega,λ_ _ _=>O⟩,
    C9 (p:=3) (p':=4) (oy su.done hk uM) (oy su.done hk uM) (XL su.at_ (e':=qE e (Slp.jC m.word m.slot) e.zj) O h0 h1 c3 h2 O m.listen),.inr ⟨_,_,_,HQ (e':=qE e (Slp.jC m.word m.slot) e.zj) (m':={m with pc:=3}) su O st2.jn O su.done O O O O O O O O,
    ⟨uL,λ_=>l0,uK,uK⟩⟩⟩
  ·rw[pw q];exact zX O ⟨aQ,st1,tg1,uO,rfl,rfl,xn.refl w _,qD w (GY (p:=3) (oy su.done hk uM) (oy su.done hk uM) O O O O O),.inr ⟨v,g,e,uQ,⟨uL,λ_=>l0,uK,uK⟩⟩⟩
 ·have l0:=lo.lY aw;have a1:=zxI su.at_ ow (p:=4) (oy su.done hk uM) (.inr O);have hw:IntKind.i64.wrap (e.zj-1)=e.zj-1:=qi aw aw;have st2:=st1.Am su.at_ (e':=qE e e.head (e.zj-1)) (tk:=g.zx) (VT f1 _ aw) O ⟨f6.1,f6.2.1,by show i64 (e.zj-1);unfold i64;omega⟩ f7 (by show e.zj-1<=_;omega);rw[pw aw,pw aw,pw aw,pA p,hw]
  exact zX O ⟨tR,st2,GH tg1 su.at_ (e':=qE e e.head (e.zj-1)) (show Eo (N+1) e from G7 tg1 su.at_),uO,rfl,rfl,Ga su.at_ (e':=qE e e.head (e.zj-1)) ⟨rfl,p8 _,λ_=>O,λ_ _ _=>O⟩,
   C9 (p:=4) (p':=1) (oy su.done hk uM) (oy su.done hk uM) (Yw su.at_ (e':=qE e e.head (e.zj-1)) O O a1 O m.slot m.listen),.inr ⟨_,_,_,HQ (e':=qE e e.head (e.zj-1)) (m':={m with pc:=4}) su O st2.jn O su.done O O O O O O O O,
   ⟨uL,λ_=>l0,uK,uK⟩⟩⟩
 ·have l0:=lo.lY aw;have p1:ph m=1:=(oy su.done hk uM);obtain⟨_,x,hx,x1⟩:=Vg ow p1 ar;have ca:=st.nI.lY x (pq hx);have hw:IntKind.i64.wrap (x.zj-1)=x.zj-1:=qi aw aw;have st2:=ON st su hx (x.zj-1) aw aw hK;unfold vW;rw[pw aw,pw aw,pw aw,pw aw,pA p,pw aw,hx,pM];unfold EZ;rw[hw];exact zX O ⟨tR,st2,tg1,uP,rfl,rfl,Ih hx O id,C9 (p:=1) (p':=0) p1 (vZ O (λh=>absurd (hk.symm.trans h.1) ar)) (UW l0 hx x1 O _ _ _ _ _ _ _ _ _),.inl ⟨rfl,.inl ⟨rfl,p⟩⟩⟩
 ·rw[pw aw,pw aw,pw aw,pw aw,pw aw,pA p];exact zX O ⟨uY,st1,tg1,uP,rfl,rfl,xn.refl w _,qD w (Au (oy su.done hk uM) (vZ O (λh=>absurd (hk.symm.trans h.1) ar))),.inl ⟨rfl,.inr ⟨rfl,p⟩⟩⟩
def zxM(ow:∀x,xw m x<=Has w x)(h:ph m=5):m.version≠w.current/\∀r∈w.zr,r.version≠m.version:=by
 have:=IK ow h (.my m.version) (by simp[qp]);simp only[Has]at this;split at this
 ·rename_i q;exact⟨q.2.2.1,q.2.2.2⟩
 ·omega
def Uv(w:Wor)(n:Int){x:lJ}(hx:∀g∈x.zp,∀e∈g.ends,e.zj=0/\∀s,nN e s=0)(i j k:Int):
  nS {w with current := n, zd := w.zd ++ [x]} i j k = nS w i j k \/ (nS w i j k = none /\ ∃e, nS {w with current := n, zd := w.zd ++ [x]} i j k = some e /\ e.zj = 0 /\ ∀s, nN e s = 0) := by
 unfold nS wF;dsimp only;by_cases q:0<=i/\0<=j/\0<=k
 ·rw[pA q,pA q];by_cases h:i.toNat<w.zd.length
  ·rw[pD h];exact .inl O
  ·rw[pT aw,rT (show w.zd.length<=i.toNat by omega),fL];cases hv:[x][i.toNat-w.zd.length]? with
   |none=>exact .inl O
   |some y=>
    have:y=x:=pP.1 (pq hv);subst this;rw[rh];cases hg:y.zp[j.toNat]? with
    |none=>exact .inl O
    |some g=>
     rw[rh];cases he:g.ends[k.toNat]? with
     |none=>exact .inl O
     |some e=>exact .inr ⟨rfl,e,rfl,hx g (pq hg) e (pq he)⟩
 ·rw[pw q,pw q];exact .inl O
def zsk(gw:xa w){x:lJ}(hx:∀g∈x.zp,∀e∈g.ends,e.zj=0/\∀s,nN e s=0)(a b c d l a' b' c' l':Int):Mv w {w with current:=w.zd.length,zd:=w.zd++[x]} (qp 0 d a b c l) (qp 5 w.current a' b' c' l'):=λy=>by
 have cu:=gw.current;rw[Cj];cases y with
 |slot i j k s=>
  have:qp 5 w.current a' b' c' l' (.slot i j k s)=0:=by simp[qp]
  rw[this];rcases Uv w w.zd.length hx i j k with q|⟨q,e,q1,q2,q3⟩
  ·simp only[Has,q]
  ·simp only[Has,q,q1,q3]
 |act i j k=>
  have:qp 5 w.current a' b' c' l' (.act i j k)=0:=by simp[qp]
  rw[this];rcases Uv w w.zd.length hx i j k with q|⟨q,e,q1,q2,q3⟩
  ·simp only[Has,q]
  ·simp only[Has,q,q1,q2];rfl
 |lY i=>simp[Has,qp]
 |lock=>simp[Has,qp]
 |my i=>
  have la:∀r∈w.zr,r.version≠w.current/\r.version<w.zd.length:=λr hr=>by
   obtain⟨i,hi⟩:=pJ.1 hr;have:=wi gw hi;exact⟨this.2.2.2.2,this.2.2.2.1⟩
  simp only[Has,qp,fj,pL,tt];by_cases q:w.current=i
  ·rw[pA (show 0<=i/\_/\_/\_ from⟨aw,aw,aw,λr hr=>by have:=la r hr;omega⟩),pw aw,pA q]
  ·rw[pw q];by_cases q2:0<=i/\i<w.zd.length/\i≠w.current/\∀r∈w.zr,r.version≠i
   ·rw[pA q2,pA ⟨q2.1,aw,aw,q2.2.2.2⟩]
   ·rw[pw q2,pw (λz=>q2 ⟨z.1,aw,aw,z.2.2.2⟩)]
def zvs{x:mw}(h0:0<=x.version/\x.version<w.zd.length)(h1:x.version≠w.current)(h2:∀r∈w.zr,r.version≠x.version)(a b c a' b' c' d' l l':Int):Mv w {w with zr:=w.zr++[x]} (qp 5 x.version a b c l) (qp 0 d' a' b' c' l'):=λy=>by
 rw[Cj];cases y with
 |slot i j k s=>simp[Has,qp];rfl
 |act i j k=>simp[Has,qp];rfl
 |lY i=>simp[Has,qp]
 |lock=>simp[Has,qp]
 |my i=>
  simp only[Has,qp,fj];by_cases q:x.version=i
  ·rw[pw (λz=>z.2.2.2 x aj q),pA q,pA (q ▸ ⟨h0.1,h0.2,h1,h2⟩)]
  ·rw[pw q];by_cases q2:0<=i/\i<w.zd.length/\i≠w.current/\∀r∈w.zr,r.version≠i
   ·rw[pA q2,pA ⟨q2.1,q2.2.1,q2.2.2.1,λr hr=>by
     rcases pV.1 hr with hr|hr
     ·exact q2.2.2.2 r hr
     ·rw[pP.1 hr];exact q⟩]
   ·rw[pw q2,pw (λz=>q2 ⟨z.1,z.2.1,z.2.2.1,λr hr=>z.2.2.2 r (pV.2 (.inl hr))⟩)]
def zzh{x:mG}(h:LJ x)(n:Nat):Eo n (yE x)/\∀s,nN (yE x) s=0:=by
 have hs:=h.yP;unfold yE;have:x.yP=1\/x.yP=2\/x.yP=3\/x.yP=4:=aw
 rcases this with e|e|e|e <;> rw[e]
 ·refine⟨⟨aR,ar⟩,λs=>?_⟩;unfold nN;rw[pw];rintro⟨h1,h2,h3⟩;have h2:s<1:=h2;have:s=0:=by omega
  subst this;exact gX
 ·refine⟨⟨aR,ar⟩,λs=>?_⟩;unfold nN;rw[pw];rintro⟨h1,h2,h3⟩;have h2:s<2:=h2;have:s=0\/s=1:=by omega
  rcases this with rfl|rfl
  ·exact gX
  ·exact gX
 ·refine⟨⟨aR,ar⟩,λs=>?_⟩;unfold nN;rw[pw];rintro⟨h1,h2,h3⟩;have h2:s<3:=h2;have:s=0\/s=1\/s=2:=by omega
  rcases this with rfl|rfl|rfl
  ·exact gX
  ·exact gX
  ·exact gX
 ·refine⟨⟨aR,ar⟩,λs=>?_⟩;unfold nN;rw[pw];rintro⟨h1,h2,h3⟩;have h2:s<4:=h2;have:s=0\/s=1\/s=2\/s=3:=by omega
  rcases this with rfl|rfl|rfl|rfl
  ·exact gX
  ·exact gX
  ·exact gX
  ·exact gX
def T5{s:Sna}(h:kq s=true)(n:Nat):∀g∈(qM s).1.zp,∀e∈g.ends,Eo n e/\e.zj=0/\∀t,nN e t=0:=λg hg e he=>by
 unfold qM at hg;rw[pA h]at hg;obtain⟨x,hx,rfl⟩:=pZ.1 (show g∈s.zm.map o6 from hg);rw[rM (show e∈List.replicate x.zE.length (yE x) from he)];have gc:=(xh h).all x hx;have f:=HK gc;have q:=zzh gc n;exact⟨q.1,f.2.2.1,q.2⟩
def zyu(st:St N K w)(tg:Tg N w)(su:ja w m v g e)(tm:nh m)(lo:L6 w m v g e)(hk:m.op.kind=3)(ow:∀x,xw m x<=Has w x):∃r,kU w m=some r/\Nc N K w m L6 Fe r:=by
 have gw:=st.jn;have st1:St (N+1) (K+1) w:=st.mono aw aw;have tg1:=tg.mono (sH N);have pc:=lo.pc;have cu:=gw.current;unfold kU;rcases(by omega:m.pc=0\/m.pc=1\/m.pc=2) with p|p|p
 ·rw[pA p];by_cases q:De m.op.config=0
  ·rw[pA q];have hc:(qy m.op.config).1=0:=by rw[<-HP];exact q
   have st2:=st.YE hc (tm.cfg hk);have fr:=T5 (HS hc);obtain⟨v',hv'⟩:∃v',w.zd[w.current.toNat]?=some v':=⟨_,pa aw⟩;have gv:=(gw.my _ v' hv').1;have h0:0<v'.zp.length:=aF
   obtain⟨g',e',hg,he,l1,l2⟩:=Gw gv h0
   exact zX O ⟨(by show(6:Int)≠0;decide),st2,λv2 hv g2 hg e2 he=>by
     rcases pV.1 hv with hv|hv
     ·exact tg1 v2 hv g2 hg e2 he
     ·rw[pP.1 hv]at hg;exact(fr (N+1) g2 hg e2 he).1,uO,rfl,rfl,zvi,C9 (p:=0) (p':=5) (Ds su.done hk uM) (Ds su.done hk uM) (zsk gw (λg hg e he=>(fr 0 g hg e he).2) _ _ _ _ _ _ _ _ _),.inr ⟨v',g',e',⟨qO.2 st2.jn,su.zg,su.done,⟨cu.1,by show w.current<((w.zd++[wJ m.op.config]).length:Nat);simp only[pL,tt];omega⟩,
    by show(w.zd++[wJ m.op.config])[w.current.toNat]?=some v';rw[pD aw];exact hv',⟨p8 _,aL⟩,hg,⟨p8 _,aL⟩,he,⟨p8 _,aL⟩,⟨p8 _,aL⟩,su.listen,by show(0:Int)<=(w.zd.length:Nat);omega,su.k⟩,
    ⟨uL,uK⟩⟩⟩
  ·rw[pw q];exact zX O ⟨uY,st1,tg1,uP,rfl,rfl,xn.refl w _,qD w (Au (Ds su.done hk uM) (vZ O (λh=>absurd (hk.symm.trans h.1) ar))),.inl ⟨rfl,by show(7:Int)<=9/\(9:Int)<=13;decide⟩⟩
 ·have ep:=(qs.1 gw.ground).zn;rw[pw aw,pA p];exact zX O ⟨uY,st1,tg1,uO,rfl,rfl,xn.refl w _,qD w (Z9 (Ds su.done hk uM) (Ds su.done hk uM) O),.inr ⟨v,g,e,uQ,⟨uL,λ_=>⟨ep.1,p8 _⟩⟩⟩⟩
 ·have p5:ph m=5:=(Ds su.done hk uM);have vf:=zxM ow p5;have ep:=lo.ep p;have sv:=su.version
  have nl:Cy w m=false:=by
   unfold Cy;simp only[rY,rI,rJ,beq_eq_false_iff_ne,rL];exact⟨⟨⟨λr hr=>vf.2 r hr,vf.1⟩,aw⟩,aw⟩
  have st2:=st.Y7 (x:=⟨m.version,m.zn,false⟩) sv.1 sv.2 vf.1 ep.1 ep.2 O vf.2;rw[pw aw,pw aw,pA p,nl];exact zX O ⟨tU,st2,tg1,uP,rfl,rfl,zxS,C9 (p:=5) (p':=0) p5 (vZ O (λh=>absurd (hk.symm.trans h.1) ar)) (zvs (x:=⟨m.version,m.zn,false⟩) sv vf.1 vf.2 _ _ _ _ _ _ _ _ _),.inl ⟨rfl,by show(7:Int)<=8/\(8:Int)<=13;decide⟩⟩
def zvT(st:St N K w)(tg:Tg N w)(su:ja w m v g e)(tm:nh m)(lo:m.pc=0)(hk:m.op.kind=4)(hN:N<=100000000):∃r,yA w m=some r/\Nc N K w m (λ_ m _ _ _=>m.pc=0) Fe r:=by
 have gw:=st.jn;have st1:St (N+1) (K+1) w:=st.mono aw aw;have tg1:=tg.mono (sH N);have pr:=SM w.zf m.op.listen;have hl:=st.ty.lY;have p0:ph m=0:=ID su.done aw aw aw aw;unfold yA;rw[pA lo];by_cases q:zD w.zf m.op.listen<0
 ·rw[pA q];exact zX O ⟨uY,st1,tg1,uP,rfl,rfl,xn.refl w _,qD w (Au p0 (vZ O (λh=>absurd (hk.symm.trans h.1) ar))),.inl ⟨rfl,by show(7:Int)<=7/\(7:Int)<=13;decide⟩⟩
 ·rw[pw q];obtain⟨x,hx⟩:∃x,w.zf[(zD w.zf m.op.listen).toNat]?=some x:=⟨_,pa aw⟩;have li:=Iy (gw.lY _ x hx).1;have lk:=st.ty.Bw x (pq hx);have ca:=st.nI.lY x (pq hx);rw[hx,pM];have st2:=st1.Iz hx (y:=Go.Gat.vL x) O (Kv li.1 li.2.1 O) lk.2 (by show x.zj<=_;omega);exact zX O ⟨tU,st2,tg1,⟨aK,tm.word,tm.link,tm.host,tm.path,tm.d0,tm.d1,tm.cfg,(λh=>absurd ((show m.op.kind=6 from h).symm.trans hk) ar)⟩,rfl,rfl,Ih hx O (λ_=>O),Ty (y:=Go.Gat.vL x) aw hx O (Au p0 (vZ O (λh=>absurd (hk.symm.trans h.1) ar))),.inl ⟨rfl,by show(7:Int)<=10/\(10:Int)<=13;decide⟩⟩
def zvU(st:St N K w)(tg:Tg N w)(su:ja w m v g e)(tm:nh m)(lo:Hx w m v g e)(hk:m.op.kind=6):∃r,xS w m=some r/\Nc N K w m Hx Fe r:=by
 have st1:St (N+1) (K+1) w:=st.mono aw aw;have tg1:=tg.mono (sH N);have i0:=su.i;have k0:=su.k;have ik:=lo.i;have kk:=lo.k;have lu:m.i.toNat<w.counts.length:=aw
 have hl:=(qs.1 st.jn.ground).counts.2 _ (pY lu);have p0:ph m=0:=ID su.done aw aw aw aw;unfold xS;rw[pA ⟨lo.pc,lo.k⟩,pa lu,rh,pa (show m.k.toNat<(w.counts[m.i.toNat]).length by omega),pM];generalize (w.counts[m.i.toNat])[m.k.toNat]'aw=n;by_cases h6:m.k+1=6
 ·by_cases h7:m.i+1=w.counts.length
  ·have e3:=O7 (n:=n) h6 h7
   exact zX O ⟨uY,st1,tg1,by
     show nh (jT w m n);rw[e3];exact⟨tm.listen,tm.word,tm.link,tm.host,tm.path,tm.d0,tm.d1,tm.cfg,λ_ h=>aS⟩,by show(jT w m n).op=m.op;rw[e3],by show(jT w m n).zg=m.zg;rw[e3],xn.refl w _,qD w (Au p0 (by show ph (jT w m n)=0;rw[e3];exact vZ O (λh=>absurd (hk.symm.trans h.1) ar))),.inl (by
     show(jT w m n).done=true/\Fe (jT w m n);rw[e3];exact⟨rfl,by show(7:Int)<=13/\(13:Int)<=13;decide⟩)⟩
  ·have e2:=O6 (n:=n) h6 h7
   exact zX O ⟨uY,st1,tg1,by
     show nh (jT w m n);rw[e2];exact uO,by show(jT w m n).op=m.op;rw[e2],by show(jT w m n).zg=m.zg;rw[e2],xn.refl w _,qD w (Au p0 (by show ph (jT w m n)=0;rw[e2];exact ID su.done (by show m.op.kind≠1;omega) (by show m.op.kind≠2;omega) (by show m.op.kind≠3;omega) (by show m.op.kind≠5;omega))),.inr ⟨v,g,e,by
     show ja w (jT w m n) v g e;rw[e2];exact⟨su.world,su.zg,su.done,su.version,su.mu,su.zi,su.mn,su.end_,su.mM,su.other,su.slot,su.listen,by show 0<=m.i+1;omega,p8 _⟩,by
     show Hx w (jT w m n) v g e;rw[e2];exact⟨lo.pc,by show(0:Int)<6;decide,by show m.i+1<_;omega⟩⟩⟩
 ·have e1:=O5 (w:=w) (n:=n) h6 aw
  exact zX O ⟨uY,st1,tg1,by
    show nh (jT w m n);rw[e1];exact uO,by show(jT w m n).op=m.op;rw[e1],by show(jT w m n).zg=m.zg;rw[e1],xn.refl w _,qD w (Au p0 (by show ph (jT w m n)=0;rw[e1];exact ID su.done (by show m.op.kind≠1;omega) (by show m.op.kind≠2;omega) (by show m.op.kind≠3;omega) (by show m.op.kind≠5;omega))),.inr ⟨v,g,e,by
    show ja w (jT w m n) v g e;rw[e1];exact⟨su.world,su.zg,su.done,su.version,su.mu,su.zi,su.mn,su.end_,su.mM,su.other,su.slot,su.listen,su.i,by show 0<=m.k+1;omega⟩,by
    show Hx w (jT w m n) v g e;rw[e1];exact⟨lo.pc,by show m.k+1<6;omega,lo.i⟩⟩⟩
end
def Yx{w:Wor}(h:w.lock=0)(a b c d l a' b' c' d' l':Int):Mv w {w with lock:=1} (qp 0 a b c d l) (qp 6 a' b' c' d' l'):=λy=>by
 rw[Cj];cases y with
 |slot i j k s=>simp[Has,qp];rfl
 |act i j k=>simp[Has,qp];rfl
 |lY i=>simp[Has,qp]
 |my i=>simp[Has,qp]
 |lock=>simp[Has,qp,h]
def zvt{w:Wor}(h:w.lock=1)(a b c d l a' b' c' d' l':Int):Mv w {w with lock:=0} (qp 6 a' b' c' d' l') (qp 0 a b c d l):=λy=>by
 rw[Cj];cases y with
 |slot i j k s=>simp[Has,qp];rfl
 |act i j k=>simp[Has,qp];rfl
 |lY i=>simp[Has,qp]
 |my i=>simp[Has,qp]
 |lock=>simp[Has,qp,h]
def zx8{w:Wor}{i k:Nat}{v:lJ}{x:mw}{a b:Key->Nat}(hv:w.zd[k]?=some v)(hx:w.zr[i]?=some x)(h:a=b):Mv w {w with zd:=w.zd.set k (Cg v),zr:=w.zr.set i (wb x)} a b:=λy=>by
 rw[h]
 have en:∀p q r,nS {w with zd:=w.zd.set k (Cg v),zr:=w.zr.set i (wb x)} p q r=nS w p q r:=λp q r=>by
  unfold nS wF;dsimp only;by_cases z:k=p.toNat
  ·subst z;rw[pC (gZ.1 hv).1,hv,rh,rh]
  ·rw[pX z]
 cases y with
 |slot p q r s=>simp only[Has,en]
 |act p q r=>simp only[Has,en]
 |lY p=>rfl
 |lock=>rfl
 |my p=>
  have ml:(∀r∈w.zr.set i (wb x),r.version≠p)↔∀r∈w.zr,r.version≠p:=by
   constructor
   ·intro z r hr;obtain⟨j,hj⟩:=pJ.1 hr;by_cases e:i=j
    ·subst e;rw[hx]at hj;cases hj
     exact z (wb x) (pJ.2 ⟨i,pC (gZ.1 hx).1⟩)
    ·exact z r (pJ.2 ⟨j,by rw[pX e];exact hj⟩)
   ·intro z r hr;rcases mem_set hr with hr|rfl
    ·exact z r hr
    ·exact z x (pq hx)
  simp only[Has,rX,ml]
section
variable {N K:Nat} {w:Wor} {m:lh} {v:lJ} {g:Gr} {e:En}
def zzg{i k:Nat}{x:mw}(tg:Tg N w)(hv:w.zd[k]?=some v):Tg N {w with zd:=w.zd.set k (Cg v),zr:=w.zr.set i (wb x)}:=λv2 hv2 g hg e he=>by
 rcases mem_set hv2 with hv2|rfl
 ·exact tg v2 hv2 g hg e he
 ·exact tg v (pq hv) g hg e he
def zu8(ow:∀x,xw m x<=Has w x)(gw:xa w)(h:ph m=6):w.lock=1:=by
 have:=IK ow h .lock (by simp[qp]);have l:=(qs.1 gw.ground).lock;simp only[Has]at this;omega
def WO{m1:lh}(st:St N K w)(tg:Tg N w)(su:ja w m1 v g e)(tm:nh m1)(hk:m1.op.kind=5)(hN:N<=100000000)(hpc:m1.pc=8)(ho:m1.op=m.op)(ht:m1.zg=m.zg)(p6:ph m=6)(lk:w.lock=1):Nc N K w m Jq Fe (nM w m1):=by
 have st1:St (N+1) (K+1) w:=st.mono aw aw;have tg1:=tg.mono (sH N);have i0:=su.i;have hl:=st.ty.lY;unfold nM;cases hx:w.zf[m1.i.toNat]? with
 |none=>
  have st2:=st1.Ju (n:=0) (.inl O);exact⟨tU,st2,tg1,⟨tm.listen,tm.word,tm.link,tm.host,tm.path,tm.d0,tm.d1,tm.cfg,λh=>absurd ((show m1.op.kind=6 from h).symm.trans hk) ar⟩,ho,ht,va (p8 _) O O O O O,C9 (p:=6) (p':=0) p6 (vZ O (λh=>absurd (hk.symm.trans h.1) ar)) (zvt lk _ _ _ _ _ _ _ _ _ _),.inl ⟨rfl,by show(7:Int)<=11/\(11:Int)<=13;decide⟩⟩
 |some l=>
  have lu:=(gZ.1 hx).1;have hw:IntKind.i64.wrap (m1.i+1)=m1.i+1:=qi aw aw;dsimp only;by_cases q:l.drain=true/\l.closed=false
  ·unfold Es;rw[pA q];exact⟨uY,st1,tg1,uO,ho,ht,xn.refl w _,qD w (Bb p6 (oB su.done hk uM)),.inr ⟨v,g,e,uQ,⟨uL,uK,uK,uK,λ_=>⟨l,hx,q.1⟩⟩⟩⟩
  ·unfold Es;rw[pw q,hw];exact⟨uY,st1,tg1,uO,ho,ht,xn.refl w _,qD w (Bb p6 (oB su.done hk uM)),.inr ⟨v,g,e,⟨su.world,su.zg,su.done,su.version,su.mu,su.zi,su.mn,su.end_,su.mM,su.other,su.slot,su.listen,(by show 0<=m1.i+1;omega),su.k⟩,⟨by show _\/(8<=m1.pc/\m1.pc<=10);omega,uK,uK,uK,uK⟩⟩⟩
def zpS(st:St N K w)(tg:Tg N w)(su:ja w m v g e)(tm:nh m)(lo:Jq w m v g e)(hk:m.op.kind=5)(hN:N<=100000000)(ow:∀x,xw m x<=Has w x):∃r,jA w m=some r/\Nc N K w m Jq Fe r:=by
 have gw:=st.jn;have st1:St (N+1) (K+1) w:=st.mono aw aw;have tg1:=tg.mono (sH N);have i0:=su.i;have k0:=su.k;have gr:=qs.1 gw.ground;have lT:=st.ty.lY;have lL:=st.ty.lim;have pc:=lo.pc;have pcs:m.pc=0\/m.pc=1\/m.pc=2\/m.pc=3\/m.pc=4\/m.pc=5\/m.pc=6\/m.pc=8\/m.pc=9\/m.pc=10:=aw
 unfold jA;by_cases p:m.pc=0
 ·rw[pA p];by_cases q:w.lock=0
  ·rw[pA q];have st2:=st1.Ju (n:=1) (.inr O);exact zX O ⟨aP,st2,tg1,uO,rfl,rfl,va (p8 _) O O O O O,C9 (p:=0) (p':=6) (oB su.done hk uM) (oB su.done hk uM) (Yx q _ _ _ _ _ _ _ _ _ _),.inr ⟨v,g,e,⟨qO.2 st2.jn,su.zg,su.done,su.version,su.mu,su.zi,su.mn,su.end_,su.mM,su.other,su.slot,su.listen,su.i,su.k⟩,⟨uL,uK,uK,uK,uK⟩⟩⟩
  ·rw[pw q];exact zX O ⟨aQ,st1,tg1,uP,rfl,rfl,xn.refl w _,qD w (Au (oB su.done hk uM) (vZ O (λh=>absurd (hk.symm.trans h.1) ar))),.inl ⟨rfl,by show(7:Int)<=12/\(12:Int)<=13;decide⟩⟩
 replace pcs:=pcs.resolve_left p
 have p6:ph m=6:=(oB su.done hk uM);have lk:=zu8 ow gw p6;have kl:xw m .lock=1:=by rw[jD p6];simp[qp]
 rw[pw p];clear p
 by_cases p:m.pc=1
 ·rw[pA p];exact zX O ⟨uY,st1,tg1,uO,rfl,rfl,xn.refl w _,qD w (Bb p6 (oB su.done hk uM)),.inr ⟨v,g,e,uS,⟨uL,λ_=>by show(0:Int)<(w.pins.length:Nat);have:=gr.pins.1;omega,uK,uK,uK⟩⟩⟩
 replace pcs:=pcs.resolve_left p
 rw[pw p];clear p
 by_cases p:m.pc=2
 ·rw[pA p];have hi:=lo.BU p;obtain⟨x,hx⟩:∃x,w.pins[m.i.toNat]?=some x:=⟨_,pa aw⟩;have hw:IntKind.i64.wrap (m.i+1)=m.i+1:=qi aw (by have:=gr.pins.2;omega);rw[hx,pM];unfold CW;rw[hw];by_cases q:x≠0/\x≠IntKind.i64.wrap (m.zn+1)
  ·rw[pA q];exact zX O ⟨uY,st1,tg1,uO,rfl,rfl,xn.refl w _,qD w (Bb p6 (oB su.done hk uM)),.inr ⟨v,g,e,uS,⟨uL,uK,uK,uK,uK⟩⟩⟩
  rw[pw q];by_cases q2:m.i+1<w.pins.length
  ·rw[pA q2];exact zX O ⟨uY,st1,tg1,uO,rfl,rfl,xn.refl w _,qD w (Bb p6 (oB su.done hk uM)),.inr ⟨v,g,e,uR,⟨aT,λ_=>q2,uK,uK,uK⟩⟩⟩
  ·rw[pw q2];exact gz
 replace pcs:=pcs.resolve_left p
 rw[pw p];clear p
 by_cases p:m.pc=3
 ·rw[pA p];by_cases q:w.zn=m.zn/\w.zn<1000000000000
  ·have hw:IntKind.i64.wrap (w.zn+1)=w.zn+1:=qi (by have:=gr.zn;omega) aw;rw[pA q,hw];have st2:=st1.Md (n:=w.zn+1) aw aw;exact zX O ⟨aP,st2,tg1,uO,rfl,rfl,va (by show w.zn<=w.zn+1;omega) O O O O O,Gk O O O O O (Bb p6 (oB su.done hk uM)),.inr ⟨v,g,e,⟨qO.2 st2.jn,su.zg,su.done,su.version,su.mu,su.zi,su.mn,su.end_,su.mM,su.other,su.slot,su.listen,p8 _,su.k⟩,⟨uL,uK,uK,uK,uK⟩⟩⟩
  ·rw[pw q];exact zX O ⟨aQ,st1,tg1,uO,rfl,rfl,xn.refl w _,qD w (Bb p6 (oB su.done hk uM)),.inr ⟨v,g,e,uS,⟨uL,uK,uK,uK,uK⟩⟩⟩
 replace pcs:=pcs.resolve_left p
 rw[pw p];clear p
 by_cases p:m.pc=4
 ·rw[pA p];cases hx:w.zr[m.i.toNat]? with
  |none=>exact zX O (WO st tg (m1:=nH m 8 0) uS uO hk hN O O O p6 lk)
  |some r=>
   have lu:=(gZ.1 hx).1;have hw:IntKind.i64.wrap (m.i+1)=m.i+1:=qi aw aw;have la:=wi gw hx;dsimp only;unfold Dq;rw[hw];by_cases q:r.gone=true\/Go.Lim.Dd r.at_ m.zn=false
   ·rw[pA q];exact zX O ⟨uY,st1,tg1,uO,rfl,rfl,xn.refl w _,qD w (Bb p6 (oB su.done hk uM)),.inr ⟨v,g,e,uR,⟨aT,uK,uK,uK,uK⟩⟩⟩
   ·rw[pw q];obtain⟨v',hv'⟩:∃v',w.zd[r.version.toNat]?=some v':=⟨_,pa aw⟩;have gv:=(gw.my _ v' hv').1;have h0:0<v'.zp.length:=by have:=(xh gv.snap).zm.1;have:=gv.len;omega
    obtain⟨g',e',hg,he,l1,l2⟩:=Gw gv h0;have el:=Uw gv
    exact zX O ⟨uY,st1,tg1,uO,rfl,rfl,xn.refl w _,qD w (Bb p6 (oB su.done hk uM)),.inr ⟨v',g',e',⟨su.world,su.zg,su.done,⟨la.2.2.1,la.2.2.2.1⟩,hv',⟨p8 _,aL⟩,hg,⟨p8 _,aL⟩,he,⟨p8 _,aL⟩,⟨p8 _,aL⟩,su.listen,su.i,p8 _⟩,
     ⟨uL,uK,λ_=>⟨r,hx,rfl,by cases hgo:r.gone with|false=>rfl|true=>exact absurd (.inl hgo) q⟩,λ_=>by show(0:Int)<_;omega,uK⟩⟩⟩
 replace pcs:=pcs.resolve_left p
 rw[pw p];clear p
 by_cases p:m.pc=5
 ·rw[pA p];obtain⟨r,hr,hrv,hrg⟩:=lo.lim (.inl p);have lu:=(gZ.1 hr).1;have hk2:=lo.act p;have gv:=(gw.my _ v su.mu).1;have el:=Uw gv;have hw:IntKind.i64.wrap (m.i+1)=m.i+1:=qi aw aw;have hwk:IntKind.i64.wrap (m.k+1)=m.k+1:=qi aw aw;obtain⟨x,hx⟩:∃x,(xJ v)[m.k.toNat]?=some x:=⟨_,pa aw⟩;rw[su.mu,rh,hx,pM];unfold Cd;rw[hw,hwk];by_cases q:x.zj≠0
  ·rw[pA q];exact gz
  rw[pw q];by_cases q2:m.k+1<(xJ v).length
  ·rw[pA q2];exact zX O ⟨uY,st1,tg1,uO,rfl,rfl,xn.refl w _,qD w (Bb p6 (oB su.done hk uM)),.inr ⟨v,g,e,⟨su.world,su.zg,su.done,su.version,su.mu,su.zi,su.mn,su.end_,su.mM,su.other,su.slot,su.listen,su.i,(by show 0<=m.k+1;omega)⟩,⟨aT,uK,λ_=>⟨r,hr,hrv,hrg⟩,λ_=>q2,uK⟩⟩⟩
  ·rw[pw q2];exact zX O ⟨uY,st1,tg1,uO,rfl,rfl,xn.refl w _,qD w (Bb p6 (oB su.done hk uM)),.inr ⟨v,g,e,⟨su.world,su.zg,su.done,su.version,su.mu,su.zi,su.mn,su.end_,su.mM,su.other,su.slot,su.listen,su.i,(by show 0<=m.k+1;omega)⟩,⟨uL,uK,λ_=>⟨r,hr,hrv,hrg⟩,uK,uK⟩⟩⟩
 replace pcs:=pcs.resolve_left p
 rw[pw p];clear p
 by_cases p:m.pc=6
 ·rw[pA p];obtain⟨r,hr,hrv,hrg⟩:=lo.lim (.inr p);have lu:=(gZ.1 hr).1;have hw:IntKind.i64.wrap (m.i+1)=m.i+1:=qi aw aw;have st2:=st.qd su.version.1 su.mu hr hrv;have s1:=(gZ.1 su.mu).1;rw[su.mu,rh,hr,rh,pA ⟨hrv,hrg⟩];unfold HB;rw[hw]
  exact zX O ⟨tU,st2,zzg tg1 su.mu,uP,rfl,rfl,zr4 kl su.mu hr,zx8 su.mu hr (Bb p6 (oB su.done hk uM)),.inr ⟨Cg v,g,e,⟨qO.2 st2.jn,su.zg,su.done,aq su.version,pC s1,su.zi,su.mn,su.end_,su.mM,su.other,su.slot,su.listen,by show 0<=m.i+1;omega,su.k⟩,
   ⟨uL,uK,uK,uK,uK⟩⟩⟩
 replace pcs:=pcs.resolve_left p
 rw[pw p];clear p
 by_cases p:m.pc=8
 ·rw[pA p];exact zX O (WO st tg su tm hk hN p O O p6 lk)
 replace pcs:=pcs.resolve_left p
 rw[pw p];clear p
 by_cases p:m.pc=9
 ·rw[pA p];obtain⟨l,hl,hd⟩:=lo.lY (.inl p);have lu:=(gZ.1 hl).1;have hw:IntKind.i64.wrap (m.i+1)=m.i+1:=qi aw aw;rw[hl,pM,hw];by_cases q:l.zj=0
  ·rw[pA q];exact zX O ⟨uY,st1,tg1,uO,rfl,rfl,xn.refl w _,qD w (Bb p6 (oB su.done hk uM)),.inr ⟨v,g,e,uQ,⟨uL,uK,uK,uK,λ_=>⟨l,hl,hd⟩⟩⟩⟩
  ·rw[pw q];exact gz
 rw[pw p];have p:m.pc=10:=pcs.resolve_left p;obtain⟨l,hl,hd⟩:=lo.lY (.inr p);have lu:=(gZ.1 hl).1;have hw:IntKind.i64.wrap (m.i+1)=m.i+1:=qi aw aw;have li:=Iy (gw.lY _ l hl).1;have st2:=st1.Iz hl (y:=I9 l) O (Kv li.1 li.2.1 (by show(l.drain || !true)=true;rw[hd];rfl)) (st.ty.Bw l (pq hl)).2 (by have:=st.nI.lY l (pq hl);show l.zj<=_;omega);rw[pA p,hl,rh,pA hd,hw];exact zX O ⟨tU,st2,tg1,uO,rfl,rfl,Ih hl O id,Ty (y:=I9 l) i0 hl O (Bb p6 (oB su.done hk uM)),.inr ⟨v,g,e,⟨qO.2 st2.jn,su.zg,su.done,su.version,su.mu,su.zi,su.mn,su.end_,su.mM,su.other,su.slot,aq su.listen,by show 0<=m.i+1;omega,su.k⟩,⟨uL,uK,uK,uK,uK⟩⟩⟩
end
def HX{α:Type}{l l':List α}{i:Nat}{x:α}(h:l[i]?=some x)(hl:l.length<=l'.length):∃y,l'[i]?=some y:=
 ⟨_,pa (by have:=(gZ.1 h).1;omega)⟩
def T3:∀{l l':List Gr},l'.length=l.length->(∀(j:Nat) g g',l[j]?=some g->l'[j]?=some g'->g'.ends.length=g.ends.length)->(l'.flatMap (·.ends)).length=(l.flatMap (·.ends)).length
 |[],[],_,_=>rfl
 |g::l,g'::l',h,hh=>by
  have ih:=T3 (l:=l) (l':=l') (aq h) λj a b ha hb=>hh (j+1) a b (aq ha) (aq hb)
  have h0:=hh 0 g g' O O;simp only[sO,pL];omega
 |[],_::_,h,_=>by simp at h
 |_::_,[],h,_=>by simp at h
def zu7{e:En}(h:Slp.mq e=true)(h0:0<=Slp.zG e):Slp.zG e∈(Slp.qo e).1:=by
 have ok:=(Slp.C3 h).1;rw[Slp.Fm ok,(Slp.Nn ok aw).2.2];exact r7 ..
def WE(e:En)(s:Int):nN e s<=1:=by unfold nN;split <;> omega
def Yl{w w':Wor}{m:lh}{v:lJ}{g:Gr}{e:En}{o:Key->Nat}(su:ja w m v g e)(lc:Lc w m v g e)(gw:xa w)(gw':xa w')(kp:xn w w' o)(ow:∀x,o x+xw m x<=Has w x):
  ∃v' g' e',ja w' m v' g' e'/\Lc w' m v' g' e':=by
 have hv:=su.version;have hg:=su.zi;have he:=su.end_;obtain⟨v',av⟩:=HX su.mu kp.wC;have kv:=kp.my _ v v' su.mu av;obtain⟨g',ag⟩:=HX su.mn (fq kv.len.symm);have kg:=kv.Dp _ g g' su.mn ag;obtain⟨e',ae⟩:=HX su.mM (fq kg.len.symm);have ke:=kg.ends _ e e' su.mM ae;rw[tq hv.1,tq hg.1,tq he.1]at ke;have l1:=kp.wC;have l2:=kv.len;have l3:=kg.len;have l4:=ke.len;have l5:=kp.pins;have l6:=kp.lY;have su':ja w' m v' g' e':=⟨qO.2 gw',by have:=su.zg;omega,su.done,aw,av,aw,ag,aw,ae,by have:=su.other;omega,by have:=su.slot;omega,by have:=su.listen;omega,su.i,su.k⟩;refine⟨v',g',e',su',?_⟩;have isv:=(((gw.my _ v su.mu).1.oV.2 g (pq su.mn)).2.2 e (pq su.mM)).1;have hsl:=NV su.at_ m.slot;have s0:=su.slot;have slo:=ow (.slot m.version m.zi m.end_ m.slot);rw[hsl]at slo;have sle:=WE e m.slot;rcases lc with⟨hk,lo⟩|⟨hk,lo⟩|⟨hk,lo⟩|⟨hk,lo⟩|⟨hk,lo⟩|⟨hk,lo⟩
 ·refine .inl ⟨hk,⟨lo.pc,λh=>?_,lo.lY,lo.early,lo.l7,λh=>?_,λh=>?_,λh h2=>?_,lo.AY,lo.kind⟩⟩
  ·have:=lo.ep h;have:=kp.zn;omega
  ·obtain⟨c,h1,h2⟩:=lo.draw h;exact⟨c,by rw[kv.snap];exact h1,h2⟩
  ·have:=lo.slot h;have:=ke.tag;exact⟨(lo.slot h).1,aw⟩
  ·have q:=lo.slot (.inr h);have t1:=ke.tag;have t2:AO e'=m.word / 4294967296:=by unfold AO;rw[h2]
   have hh:=ke.head aw;have hm:e.head=m.word:=by rw[<-hh];exact h2
   have hs:Slp.zG e=m.slot:=by rw[q.1,<-hm];rfl
   have fr:=zu7 isv aw
   have z:nN e m.slot=0:=by
    unfold nN;rw[pw (λz=>z.2.2 (hs ▸ fr))]
   rw[ke.next m.slot s0.1 (by show o _=0;omega)];exact lo.link h hm
 ·refine .inr (.inl ⟨hk,⟨lo.pc,lo.lY,λh=>?_,λh=>?_⟩⟩)
  ·have:=lo.tag h;have:=ke.tag;omega
  ·have p3:ph m=3:=oy su.done hk (by rw[pA aw]);have:xw m (.slot m.version m.zi m.end_ m.slot)=1:=by rw[jD p3];simp[qp]
   rw[ke.next m.slot s0.1 (by show o _=0;omega)];exact lo.next h
 ·refine .inr (.inr (.inl ⟨hk,⟨lo.pc,λh=>?_⟩⟩));have:=lo.ep h;have:=kp.zn;omega
 ·exact .inr (.inr (.inr (.inl ⟨hk,lo⟩)))
 ·refine .inr (.inr (.inr (.inr (.inl ⟨hk,⟨lo.pc,λh=>?_,λh=>?_,λh=>?_,λh=>?_⟩⟩))))
  ·have:=lo.BU h;omega
  ·obtain⟨r,h1,h2,h3⟩:=lo.lim h;obtain⟨r',h4⟩:=HX h1 kp.lim;have q:=kp.zr _ r r' h1 h4;have p6:ph m=6:=oB su.done hk (by rw[pA aw]);have k1:xw m .lock=1:=by rw[jD p6];simp[qp]
   have lk:=(qs.1 gw.ground).lock;have k2:=ow .lock;have k3:Has w .lock=w.lock.toNat:=rfl;exact⟨r',h4,by rw[q.1];exact h2,by rw[q.2.2 aw];exact h3⟩
  ·have:=lo.act h;have fl:(xJ v').length=(xJ v).length:=T3 l2 λj a b ha hb=>(kv.Dp j a b ha hb).len
   omega
  ·obtain⟨l,h1,h2⟩:=lo.lY h;obtain⟨l',h3⟩:=HX h1 (fq l6.symm);exact⟨l',h3,(kp.AK _ l l' h1 h3).2 h2⟩
 ·exact .inr (.inr (.inr (.inr (.inr ⟨hk,⟨lo.pc,lo.k,by have:=lo.i;have:=kp.counts;omega⟩⟩))))
def VC{N K:Nat}{w:Wor}{m:lh}{v:lJ}{g:Gr}{e:En}(st:St N K w)(tg:Tg N w)(su:ja w m v g e)(tm:nh m)(lo:Lc w m v g e)(hN:N<=100000000)(hK:K<=1099511627776)(ow:∀x,xw m x<=Has w x):∃r,yu w m=some r/\Nc N K w m Lc Jp r:=by
 have up:∀{L:Wor->lh->lJ->Gr->En->Prop} {F:lh->Prop} {r:Wor×lh×lD},Nc N K w m L F r->(∀w' m' v g e,m'.op=m.op->L w' m' v g e->Lc w' m' v g e)->(∀m',m'.op=m.op->F m'->Jp m')->Nc N K w m Lc Jp r:=λh hL hF=>
  ⟨h.ev,h.st,h.tg,h.tm,h.op,h.th,h.keep,h.mv,h.go.imp (λz=>⟨z.1,hF _ h.op z.2⟩) (λ⟨v,g,e,z1,z2⟩=>⟨v,g,e,z1,hL _ _ _ _ _ h.op z2⟩)⟩
 rw[show yu w m=if m.op.kind=1 then zY w m v g e else if m.op.kind=2 then jO w m v g e else if m.op.kind=3 then kU w m else if m.op.kind=4 then yA w m
  else if m.op.kind=5 then jA w m else if m.op.kind=6 then xS w m else none by
   unfold yu;rw[su.mu];dsimp only;rw[su.mn];dsimp only;rw[su.mM]]
 rcases lo with⟨hk,lo⟩|⟨hk,lo⟩|⟨hk,lo⟩|⟨hk,lo⟩|⟨hk,lo⟩|⟨hk,lo⟩
 ·rw[pA hk];obtain⟨r,h1,h2⟩:=zsw st tg su tm lo hk hN hK ow;exact⟨r,h1,up h2 (λ_ m' _ _ _ ho z=>.inl ⟨aU,z⟩) λm' ho z=>.inl ⟨aU,z⟩⟩
 ·rw[pw aw,pA hk];obtain⟨r,h1,h2⟩:=zsv st tg su tm lo hk hN hK ow;exact⟨r,h1,up h2 (λ_ m' _ _ _ ho z=>.inr (.inl ⟨aU,z⟩)) λm' ho z=>.inr (.inl ⟨aU,z⟩)⟩
 ·rw[pw aw,pw aw,pA hk];obtain⟨r,h1,h2⟩:=zyu st tg su tm lo hk ow;exact⟨r,h1,up h2 (λ_ m' _ _ _ ho z=>.inr (.inr (.inl ⟨aU,z⟩))) λm' ho z=>.inr (.inr ⟨aV,aV,z⟩)⟩
 ·rw[pw aw,pw aw,pw aw,pA hk];obtain⟨r,h1,h2⟩:=zvT st tg su tm lo hk hN;exact⟨r,h1,up h2 (λ_ m' _ _ _ ho z=>.inr (.inr (.inr (.inl ⟨aU,z⟩)))) λm' ho z=>.inr (.inr ⟨aV,aV,z⟩)⟩
 ·rw[pw aw,pw aw,pw aw,pw aw,pA hk];obtain⟨r,h1,h2⟩:=zpS st tg su tm lo hk hN ow;exact⟨r,h1,up h2 (λ_ m' _ _ _ ho z=>.inr (.inr (.inr (.inr (.inl ⟨aU,z⟩))))) λm' ho z=>.inr (.inr ⟨aV,aV,z⟩)⟩
 ·rw[pw aw,pw aw,pw aw,pw aw,pw aw,pA hk];obtain⟨r,h1,h2⟩:=zvU st tg su tm lo hk;exact⟨r,h1,up h2 (λ_ m' _ _ _ ho z=>.inr (.inr (.inr (.inr (.inr ⟨aU,z⟩))))) λm' ho z=>.inr (.inr ⟨aV,aV,z⟩)⟩
end Go.Wor
namespace Go.Pla
open Go.Ab Go.Proofs Tryz Go.Hy
def n8.at_{given L1 L2:List lM}{b:lM}(h:n8 given (L1++b::L2)):∃l1 i l2,qQ given=l1++i::l2/\l1.map (λi=>given[i]?)=L1.map some/\given[i]?=some b/\l2.map (λi=>given[i]?)=L2.map some:=by
 unfold n8 at h;rw[rD,se]at h;obtain⟨l1,l',h1,h2,h3⟩:=List.map_eq_append_iff.1 h;obtain⟨i,l2,h4,h5,h6⟩:=List.map_eq_cons_iff.1 h3;exact⟨l1,i,l2,by rw[h1,h4],h2,h5,h6⟩
def n8.zz0{given L1 L2:List lM}{b f:lM}(h:n8 given (L1++b::L2))(he:BD f b=true)(hn:∀x∈L1,BD f x=false):n8 (given++[f]) (L1++L2):=by
 have lu:∀n∈qQ given,n<given.length:=wu given given.length (pI _)
 have h6:f.kind=6:=by
  unfold BD at he;simp only[pG,pQ]at he;exact he.1
 obtain⟨l1,i,l2,h1,h2,h3,h4⟩:=h.at_
 have a1:∀n∈l1,nz given f n=false:=λn hm=>by
  have:given[n]?∈l1.map (λi=>given[i]?):=pZ.2 ⟨n,hm,rfl⟩;rw[h2]at this;obtain⟨x,hx,e⟩:=pZ.1 this;unfold nz;rw[<-e];exact hn x hx
 have e:(qQ given).findIdx? (nz given f)=some l1.length:=by
  rw[h1,fJ,pW.2 a1,tu];have:nz given f i=true:=by unfold nz;rw[h3];exact he
  rw[pA this];simp
 unfold n8;rw[Ny,pw aw,e,h1];dsimp only
 rw[List.eraseIdx_append_of_length_le (pI _),sY,List.eraseIdx_cons_zero,Oh given f _ (λn hn=>lu n (by
  rw[h1];rcases pV.1 hn with hn|hn
  ·exact pV.2 (.inl hn)
  ·exact pV.2 (.inr (r8 _ hn)))),rD,h2,h4,rD]
end Go.Pla
namespace Go.Beg
open Go.Ab Go.Proofs Tryz Go.Hy Go.Pla
def zzf{o:lX}{given L:List lM}(h:n8 given L)(h0:0<=o.n)(h1:o.n<L.length):∃a,L[o.n.toNat]?=some a/\FA o given=a:=by
 obtain⟨i,a,h2,h3,h4⟩:=Vz h0 (by rw[h.len];exact h1);refine⟨a,?_,h4⟩;have:=sF (λl=>l[o.n.toNat]?) h;simp only[pj,h2,pM,h3]at this;cases hl:L[o.n.toNat]? with
 |none=>rw[hl]at this;cases this
 |some b=>rw[hl]at this;simp only[pM,p9]at this;rw[this]
def zs4{o:lX}{given L:List lM}(h:n8 given L)(h1:¬(0<=o.n/\o.n<L.length)):FA o given=vG:=NH (by rw[h.len];exact h1)
end Go.Beg
namespace Go.Wor
open Go.Ab Go.Proofs Tryz Go.Gat Go.Nam Go.Hos Go.Con Go.Sna Go.Pla
open Go.Hy hiding encI
def z8(x:lW)(t:Int)(o:lX):lh:=if x.on then x.m else Beg.xC t o x.given
def vz(L:List lM)(x:Key):Nat:=(L.map λa=>ot a x).sum
def Gl(L L':List lM)(x:Key):vz (L++L') x=vz L x+vz L' x:=by unfold vz;rw[rD,ff]
def Gb(a:lM)(L:List lM)(x:Key):vz (a::L) x=ot a x+vz L x:=by unfold vz;rw[se,sR]
def zyq(a:lM)(x:Key):vz [a] x=ot a x:=by rw[Gb];rfl
structure Qf(w:Wor)(t:Int)(x:lW)(m:lh)(L:List lM)(o:Key->Nat):Prop where
 at_:x.ops[x.done]?=some m.op
 th:m.zg=t
 tm:nh m
 lc:∃v g e,ja w m v g e/\Lc w m v g e
 own:(((m.op.kind≠2\/m.pc=9)/\∀k,o k=vz L k+xw m k)\/(m.op.kind=2/\m.pc<=4/\∃L1 a L2,L=L1++a::L2/\a.version=m.version/\a.zi=m.zi/\a.end_=m.end_/\a.slot=m.slot/\a.listen=m.listen/\(∀b∈L1,¬EU b a)/\∀k,o k=vz (L1++L2) k+xw m k))
structure TI(w:Wor)(t:Int)(x:lW)(o:Key->Nat):Prop where
 le:x.done<=x.ops.length
 given:x.given.length=x.done
 open_ : ∃L, n8 x.given L /\ (∀a∈L, a.kind = 1 /\ 0 <= a.listen) /\ ((x.on = false /\ ∀k, o k = vz L k) \/ (x.on = true /\ Qf w t x x.m L o))
def IC{L:List lM}{a:lM}(h:a∈L)(k:Key):ot a k<=vz L k:=by
 obtain⟨L1,L2,rfl⟩:=List.append_of_mem h;rw[Gl,Gb];omega
def VP{w:Wor}{a:lM}(h:∀k,ot a k<=Has w k):B5 w a:=by
 have h1:=h (.slot a.version a.zi a.end_ a.slot);have h2:=h (.lY a.listen);have e1:ot a (.slot a.version a.zi a.end_ a.slot)=1:=by simp[ot,qp]
 have e2:ot a (.lY a.listen)=1:=by simp[ot,qp]
 rw[e1]at h1;rw[e2]at h2;simp only[Has]at h1 h2;split at h1
 ·rename_i e he;unfold nS at he;split at he
  ·rename_i q;unfold nN at h1;split at h1
   ·rename_i z;split at h2
    ·rename_i l0;split at h2
     ·rename_i l hl;have:=(gZ.1 hl).1;exact⟨⟨q.1,q.2.1,q.2.2,z.1⟩,⟨l0,aw⟩,e,he,z.2⟩
     ·omega
    ·omega
   ·omega
  ·cases he
 ·omega
def Wt(w:Wor)(i j k s:Int):Has w (.slot i j k s)<=1:=by
 simp only[Has];split
 ·exact WE _ _
 ·omega
def vX{t:Int}{o:lX}{given:List lM}(h:o.kind≠2):Beg.xC t o given=⟨o,t,0,0,0, -1,0,0,0,0,0,0,0,0,0,false,Beg.vG,kK⟩:=by
 unfold Beg.xC;rw[pw h]
structure MA(o:lX):Prop where
 kind:1<=o.kind/\o.kind<=6
 host:o.host.length<1000000000000000
 path:o.path.length<1000000000000000
 d0:i64 o.d0
 d1:i64 o.d1
 cfg:o.kind=3->yY o.config
def Kj{N K:Nat}{w:Wor}{t:Int}{x:lW}{o:Key->Nat}{p:lX}(st:St N K w)(tg:Tg N w)(ht:0<=t/\t<w.pins.length)(ti:TI w t x o)(hoff:x.on=false)(hp:x.ops[x.done]?=some p)(po:MA p)(hN:N<=100000000)(ow:∀k,o k<=Has w k):
  TI w t ⟨x.ops,x.done,true,Beg.xC t p x.given,x.given⟩ o:=by
 obtain⟨hle,hgl,L,hL,hk,hon⟩:=ti
 have hon:∀k,o k=vz L k:=by
  rcases hon with⟨_,h⟩|⟨h,_⟩
  ·exact h
  ·rw[hoff]at h;cases h
 refine⟨hle,hgl,L,hL,hk,.inr ⟨rfl,?_⟩⟩;have pk:=po.kind;have gr:=qs.1 st.jn.ground
 have idle:∀{pc:Int} {op:lX},op=p->(pc=0\/pc=9)->nh ⟨op,t,pc,0,0, -1,0,0,0,0,0,0,0,0,0,false,Beg.vG,kK⟩/\∃v g e,ja w ⟨op,t,pc,0,0, -1,0,0,0,0,0,0,0,0,0,false,Beg.vG,kK⟩ v g e:=λe _=>by
  subst e;exact⟨⟨(by decide:i64 (-1)),(by decide:u64 0),(by decide:(-1:Int)<=0/\(0:Int)<=2147483646),po.host,po.path,po.d0,po.d1,po.cfg,λ_ _=>O⟩,zqr st.jn ht O O O O O O O O O⟩
 by_cases k2:p.kind=2
 ·by_cases hn:0<=p.n/\p.n<L.length
  ·obtain⟨a,ha,hta⟩:=Beg.zzf hL hn.1 hn.2;have am:=pq ha;obtain⟨ak,al⟩:=hk a am;have fa:B5 w a:=VP λk=>rB (IC am k) (by rw[<-hon k];exact ow k)
   obtain⟨⟨p1,p2,p3,p4⟩,⟨l0,l1⟩,e,hat,hs,hf⟩:=fa;obtain⟨v,g,a1,a2,a3⟩:=QL hat;have s1:=(gZ.1 a1).1;have s2:=(gZ.1 a2).1;have s3:=(gZ.1 a3).1
   have eb:Beg.xC t p x.given=⟨p,t,0,0,a.version,a.listen,a.zi,a.end_,0,a.slot,0,0,0,0,0,false,Beg.vG,kK⟩:=by
    unfold Beg.xC;rw[pA k2,hta];unfold Beg.EJ;rw[pA ak,pA ak]
   rw[eb];have lN:=st.ty.lY
   obtain⟨L1,L2,hsp,hln⟩:∃L1 L2,L=L1++a::L2/\L1.length=p.n.toNat:=⟨L.take p.n.toNat,L.drop (p.n.toNat+1),by
    have lu:=(gZ.1 ha).1;have he:=(gZ.1 ha).2;rw[<-he,List.getElem_cons_drop,sE],aA⟩
   have Ds:ph ⟨p,t,0,0,a.version,a.listen,a.zi,a.end_,0,a.slot,0,0,0,0,0,false,Beg.vG,kK⟩=3:=oy O k2 O
   refine⟨hp,rfl,⟨by show i64 a.listen;unfold i64;omega,(by decide:u64 0),(by decide:(-1:Int)<=0/\(0:Int)<=2147483646),po.host,po.path,po.d0,po.d1,po.cfg,λ_ _=>O⟩,
    ⟨v,g,e,⟨qO.2 st.jn,ht,rfl,⟨p1,by show a.version<_;omega⟩,a1,⟨p2,by show a.zi<_;omega⟩,a2,⟨p3,by show a.end_<_;omega⟩,a3,⟨p8 _,aL⟩,⟨p4,hs⟩,⟨by show -1<=a.listen;omega,l1⟩,p8 _,p8 _⟩,
     .inr (.inl ⟨k2,⟨.inl ⟨p8 _,by show(0:Int)<=4;decide⟩,λ_=>l0,(λh=>by dsimp only at h;omega),λh=>absurd (show(0:Int)=2 from h) ar⟩⟩)⟩,
    .inr ⟨k2,by show(0:Int)<=4;decide,L1,a,L2,hsp,rfl,rfl,rfl,rfl,rfl,λb hb cl=>?_,λk=>?_⟩⟩
   ·have q1:=ow (.slot a.version a.zi a.end_ a.slot);have q2:=Wt w a.version a.zi a.end_ a.slot;have q3:=IC hb (.slot a.version a.zi a.end_ a.slot);have e1:ot a (.slot a.version a.zi a.end_ a.slot)=1:=by simp[ot,qp]
    have e2:ot b (.slot a.version a.zi a.end_ a.slot)=1:=by simp[ot,qp,cl.1,cl.2.1,cl.2.2.1,cl.2.2.2]
    rw[hon,hsp,Gl,Gb]at q1;omega
   rw[hon k,hsp,Gl,Gl,Gb,jD Ds];show _=_+ot a k;omega
  ·have eb:Beg.xC t p x.given=⟨p,t,9,0,0, -1,0,0,0,0,0,0,0,0,0,false,Beg.vG,kK⟩:=by
    unfold Beg.xC;rw[pA k2,Beg.zs4 hL hn]
    rfl
   rw[eb];obtain⟨ty,v,g,e,su⟩:=idle (pc:=9) O (.inr O);have p0:ph ⟨p,t,9,0,0, -1,0,0,0,0,0,0,0,0,0,false,Beg.vG,kK⟩=0:=oy O k2 O;exact⟨hp,rfl,ty,⟨v,g,e,su,.inr (.inl ⟨k2,⟨.inr O,λh=>absurd (show(9:Int)<=4 from h) ar,(λh=>by dsimp only at h;omega),λh=>absurd (show(9:Int)=2 from h) ar⟩⟩)⟩,.inl ⟨.inr O,λk=>by rw[hon k,jD p0,Cj];rfl⟩⟩
 ·rw[vX k2];obtain⟨ty,v,g,e,su⟩:=idle (pc:=0) O (.inl O)
  have p0:ph ⟨p,t,0,0,0, -1,0,0,0,0,0,0,0,0,0,false,Beg.vG,kK⟩=0:=by
   by_cases k1:p.kind=1
   ·exact mJ O k1 O
   by_cases k3:p.kind=3
   ·exact Ds O k3 O
   by_cases k5:p.kind=5
   ·exact oB O k5 O
   exact ID O k1 k2 k3 k5
  refine⟨hp,rfl,ty,⟨v,g,e,su,?_⟩,.inl ⟨.inl k2,λk=>by rw[hon k,jD p0,Cj];rfl⟩⟩;rcases(by omega:p.kind=1\/p.kind=3\/p.kind=4\/p.kind=5\/p.kind=6) with k|k|k|k|k
  ·exact .inl ⟨k,⟨.inl ⟨p8 _,by show(0:Int)<=12;decide⟩,(λh=>by dsimp only at h;omega),(λh=>by dsimp only at h;omega),(λh=>by dsimp only at h;omega),(λh=>by dsimp only at h;omega),λh=>absurd (show(0:Int)=6 from h) ar,(λh=>by dsimp only at h;omega),λh=>absurd (show(0:Int)=11 from h) ar,λh=>absurd (show(20:Int)<=0 from h) ar,λh=>absurd (show(0:Int)=22 from h) ar⟩⟩
  ·exact .inr (.inr (.inl ⟨k,⟨⟨p8 _,by show(0:Int)<=2;decide⟩,λh=>absurd (show(0:Int)=2 from h) ar⟩⟩))
  ·exact .inr (.inr (.inr (.inl ⟨k,rfl⟩)))
  ·exact .inr (.inr (.inr (.inr (.inl ⟨k,⟨.inl ⟨p8 _,by show(0:Int)<=6;decide⟩,λh=>absurd (show(0:Int)=2 from h) ar,(λh=>by dsimp only at h;omega),λh=>absurd (show(0:Int)=5 from h) ar,(λh=>by dsimp only at h;omega)⟩⟩))))
  ·exact .inr (.inr (.inr (.inr (.inr ⟨k,⟨rfl,by show(0:Int)<6;decide,by show(0:Int)<(w.counts.length:Nat);have:=gr.counts.1;have:=gr.pins.1;omega⟩⟩))))
def NR{w:Wor}{m:lh}{v:lJ}{g:Gr}{e:En}{r:Wor×lh×lD}(h:jO w m v g e=some r):r.2.1.version=m.version/\r.2.1.zi=m.zi/\r.2.1.end_=m.end_/\r.2.1.slot=m.slot/\r.2.1.listen=m.listen/\(m.pc=9->r.2.1.pc=9/\r.2.1.done=true)/\(m.pc<=4->r.2.1.pc<=4)/\(r.2.1.done=true->m.done=false->r.2.1.pc=m.pc):=by
 have c4:∀{a b:Int},a=b->(a=9->(1:Int)=2)->b=9->False:=λh1 h2 h3=>absurd (h2 (h1.trans h3)) ar
 unfold jO vW at h;split at h
 ·rename_i p;cases h
  exact⟨rfl,rfl,rfl,rfl,rfl,λh=>by omega,λ_=>by show(1:Int)<=4;decide,λa b=>absurd (b.symm.trans a) ar⟩
 split at h
 ·rename_i p;cases h
  exact⟨rfl,rfl,rfl,rfl,rfl,λh=>by omega,λ_=>by show(2:Int)<=4;decide,λa b=>absurd (b.symm.trans a) ar⟩
 split at h
 ·rename_i p;split at h
  ·cases h
   exact⟨rfl,rfl,rfl,rfl,rfl,λh=>by omega,λ_=>by show(3:Int)<=4;decide,λa b=>absurd (b.symm.trans a) ar⟩
  ·cases h
   exact⟨rfl,rfl,rfl,rfl,rfl,λh=>by omega,λ_=>by show(0:Int)<=4;decide,λa b=>absurd (b.symm.trans a) ar⟩
 split at h
 ·rename_i p;cases h
  exact⟨rfl,rfl,rfl,rfl,rfl,λh=>by omega,λ_=>by show(4:Int)<=4;decide,λa b=>absurd (b.symm.trans a) ar⟩
 split at h
 ·rename_i p;split at h
  ·cases h
  ·obtain⟨x,_,rfl⟩:=pS.1 h;exact⟨rfl,rfl,rfl,rfl,rfl,λh=>by omega,λh=>h,λ_ _=>O⟩
 split at h
 ·cases h
  exact⟨rfl,rfl,rfl,rfl,rfl,λh=>⟨h,rfl⟩,λh=>h,λ_ _=>O⟩
 ·cases h
def yN{x:lW}{m:lh}(h:m.done=true):qq x m=⟨x.ops,x.done+1,false,m,x.given++[m.answer]⟩:=pA h
def xI{x:lW}{m:lh}(h:m.done=false):qq x m=⟨x.ops,x.done,true,m,x.given⟩:=pw aI
def K3{N K:Nat}{w:Wor}{t:Int}{x:lW}{o:Key->Nat}(st:St N K w)(tg:Tg N w)(ti:TI w t x o)(hon:x.on=true)(hN:N<=100000000)(hK:K<=1099511627776)(ow:∀k,o k<=Has w k):
  ql w x.m=true/\nh x.m/\(∀k,xw x.m k<=o k)/\∃r,yu w x.m=some r/\r.2.2.access≠0/\St (N+1) (K+1) r.1/\Tg (N+1) r.1/\xn w r.1 (xw x.m)/\∃o',TI r.1 t (qq x r.2.1) o'/\Mv w r.1 o o':=by
 obtain⟨hle,hgl,L,hL,hk,hon'⟩:=ti
 have on:Qf w t x x.m L o:=by
  rcases hon' with⟨h,_⟩|⟨_,h⟩
  ·rw[hon]at h;cases h
  ·exact h
 clear hon'
 obtain⟨hat,hth,htm,⟨v,g,e,su,lc⟩,hown⟩:=on
 have om:∀k,xw x.m k<=o k:=λk=>by
  rcases hown with⟨_,h⟩|⟨_,_,_,_,_,_,_,_,_,_,_,_,h⟩
  ·rw[h k];omega
  ·rw[h k];omega
 have oh:∀k,xw x.m k<=Has w k:=λk=>rB (om k) (ow k)
 obtain⟨r,h1,nc⟩:=VC st tg su htm lc hN hK oh;refine⟨zsZ su,htm,om,r,h1,nc.ev,nc.st,nc.tg,nc.keep,?_⟩;have lt:x.done<x.ops.length:=(gZ.1 hat).1;have fs:x.m.op.kind=2->jO w x.m v g e=some r:=λhk=>by rw[zy3 su,pw aw,pA hk]at h1;exact h1
 rcases nc.go with⟨hd,hf⟩|⟨v',g',e',su',lc'⟩
 ·rw[yN hd];have hgl':(x.given++[r.2.1.answer]).length=x.done+1:=by simp[hgl]
  rcases hf with⟨k1,f1,f2,f3⟩|⟨k2,f⟩|⟨k3,k4,f⟩
  ·rw[nc.op]at k1
   have hb:∀k,o k=vz L k+xw x.m k:=by
    rcases hown with⟨_,h⟩|⟨h,_⟩
    ·exact h
    ·omega
   by_cases a1:r.2.1.answer.kind=1
   ·obtain⟨ea,el⟩:=f3 a1;have p3:ph r.2.1=3:=Ui hd (by rw[nc.op];exact k1) a1
    have eo:∀k,xw r.2.1 k=ot r.2.1.answer k:=λk=>by
     rw[jD p3];unfold ot;rw[ea]
    refine⟨λk=>vz (L++[r.2.1.answer]) k,⟨aW,hgl',L++[r.2.1.answer],hL.Y8 a1,λa ha=>?_,.inl ⟨rfl,λ_=>O⟩⟩,λk=>?_⟩
    ·rcases pV.1 ha with ha|ha
     ·exact hk a ha
     ·rw[pP.1 ha];exact⟨a1,by rw[ea];exact el⟩
    ·have:=nc.mv k;dsimp only;rw[hb k,Gl,zyq,<-eo k];omega
   ·have p0:ph r.2.1=0:=vZ hd λh=>a1 h.2
    refine⟨λk=>vz L k,⟨aW,hgl',L,hL.other a1 aw,hk,.inl ⟨rfl,λ_=>O⟩⟩,λk=>?_⟩;have:=nc.mv k
    try dsimp only
    rw[jD p0,Cj]at this;rw[hb k];omega
  ·rw[nc.op]at k2;have fsm:=NR (fs k2);obtain⟨e1,e2,e3,e4,e5,e6,e7,e8⟩:=fsm;have p0:ph r.2.1=0:=vZ hd λh=>by rw[nc.op]at h;omega
   have pc:=e8 hd su.done;rcases hown with⟨h9,hb⟩|⟨_,h4,L1,a,L2,hsp,q1,q2,q3,q4,q5,hcl,hb⟩
   ·have a7:r.2.1.answer=Ah 7:=by
     rcases f with⟨_,f⟩|⟨f,_⟩
     ·omega
     ·exact f
    refine⟨λk=>vz L k,⟨aW,hgl',L,hL.other (by rw[a7];show(7:Int)≠1;decide) (by rw[a7];show(7:Int)≠6;decide),hk,.inl ⟨rfl,λ_=>O⟩⟩,λk=>?_⟩;have:=nc.mv k
    try dsimp only
    rw[jD p0,Cj]at this;rw[hb k];omega
   ·have a6:r.2.1.answer=QO r.2.1:=by
     rcases f with⟨f,_⟩|⟨_,f⟩
     ·exact f
     ·omega
    have hka:=hk a (by rw[hsp];simp)
    have en:Pla.BD r.2.1.answer a=true:=by
     rw[a6];unfold Pla.BD;simp[hka.1,e1,e2,e3,e4,e5,q1,q2,q3,q4,q5]
    have en2:∀b∈L1,BD r.2.1.answer b=false:=λb hb2=>by
     cases he:Pla.BD r.2.1.answer b with
     |false=>rfl
     |true=>
      rw[a6]at he;unfold Pla.BD at he;simp only[pG,pQ,e1,e2,e3,e4,e5]at he;exact absurd ⟨he.2.2.1.symm.trans q1.symm,he.2.2.2.1.symm.trans q2.symm,he.2.2.2.2.1.symm.trans q3.symm,he.2.2.2.2.2.1.symm.trans q4.symm⟩ (hcl b hb2)
    rw[hsp]at hL
    refine⟨λk=>vz (L1++L2) k,⟨aW,hgl',L1++L2,hL.zz0 en en2,λb hb2=>hk b (by
     rw[hsp];rcases pV.1 hb2 with h|h
     ·exact pV.2 (.inl h)
     ·exact pV.2 (.inr (r8 _ h))),.inl ⟨rfl,λ_=>O⟩⟩,λk=>?_⟩
    have:=nc.mv k
    try dsimp only
    rw[jD p0,Cj]at this;rw[hb k];omega
  ·rw[nc.op]at k3 k4;have p0:ph r.2.1=0:=vZ hd λh=>by rw[nc.op]at h;omega
   have hb:∀k,o k=vz L k+xw x.m k:=by
    rcases hown with⟨_,h⟩|⟨h,_⟩
    ·exact h
    ·omega
   refine⟨λk=>vz L k,⟨aW,hgl',L,hL.other (by have:=f.1;omega) (by have:=f.1;omega),hk,.inl ⟨rfl,λ_=>O⟩⟩,λk=>?_⟩;have:=nc.mv k
   try dsimp only
   rw[jD p0,Cj]at this;rw[hb k];omega
 ·rw[xI su'.done];rcases hown with⟨h9,hb⟩|⟨k2,h4,L1,a,L2,hsp,q1,q2,q3,q4,q5,hcl,hb⟩
  ·have k2:x.m.op.kind≠2:=λk2=>by
    rcases h9 with h|h
    ·exact h k2
    ·have:=(NR (fs k2)).2.2.2.2.2.1 h;have h2:=su'.done;rw[this.2]at h2;cases h2
   refine⟨λk=>vz L k+xw r.2.1 k,⟨hle,hgl,L,hL,hk,.inr ⟨rfl,⟨by rw[hat,nc.op],nc.th.trans hth,nc.tm,⟨v',g',e',su',lc'⟩,.inl ⟨.inl (by rw[nc.op];exact k2),λ_=>O⟩⟩⟩⟩,λk=>?_⟩;have:=nc.mv k
   try dsimp only
   rw[hb k];omega
  ·obtain⟨e1,e2,e3,e4,e5,e6,e7,e8⟩:=NR (fs k2);refine⟨λk=>vz (L1++L2) k+xw r.2.1 k,⟨hle,hgl,L,hL,hk,.inr ⟨rfl,⟨by rw[hat,nc.op],nc.th.trans hth,nc.tm,⟨v',g',e',su',lc'⟩,.inr ⟨by rw[nc.op];exact k2,e7 h4,L1,a,L2,hsp,q1.trans e1.symm,q2.trans e2.symm,q3.trans e3.symm,q4.trans e4.symm,q5.trans e5.symm,hcl,λ_=>O⟩⟩⟩⟩,λk=>?_⟩;have:=nc.mv k
   try dsimp only
   rw[hb k];omega
def YY{w w':Wor}{t:Int}{x:lW}{o p:Key->Nat}(ti:TI w t x o)(gw:xa w)(gw':xa w')(kp:xn w w' p)(ow:∀k,p k+o k<=Has w k):TI w' t x o:=by
 obtain⟨hle,hgl,L,hL,hk,hon⟩:=ti;refine⟨hle,hgl,L,hL,hk,hon.imp id λ⟨h1,on⟩=>⟨h1,?_⟩⟩;obtain⟨hat,hth,htm,⟨v,g,e,su,lc⟩,hown⟩:=on
 have om:∀k,xw x.m k<=o k:=λk=>by
  rcases hown with⟨_,h⟩|⟨_,_,_,_,_,_,_,_,_,_,_,_,h⟩
  ·rw[h k];omega
  ·rw[h k];omega
 obtain⟨v',g',e',su',lc'⟩:=Yl su lc gw gw' kp λk=>by have:=om k;have:=ow k;omega
 exact⟨hat,hth,htm,⟨v',g',e',su',lc'⟩,hown⟩
def Iq:∀(l:List Nat) (i:Nat) {a:Nat},l[i]?=some a->a<=l.sum
 |[],i,a,h=>by simp at h
 |x::l,0,a,h=>by
  have:x=a:=aq h
  rw[sR];omega
 |x::l,i+1,a,h=>by
  have:=Iq l i (aq h);rw[sR];omega
def O9:∀(l:List Nat) (i j:Nat) {a b:Nat},i≠j->l[i]?=some a->l[j]?=some b->a+b<=l.sum
 |[],i,j,a,b,_,h,_=>by simp at h
 |x::l,0,0,a,b,h,_,_=>absurd O h
 |x::l,0,j+1,a,b,_,h1,h2=>by
  have:=Iq l j tS;have:x=a:=aq h1
  rw[sR];omega
 |x::l,i+1,0,a,b,_,h1,h2=>by
  have:=Iq l i tE;have:x=b:=aq h2
  rw[sR];omega
 |x::l,i+1,j+1,a,b,h,h1,h2=>by
  have:=O9 l i j aw tE tS;rw[sR];omega
structure GI(N K:Nat)(w:Wor)(X:List lW):Prop where
 st:St N K w
 tg:Tg N w
 len:w.pins.length=X.length
 ops:∀x∈X,∀p∈x.ops,MA p
 own:∃os:List (Key->Nat),os.length=X.length/\(∀(i:Nat) x o,X[i]?=some x->os[i]?=some o->TI w i x o)/\∀k,Has w k=(os.map (· k)).sum
def zz7{N K:Nat}{w:Wor}{X:List lW}{t:Nat}{x:lW}{p:lX}(gi:GI N K w X)(hx:X[t]?=some x)(hp:x.ops[x.done]?=some p)(hN:N<=100000000)(hK:K<=1099511627776):
  ql w (z8 x t p)=true/\nh (z8 x t p)/\∃r,yu w (z8 x t p)=some r/\r.2.2.access≠0/\GI (N+1) (K+1) r.1 (X.set t (qq x r.2.1)):=by
 obtain⟨st,tg,hlen,hops,os,hol,hti,hsum⟩:=gi;have lu:=(gZ.1 hx).1;obtain⟨o,ho⟩:∃o,os[t]?=some o:=⟨_,pa aw⟩;have ti:=hti t x o hx ho;have ow:∀k,o k<=Has w k:=λk=>by rw[hsum k];exact gW
 have po:=hops x (pq hx) p (pq hp)
 obtain⟨x',hx1,hx2,hx3,hx4⟩:∃x',x'.m=z8 x t p/\x'.on=true/\TI w t x' o/\∀m,qq x' m=qq x m:=by
  cases hon:x.on with
  |true=>exact⟨x,aX,hon,ti,λ_=>O⟩
  |false=>exact⟨⟨x.ops,x.done,true,Beg.xC t p x.given,x.given⟩,aX,rfl,Kj st tg aw ti hon hp po hN ow,λ_=>O⟩
 obtain⟨s1,s2,s3,r,s4,s5,s6,s7,s8,o',s9,s10⟩:=K3 st tg hx3 hx2 hN hK ow;rw[hx1]at s1 s2 s4;refine⟨s1,s2,r,s4,s5,s6,s7,by have:=s8.pins;simp;omega,λy hy q hq=>?_,os.set t o',by simp[hol],λi y oi hy hoi=>?_,λk=>?_⟩
 ·rcases mem_set hy with hy|rfl
  ·exact hops y hy q hq
  ·have:(qq x r.2.1).ops=x.ops:=by unfold qq;split <;> rfl
   rw[this]at hq;exact hops x (pq hx) q hq
 ·rcases jG hy with⟨rfl,rfl,_⟩|⟨hne,hy⟩
  ·rw[pC aw]at hoi;cases hoi
   rw[<-hx4];exact s9
  ·rw[pX hne]at hoi;refine YY (hti i y oi hy hoi) st.jn s6.jn s8 λk=>?_
   have h2:=O9 (os.map (· k)) t i hne (by rw[pj,ho];rfl) (by rw[pj,hoi];rfl);have:=s3 k;rw[hsum k];dsimp only at h2 ⊢;omega
 ·have q1:=O8 (λf:Key->Nat=>f k) os t o' ho;have q2:=s10 k;have q3:=hsum k;(try dsimp only at q1)
  (try dsimp only at q3)
  (try dsimp only)
  omega
def zvV{l:List lH}{i:Nat}{s:lH}(h:l[i]?=some s)(hn:zD ((l.take i).map ko) s<0):zD (l.map ko) s=i:=by
 have lu:=(gZ.1 h).1
 have h0:((l.take i).map ko).findIdx? (λr=>r.name == s)=none:=by
  unfold zD at hn;split at hn
  ·omega
  ·rename_i q;exact q
 have e:(l.map ko).findIdx? (λr=>r.name == s)=some i:=by
  rw[pO];refine⟨aq lu,?_,λj hj=>?_⟩
  ·have:=(gZ.1 h).2;simp[ko,this]
  ·have q:=pW.1 h0 (ko (l[j]'aw)) (pZ.2 ⟨_,List.mem_take_iff_getElem.2 ⟨j,aw,rfl⟩,rfl⟩);simpa using q
 unfold zD;rw[e]
def Ra{α:Type}:∀(T:List α),(T.map λ_=>(0:Nat)).sum=0
 |[]=>rfl
 |_::T=>by rw[se,sR,Ra T]
def Zf{s:Sna}{l:List lH}{n:Int}{w:Wor}{N:Nat}{T:List (List lX)}(h:nZ s l n=(w,0))(hs:Dx s)(hl:l.length<=N)(hN:1<=N)(hn:∀x∈l,x.length<=reachBytes)(hT:(T.length:Int)=n)(hO:∀L∈T,∀o∈L,MA o):
  GI N 0 w (T.map wA):=by
 unfold nZ at h;split at h
 ·exact dH
 rename_i q;have hw:=(sF Prod.fst h).symm;have hw:w=⟨0,0,0,List.replicate n.toNat 0,[(qM s).1],l.map ko,List.replicate n.toNat [0,0,0,0,0,0],[]⟩:=hw
 have q1:kq s=true:=by
  cases z:kq s with
  |true=>rfl
  |false=>exact absurd (.inl z) q
 have q2:1<=n:=aw
 have q3:n<=8:=aw
 have q4:∀i x,l[i]?=some x->yH x=true/\zD ((l.take i).map ko) x<0:=λi x hx=>by
  have z:Fu l=true:=by
   cases z:Fu l with
   |true=>rfl
   |false=>exact absurd (.inr (.inr (.inr z))) q
  have:=pH.1 z i (sJ.2 (gZ.1 hx).1);unfold GK at this;rw[hx]at this;simpa using this
 subst hw;have hc:(qM s).1=⟨s,s.zm.map o6,false⟩:=by unfold qM;rw[pA q1]
 have fr:∀g∈(qM s).1.zp,g.zx=0/\∀e∈g.ends,e.zj=0/\e.ok:=λg hg=>by
  rw[hc]at hg;obtain⟨x,hx,rfl⟩:=pZ.1 (show g∈s.zm.map o6 from hg);refine⟨rfl,λe he=>?_⟩;rw[rM (show e∈List.replicate x.zE.length (yE x) from he)];have f:=HK ((xh q1).all x hx);exact f.2.2
 have one:∀v,v∈[(qM s).1]->v=(qM s).1:=λv hv=>pP.1 hv
 have lz:∀x∈l.map ko,∃y∈l,x=ko y:=λx hx=>by
  obtain⟨y,hy,e⟩:=pZ.1 hx;exact⟨y,hy,e.symm⟩
 have fv:=T5 q1 0
 have ends:∀i j k e,nS ⟨0,0,0,List.replicate n.toNat 0,[(qM s).1],l.map ko,List.replicate n.toNat [0,0,0,0,0,0],[]⟩ i j k=some e->e.zj=0/\∀t,nN e t=0:=λi j k e he=>by
  unfold nS at he;split at he
  ·obtain⟨v,g,a1,a2,a3⟩:=QL he;have hv:=one v (pq a1);subst hv;exact(fv g (pq a2) e (pq a3)).2
  ·cases he
 refine⟨⟨⟨qs.2 ⟨?_,⟨?_,?_⟩,⟨p8 _,by show(0:Int)<=1000000000000;decide⟩,.inl O,?_⟩,⟨p8 _,by show(0:Int)<1;decide⟩,(by show Go.Lim.mq []=true;rfl),(λr hr=>nomatch hr),?_,?_⟩,⟨by show 1<=N;omega,aq hl,by show 0<=N;omega,?_,?_⟩,⟨?_,?_⟩⟩,?_,?_,?_,?_⟩
 ·simp only[ft];omega
 ·simp
 ·intro r hr;rw[rM hr];rfl
 ·intro p hp;rw[rM hp];exact⟨p8 _,by show(0:Int)<=0+1;decide⟩
 ·intro i v hv;have hi:i=0:=by have:=(gZ.1 hv).1;exact dB
  subst hi;cases hv
  exact⟨S1 q1,by rw[hc];rfl⟩
 ·intro i x hx;obtain⟨y,hy,rfl⟩:=pS.1 ((pj ..).symm.trans hx);have z:=q4 i y hy;refine⟨Kv z.1 (p8 _) O,zvV hy z.2⟩
 ·intro v hv;rw[one v hv];exact⟨by rw[hc];exact hs,λg hg=>⟨by rw[(fr g hg).1];decide,λe he=>((fr g hg).2 e he).2⟩⟩
 ·intro x hx;obtain⟨y,hy,rfl⟩:=lz x hx;exact⟨hn y hy,by show i64 0;decide⟩
 ·intro x hx;obtain⟨y,hy,rfl⟩:=lz x hx;show(0:Int)<=_
  decide
 ·intro v hv g hg e he;rw[one v hv]at hg;rw[((fr g hg).2 e he).1]
  decide
 ·intro v hv g hg e he;rw[one v hv]at hg;exact((fv g hg e he).1:Eo 0 e) |> λz=>⟨by have:=z.1;omega,z.2⟩
 ·simp only[ft,pB];omega
 ·intro x hx p hp;obtain⟨L,hL,rfl⟩:=pZ.1 hx;exact hO L hL p hp
 ·refine⟨T.map λ_=>λ_=>0,aj,λi x o hx ho=>?_,λk=>?_⟩
  ·obtain⟨L,hL,rfl⟩:=pS.1 ((pj ..).symm.trans hx);obtain⟨_,_,rfl⟩:=pS.1 ((pj ..).symm.trans ho);exact⟨rk _,rfl,[],X4,⟨λa ha=>(by cases ha),.inl ⟨rfl,λ_=>O⟩⟩⟩
  ·have z:((T.map λ_=>λ(_:Key)=>0).map (· k)).sum=0:=by
    rw[sM];exact Ra T
   rw[z];cases k with
   |slot i j k s'=>
    simp only[Has];split
    ·rename_i e he;exact(ends i j k e he).2 s'
    ·rfl
   |act i j k=>
    simp only[Has];split
    ·rename_i e he;rw[(ends i j k e he).1];rfl
    ·rfl
   |lY i=>
    simp only[Has];split
    ·split
     ·rename_i x hx;obtain⟨y,_,rfl⟩:=lz x (pq hx)
      rfl
     ·rfl
    ·rfl
   |my i=>
    simp only[Has];rw[pw];rintro⟨h1,h2,h3,_⟩;have h2:i<1:=h2;exact h3 (by show i=0;omega)
   |lock=>rfl
abbrev mS:=Wor×List lW×List lD
def vq(e:lD)(x:lW):lD:={e with op:=x.done,qY:=!x.on}
def Mh(s:mS)(t:Nat):mS:=match s.2.1[t]? with
 |some x=>match x.ops[x.done]? with
  |some o=>match yu s.1 (z8 x t o) with
   |some r=>(r.1,s.2.1.set t (qq x r.2.1),s.2.2++[vq r.2.2 x])
   |none=>s
  |none=>s
 |none=>s
def yl(s:mS)(p:Int):mS:=match (qX s.2.1 s.2.1.length)[(p%(qX s.2.1 s.2.1.length).length).toNat]? with
 |some t=>Mh s t
 |none=>s
def Ki{X:List lW}:∀{k t:Nat},t∈qX X k↔t<k/\∃x,X[t]?=some x/\x.done<x.ops.length
 |0,t=>by simp[qX]
 |k+1,t=>by
  unfold qX;cases hx:X[k]? with
  |none=>
   dsimp only;rw[Ki];constructor
   ·rintro⟨h,q⟩;exact⟨aw,q⟩
   ·rintro⟨h,x,hx2,q⟩;refine⟨?_,x,hx2,q⟩;rcases sd t k with h|h
    ·exact h
    ·have:t=k:=by omega
     subst this;rw[hx]at hx2;cases hx2
  |some y=>
   dsimp only;split
   ·rename_i hd;rw[Ki];constructor
    ·rintro⟨h,q⟩;exact⟨aw,q⟩
    ·rintro⟨h,x,hx2,q⟩;refine⟨?_,x,hx2,q⟩;rcases sd t k with h|h
     ·exact h
     ·have:t=k:=by omega
      subst this;rw[hx]at hx2;cases hx2
      omega
   ·rename_i hd;rw[pV,Ki,pP];constructor
    ·rintro(⟨h,q⟩|rfl)
     ·exact⟨aw,q⟩
     ·exact⟨aw,y,hx,aw⟩
    ·rintro⟨h,x,hx2,q⟩;rcases sd t k with h|h
     ·exact .inl ⟨h,x,hx2,q⟩
     ·exact .inr aw
def jy{N K:Nat}{s:mS}(gi:GI N K s.1 s.2.1)(p:Int)(hN:N<=100000000)(hK:K<=1099511627776):
  (qX s.2.1 s.2.1.length=[]/\yl s p=s)\/∃t x o r,(qX s.2.1 s.2.1.length)[(p%(qX s.2.1 s.2.1.length).length).toNat]?=some t/\s.2.1[t]?=some x/\x.ops[x.done]?=some o/\ql s.1 (z8 x t o)=true/\nh (z8 x t o)/\yu s.1 (z8 x t o)=some r/\r.2.2.access≠0/\
   yl s p=(r.1,s.2.1.set t (qq x r.2.1),s.2.2++[vq r.2.2 x])/\GI (N+1) (K+1) r.1 (s.2.1.set t (qq x r.2.1)):=by
 by_cases ha:qX s.2.1 s.2.1.length=[]
 ·refine .inl ⟨ha,?_⟩;unfold yl;rw[ha]
  rfl
 ·right
  have hl:0<(qX s.2.1 s.2.1.length).length:=u4.2 ha;have b0:=eF p (show((qX s.2.1 s.2.1.length).length:Int)≠0 by omega);have b1:=eu p (show(0:Int)<(qX s.2.1 s.2.1.length).length by omega);obtain⟨t,ht⟩:∃t,(qX s.2.1 s.2.1.length)[(p%(qX s.2.1 s.2.1.length).length).toNat]?=some t:=⟨_,pa aw⟩;obtain⟨_,x,hx,hd⟩:=Ki.1 (pq ht);obtain⟨o,ho⟩:∃o,x.ops[x.done]?=some o:=⟨_,pa hd⟩;obtain⟨h1,h2,r,h3,h4,h5⟩:=zz7 gi hx ho hN hK;refine⟨t,x,o,r,ht,hx,ho,h1,h2,h3,h4,?_,h5⟩;unfold yl Mh;rw[ht];dsimp only;rw[hx];dsimp only;rw[ho];dsimp only;rw[h3]
def GI.mono{N K N' K':Nat}{w:Wor}{X:List lW}(h:GI N K w X)(hN:N<=N')(hK:K<=K'):GI N' K' w X:=⟨h.st.mono hN hK,h.tg.mono hN,h.len,h.ops,h.own⟩
def XI{N K:Nat}{s:mS}(gi:GI N K s.1 s.2.1)(p:Int)(hN:N<=100000000)(hK:K<=1099511627776):GI (N+1) (K+1) (yl s p).1 (yl s p).2.1:=by
 rcases jy gi p hN hK with⟨_,h⟩|⟨t,x,o,r,_,_,_,_,_,_,_,h,h2⟩
 ·rw[h];exact gi.mono aw aw
 ·rw[h];exact h2
def mY(s:mS)(l:List Int)(k:Nat):mS:=(l.take k).foldl yl s
def xX{s:mS}{l:List Int}{k:Nat}{p:Int}(h:l[k]?=some p):mY s l (k+1)=yl (mY s l k) p:=by
 unfold mY;obtain⟨h1,h2⟩:=gZ.1 h;rw[rS h1,eK,h2]
 rfl
def kB{N K:Nat}{s:mS}(gi:GI N K s.1 s.2.1)(l:List Int):∀k,k<=l.length->N+k<=100000000->K+k<=1099511627776->GI (N+k) (K+k) (mY s l k).1 (mY s l k).2.1
 |0,_,_,_=>gi
 |k+1,hk,hN,hK=>by
  have ih:=kB gi l k aw aw aw;rw[xX (pa aw)];exact XI ih _ aw aw
def zuO{l:List Int}:∀{s:mS},qX s.2.1 s.2.1.length=[]->l.foldl yl s=s:=by
 induction l with
 |nil=>intro s _;rfl
 |cons p l ih=>
  intro s h;have:yl s p=s:=by unfold yl;rw[h];rfl
  rw[iI,this];exact ih h
end Go.Wor
