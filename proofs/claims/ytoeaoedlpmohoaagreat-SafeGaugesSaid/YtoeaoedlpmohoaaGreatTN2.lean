import Derived.Test.YtoeaoedlpmohoaaGreatTR
import Derived.Test.YtoeaoedlpmohoaaGreatTN
import Derived.Test.YtoeaoedlpmohoaaGreatTM
set_option linter.all false
set_option maxRecDepth 100000
set_option maxHeartbeats 4000000
namespace Go.Run
open Go.Ab Go.Proofs Tryz Go.Gat Go.Nam Go.Hos Go.Con Go.Sna Go.Pla Go.Ply Go.Wor
open Go.Hy hiding encI
def mq(t:Int)(c:Cal):Bool:=decide (c.zf=t) && decide (0<=c.fY)
def mN(b:List Cal)(t:Int):List fA:=(b.filter (mq t)).map (·.answer)
def Gz(b:List Cal):Prop:=∀(n m:Nat) (c d:Cal),b[n]?=some c->b[m]?=some d->n<m->c.zf=d.zf->0<=c.fY
def XV{α:Type}{l:List α}{n:Nat}{c:α}(h:l[n]?=some c):l=l.take n++c::l.drop (n+1):=by
 obtain⟨h1,h2⟩:=dW.1 h;rw[<-h2,List.getElem_cons_drop,rX]
def Wp{α:Type}{l:List α}{n:Nat}{c c':α}(h:l[n]?=some c):l.set n c'=l.take n++c'::l.drop (n+1):=by
 have hl:=(dW.1 h).1;rw[List.set_eq_take_append_cons_drop,gh hl]
def Xs{b:List Cal}{n:Nat}{c:Cal}(e:fk)(k:Nat)(t:Int)(h:b[n]?=some c)(ho:c.fY<0)(hl:∀(m:Nat) (d:Cal),n<m->b[m]?=some d->d.zf≠c.zf):
  mN (b.set n (Cal.qD e (k:Int) c)) t=mN b t++if c.zf=t/\e.done=true then [e.answer] else []:=by
 have mt:=Cal.yN e (k:Int) c;have mo:=Cal.D9 e (k:Int) c;have open_:mq t c=false:=by unfold mq;simp;omega
 have f1:(c::b.drop (n+1)).filter (mq t)=(b.drop (n+1)).filter (mq t):=by rw[eV,open_,dZ ar]
 have f2:b.filter (mq t)=(b.take n).filter (mq t)++(b.drop (n+1)).filter (mq t):=by
  conv=>lhs;rw[XV h]
  rw[sK,f1]
 unfold mN;rw[f2,Wp h,sK,eV];by_cases q:c.zf=t/\e.done=true
 ·rw[gh q]
  have yes:mq t (Cal.qD e (k:Int) c)=true:=by
   unfold mq;rw[mt.1,mo,gh q.2];simp[q.1]
  have no:(b.drop (n+1)).filter (mq t)=[]:=by
   rw[List.filter_eq_nil_iff];intro d hd;obtain⟨j,hj⟩:=gE.1 hd;rw[pO]at hj;have:=hl _ d aw hj;unfold mq;simp;intro z;exact absurd (z.trans q.1.symm) this
  have ea:(Cal.qD e (k:Int) c).answer=e.answer:=by unfold Cal.qD;dsimp only;rw[gh q.2]
  rw[yes,gh J,no,pY,pE,pN,ea];simp
 ·rw[dZ q,pY]
  have no:mq t (Cal.qD e (k:Int) c)=false:=by
   unfold mq;rw[mt.1,mo];by_cases z:c.zf=t
   ·have:e.done=false:=by
     cases y:e.done with
     |false=>rfl
     |true=>exact absurd ⟨z,y⟩ q
    rw[this,dZ ar];simp;omega
   ·simp[z]
  rw[no,dZ ar]
def VK{b:List Cal}{n:Nat}{c:Cal}(e:fk)(k:Nat)(h:b[n]?=some c)(hl:Gz b):Gz (b.set n (Cal.qD e (k:Int) c)):=λi j x y hi hj hij ht=>by
 have mt:=Cal.yN e (k:Int) c;have mo:=Cal.D9 e (k:Int) c;have up:0<=c.fY->0<=(Cal.qD e (k:Int) c).fY:=λz=>by rw[mo];split <;> omega
 have at_:∀{i:Nat} {x:Cal},(b.set n (Cal.qD e (k:Int) c))[i]?=some x->∃x0,b[i]?=some x0/\x.zf=x0.zf/\(0<=x0.fY->0<=x.fY):=λh2=>by
  rcases jy h2 with⟨rfl,rfl,_⟩|⟨_,h2⟩
  ·exact⟨c,h,mt.1,up⟩
  ·exact⟨_,h2,rfl,λz=>z⟩
 obtain⟨x0,a1,a2,a3⟩:=at_ hi;obtain⟨y0,b1,b2,_⟩:=at_ hj;exact a3 (hl i j x0 y0 a1 b1 hij (by rw[<-a2,<-b2,ht]))
def Ya{b b':List Cal}{e:fk}{k:Nat}(h:Cal.Bt b (k:Int) e=some b'):
  (e.q8=true/\b'=(b++[Cal.xh e (k:Int)]).set b.length (Cal.qD e (k:Int) (Cal.xh e (k:Int))))\/
  (e.q8=false/\∃n c,b[n]?=some c/\c.zf=e.zf/\c.fY<0/\b'=b.set n (Cal.qD e (k:Int) c)):=by
 unfold Cal.Bt at h;rcases zF h with⟨q,h⟩|⟨q,h⟩
 ·rcases zD h with h|h
  ·cases h
  ·refine .inl ⟨q,?_⟩;have ml:(b++[Cal.xh e (k:Int)])[b.length]?=some (Cal.xh e (k:Int)):=by simp
   rw[<-Cal.ks ml];exact(gp h).symm
 ·refine .inr ⟨aq q,?_⟩;split at h
  ·cases h
  ·rename_i n hp;obtain⟨c,hc,p1,p2⟩:=Cal.DH hp;rcases zF h with⟨_,h⟩|⟨z,h⟩
   ·cases h
   ·rw[hc]at z;refine⟨n,c,hc,p1,aq z,?_⟩;rw[<-Cal.ks hc];exact(gp h).symm
structure GV(X:List fB)(b:List Cal):Prop where
 bi:BI X b
 last:Gz b
 Hh:∀(t:Nat) (x:fB),X[t]?=some x->mN b (t:Int)=x.given
def Y2{X:List fB}{b:List Cal}{t:Nat}{x:fB}{m:fi}{e:fk}{k:Nat}(gv:GV X b)(hx:X[t]?=some x)(he:e.zf=(t:Int))(hop:e.op=x.done)(hbg:e.q8=!x.on)(hdn:e.done=m.done)(ha:m.done=true->e.answer=m.answer):
  ∃b',Cal.Bt b (k:Int) e=some b'/\GV (X.set t (Wor.qn x m)) b':=by
 obtain⟨b',h1,h2⟩:=OR (k:=k) gv.bi hx he hop hbg hdn;have hl:=(dW.1 hx).1;refine⟨b',h1,?_⟩
 have main:∀(b0:List Cal) (n:Nat) (c:Cal),b0[n]?=some c->c.zf=(t:Int)->c.fY<0->Gz b0->(∀(t':Nat) (z:fB),X[t']?=some z->mN b0 (t':Int)=z.given)->b'=b0.set n (Cal.qD e (k:Int) c)->GV (X.set t (Wor.qn x m)) b':=λb0 n c hc hth hto hlast hg hb=>by
  refine⟨h2,by rw[hb];exact VK e k hc hlast,λt' z hz=>?_⟩;have gm:=Xs e k (t':Int) hc hto λm' d fj hd q=>by have:=hlast n m' c d hc hd fj q.symm;omega
  rw[hb,gm];rcases jy hz with⟨rfl,rfl,_⟩|⟨hne,hz⟩
  ·rw[hg t x hx];by_cases q:m.done=true
   ·rw[gh ⟨hth,hdn.trans q⟩,Wor.DQ q,ha q]
   ·rw[dZ (λz=>q (hdn ▸ z.2)),pY];unfold Wor.qn;rw[dZ q]
  ·rw[dZ (λy=>hne aw),pY];exact hg t' z hz
 rcases Ya h1 with⟨q,hb⟩|⟨q,n,c,hc,p1,p2,hb⟩
 ·have hoff:x.on=false:=by rw[hbg]at q;simpa using q
  have fresh:∀t':Int,mq t' (Cal.xh e (k:Int))=false:=λt'=>by unfold mq Cal.xh;simp
  refine main (b++[Cal.xh e (k:Int)]) b.length (Cal.xh e (k:Int)) aj he (by show(-1:Int)<0;decide) (λi j y z hi hj hij ht=>?_) (λt' z hz=>?_) hb
  ·rcases ve hj with⟨lj,hj⟩|⟨lj,rfl⟩
   ·rcases ve hi with⟨_,hi⟩|⟨li,_⟩
    ·exact gv.last i j y z hi hj hij ht
    ·omega
   ·rcases ve hi with⟨_,hi⟩|⟨li,_⟩
    ·obtain⟨t2,x2,a1,a2,a3⟩:=gv.bi.own i y hi;have:t2=t:=by have:y.zf=e.zf:=ht;omega
     subst this;rw[hx]at a2;cases a2
     rcases a3 with a3|⟨_,a3,_⟩
     ·exact a3.2
     ·rw[hoff]at a3;cases a3
    ·omega
  ·rw[<-gv.Hh t' z hz];unfold mN;rw[sK,eV,fresh,dZ ar,List.filter_nil,pY]
 ·exact main b n c hc (p1.trans he) p2 gv.last gv.Hh hb
structure CA(s:Wor.iu):Prop where
 bk:∃b,Cal.nT s.2.2 s.2.2.length=some b/\GV s.2.1 b
def Xr{N K:Nat}{s:Wor.iu}(gi:GI N K s.1 s.2.1)(ri:CA s)(p:Int)(hN:N<=100000000)(hK:K<=1099511627776):CA (yw s p):=by
 rcases xi gi p hN hK with⟨_,e⟩|⟨t,x,o,r,hat,hx,ho,hsu,htm,hst,hacc,e,gi2⟩
 ·rw[e];exact ri
 ·rw[e];obtain⟨v,g,en,su⟩:=x5 hsu;have tl:=E9 su.done hst;have eth:r.2.2.zf=(t:Int):=tl.2.2.trans (ku o gi hx);obtain⟨b,h1,h2⟩:=ri.bk;obtain⟨b',h3,h4⟩:=Y2 (e:=nW r.2.2 x) (m:=r.2.1) (k:=s.2.2.length) h2 hx eth J J tl.1 tl.2.1;refine⟨b',?_,h4⟩;dsimp only;rw[pj];show Cal.nT _ (s.2.2.length+1)=_;simp only[Cal.nT];rw[I8 _ _ _ (gC _),h1,CK];exact h3
def Pa{N K:Nat}{s:Wor.iu}(gi:GI N K s.1 s.2.1)(ri:CA s)(l:List Int):∀k,k<=l.length->N+k<=100000000->K+k<=1099511627776->CA (iv s l k)
 |0,_,_,_=>ri
 |k+1,hk,hN,hK=>by
  have ih:=Pa gi ri l k aw aw aw;rw[y8 (dX aw)];exact Xr (AB gi l k aw aw aw) ih _ aw aw
def Wc{s:fR}(ok:np s)(h:(zY s).2.2=0):
  ∃b,Cal.nT (zY s).1 (zY s).1.length=some b/\(Cal.ib (zY s).1)=(b,0)/\(∀(t:Nat) (x:fB),(xe s).2.1[t]?=some x->mN b (t:Int)=x.given)/\((∀c∈b,0<=c.fY)->∀x∈(xe s).2.1,x.on=false)/\∀c∈b,∃t:Nat,c.zf=(t:Int)/\t<(xe s).2.1.length:=by
 have hb:=DS h;have e1:zY s=((xe s).2.2,(xe s).1,0):=by unfold zY;rw[gh hb]
 obtain⟨q,_⟩:=xj hb;obtain⟨_,_,_,p4,_,_⟩:=xE q
 have off:∀{t:Nat} {x:fB},(s.threads.map iV)[t]?=some x->x.on=false/\x.given=[]:=λhx=>by
  obtain⟨L,_,rfl⟩:=gM.1 ((gf ..).symm.trans hx);exact dK
 have g0:CA (iH s):=by
  refine⟨[],rfl,⟨λi c h=>aR,λt x hx hon=>?_,λi j c d h=>aR⟩,λi j c d h=>aR,λt x hx=>?_⟩
  ·have:=(off hx).1;rw[hon]at this;cases this
  ·rw[(off hx).2];rfl
 have gv:CA (xe s):=Pa (y9 ok hb) g0 s.zQ s.zQ.length (gC _) aw aw;obtain⟨b,b1,b2⟩:=gv.bk;rw[e1];refine⟨b,b1,?_,b2.Hh,λz8 x hx=>?_,λc hc=>?_⟩
 ·have:=(Cal.Ed (xe s).2.2 (xe s).2.2.length).1;rw[b1]at this;unfold Cal.ib;cases z:Cal.vA (xe s).2.2 (xe s).2.2.length with
  |none=>rw[z]at this;cases this
  |some b2=>
   rw[z]at this;have:=gp this;dsimp only at this ⊢;rw[this]
 ·obtain⟨t,ht⟩:=gE.1 hx;cases hon:x.on with
  |false=>rfl
  |true=>
   exfalso
   obtain⟨i,c,c1,c2,c3⟩:=b2.bi.on t x ht hon;obtain⟨t2,x2,a1,a2,a3⟩:=b2.bi.own i c c1;have:t2=t:=aw
   subst this;rw[ht]at a2;cases a2
   have:=z8 c (dY c1);rcases a3 with a3|⟨_,_,a3⟩
   ·omega
   ·omega
 ·obtain⟨i,hi⟩:=gE.1 hc;obtain⟨t,x,a1,a2,_⟩:=b2.bi.own i c hi;exact⟨t,a1,(dW.1 a2).1⟩
def PN(w:Wor)(X:List fB):Prop:=∀(t:Nat) (x:fB),X[t]?=some x->w.pins[t]?=some 0\/(Ha x/\1<=x.m.pc)
def Xk{w:Wor}{m:fi}{v:fp}{g:Gr}{e:En}{r:Wor×fi×fk}(h:j9 w m v g e=some r):r.1.pins=w.pins:=by
 unfold j9 at h;rcases zD h with h|h
 ·obtain rfl:=gp h;rfl
 rcases zD h with h|h
 ·obtain rfl:=gp h;rfl
 rcases zD h with h|h
 ·rcases zD h with h|h
  ·obtain rfl:=gp h;rfl
  ·obtain rfl:=gp h;rfl
 rcases zD h with h|h
 ·obtain rfl:=gp h;rfl
 rcases zD h with h|h
 ·unfold iU at h;rcases zD h with h|h
  ·cases h
  ·obtain⟨x,_,rfl⟩:=gM.1 h
   rfl
 rcases zD h with h|h
 ·obtain rfl:=gp h;rfl
 ·cases h
def Zy{N K:Nat}{s:Wor.iu}(gi:GI N K s.1 s.2.1)(pn:PN s.1 s.2.1)(p:Int)(hN:N<=100000000)(hK:K<=1099511627776):PN (yw s p).1 (yw s p).2.1:=by
 rcases xi gi p hN hK with⟨_,e⟩|⟨t,x,o,r,hat,hx,ho,hsu,htm,hst,_,e,gi2⟩
 ·rw[e];exact pn
 ·rw[e];obtain⟨v,g,en,su⟩:=x5 hsu;have nt:=ku o gi hx;have no:=Ba gi hx ho;have hl:=(dW.1 hx).1;have gx:(s.2.1.set t (Wor.qn x r.2.1))[t]?=some (Wor.qn x r.2.1):=gk hl
  have mm:r.2.1.done=false->(Wor.qn x r.2.1).on=true/\(Wor.qn x r.2.1).m=r.2.1/\r.2.1.op=o:=λnd=>by
   have ho2:(Wor.qn x r.2.1).ops[(Wor.qn x r.2.1).done]?=some o:=by rw[xK nd];exact ho
   have n2:=Ba gi2 gx ho2;have e2:qv (Wor.qn x r.2.1) t o=r.2.1:=by rw[xK nd];rfl
   rw[e2]at n2;exact⟨by rw[xK nd],by rw[xK nd],n2⟩
  dsimp only;have others:∀{t':Nat} {z:fB},t'≠t->r.1.pins[t']?=s.1.pins[t']?->s.2.1[t']?=some z->r.1.pins[t']?=some 0\/(Ha z/\1<=z.m.pc):=λhne hp hz=>by rw[hp];exact pn _ _ hz
  have rest:o.kind≠1->r.1.pins=s.1.pins->PN r.1 (s.2.1.set t (Wor.qn x r.2.1)):=λhk hp t' z hz=>by
   rcases jy hz with⟨rfl,rfl,_⟩|⟨hne,hz⟩
   ·rw[hp];rcases pn t x hx with h|⟨h,_⟩
    ·exact .inl h
    ·exfalso
     have:qv x t o=x.m:=by unfold qv;rw[h.1];rfl
     rw[this]at no;exact hk (no ▸ h.2)
   ·exact others (λz=>hne z.symm) (by rw[hp]) hz
  rcases B6 su hst with⟨k1,h⟩|⟨k1,h⟩|⟨k1,h⟩|⟨k1,h⟩|⟨k1,h⟩|⟨k1,h⟩
  ·rw[no]at k1
   have h0:0<=(qv x t o).pc:=by
    cases hon:x.on with
    |false=>
     have e1:qv x t o=Beg.xA t o x.given:=aW
     rw[e1,wP aw];exact gL _
    |true=>
     have e1:qv x t o=x.m:=aW
     obtain⟨os,hol,hti,_⟩:=gi.own;obtain⟨ow,how⟩:∃o,os[t]?=some o:=⟨_,dX aw⟩;obtain⟨L,_,_,hh|⟨_,hh⟩⟩:=(hti t x ow hx how).open_
     ·have:=hh.1;rw[hon]at this;cases this
     ·obtain⟨_,_,_,_,lc⟩:=hh.lc;have kx:x.m.op.kind=1:=by rw[<-e1,no];exact k1
      rw[e1];rcases lc with⟨_,lc⟩|⟨k,_⟩|⟨k,_⟩|⟨k,_⟩|⟨k,_⟩|⟨k,_⟩
      ·have:=lc.pc;omega
      all_goals omega
   have go:r.2.1.done=false->1<=r.2.1.pc->(∀t',t'≠t->r.1.pins[t']?=s.1.pins[t']?)->PN r.1 (s.2.1.set t (Wor.qn x r.2.1)):=λnd hp hpin t' z hz=>by
    rcases jy hz with⟨rfl,rfl,_⟩|⟨hne,hz⟩
    ·obtain⟨a,b,c⟩:=mm nd;exact .inr ⟨⟨a,by rw[b,c];exact k1⟩,by rw[b];exact hp⟩
    ·exact others (λz=>hne z.symm) (hpin _ λz=>hne z.symm) hz
   have pinned:∀(w:Wor) (n:Int) (t':Nat),t'≠t->(nD w (qv x t o).zf.toNat n).pins[t']?=w.pins[t']?:=λw n t' hne=>by
    rw[nt];show(w.pins.set t n)[t']?=_;exact gW (λz=>hne z.symm)
   rcases Fs su.done h0 h with⟨q,hw,hm⟩|⟨q,hw,hm⟩|⟨q,hw,hm⟩|⟨q,hw,hv,he,hp4,hd⟩|⟨q1,q2,hv,he,hp4,hd,qu⟩|⟨q,hw,hd⟩
   ·exact go (by rw[hm];exact su.done) (by rw[hm];exact(gJ au)) λ_ _=>by rw[hw]
   ·exact go (by rw[hm];exact su.done) (by rw[hm];exact(gJ au)) λt' hne=>by rw[hw];exact pinned _ _ t' hne
   ·exact go (by rw[hm];exact su.done) (by rw[hm];dsimp only;split <;> decide) λ_ _=>by rw[hw]
   ·exact go hd aw λ_ _=>by rw[hw]
   ·exact go hd aw λ_ _=>by rw[qu.pins]
   ·intro t' z hz;rcases jy hz with⟨rfl,rfl,_⟩|⟨hne,hz⟩
    ·left
     rw[hw,nt];show(s.1.pins.set t 0)[t]?=_;have:=gi.len;exact gk aw
    ·exact others (λz=>hne z.symm) (by rw[hw];exact pinned _ _ t' λz=>hne z.symm) hz
  ·rw[no]at k1;have gw:=gi.st.ji;refine rest aw ?_;exact(Xk h)
  ·rw[no]at k1;refine rest aw ?_;rcases OF su.done h with⟨_,e,_⟩|⟨_,e,_⟩|⟨_,e,_⟩|⟨_,e,_⟩ <;> rw[e]
  ·rw[no]at k1;exact rest aw (N0 h).1.pins
  ·rw[no]at k1;refine rest aw ?_;rcases Fj su.done h with⟨_,e,_⟩|⟨_,e,_⟩|⟨_,e,_⟩|⟨_,_,e,_⟩|⟨_,_,_,e,_⟩|⟨_,e,_⟩|⟨_,v,y,_,_,_,_,e,_⟩
   ·exact e.pins
   ·rw[e]
   ·rw[e]
   ·rw[e]
   ·exact e.pins
   ·exact e.pins
   ·rw[e]
  ·rw[no]at k1;exact rest aw (by rw[N9 h])
def PT{N K:Nat}{s:Wor.iu}(gi:GI N K s.1 s.2.1)(pn:PN s.1 s.2.1)(l:List Int):∀k,k<=l.length->N+k<=100000000->K+k<=1099511627776->PN (iv s l k).1 (iv s l k).2.1
 |0,_,_,_=>pn
 |k+1,hk,hN,hK=>by
  have ih:=PT gi pn l k aw aw aw;rw[y8 (dX aw)];exact Zy (AB gi l k aw aw aw) ih _ aw aw
def OO{α:Type}(f g:α->Nat):∀l:List α,(l.map λa=>f a+g a).sum=(l.map f).sum+(l.map g).sum
 |[]=>rfl
 |a::l=>by
  have:=OO f g l;simp only[pN,ry];omega
def JS{α:Type}(f:α->Nat):∀l:List α,(∀a∈l,f a=0)->(l.map f).sum=0
 |[],_=>rfl
 |a::l,h=>by
  have:=JS f l λb hb=>h b (pP _ hb)
  have:=h a (pT ..);simp only[pN,ry];omega
def Jp{α:Type}:∀l:List α,(l.map λ_=>1).sum=l.length
 |[]=>rfl
 |a::l=>by
  have:=Jp l;simp only[pN,ry,rk];omega
def PY{α:Type}(l:List α)(f:α->Nat)(A:List fA)(ix:fA->Int)(P:fA->Prop)[DecidablePred P](h0:∀a∈A,P a->0<=ix a)(h:∀(n:Nat) x,l[n]?=some x->f x=(A.map λa=>if P a/\ix a=(n:Int) then 1 else 0).sum):∀k:Nat,k<=l.length->((l.take k).map f).sum=(A.map λa=>if P a/\ix a<(k:Int) then 1 else 0).sum
 |0,_=>by
  rw[sV,JS _ A]
  ·rfl
  ·intro a ha;rw[dZ];rintro⟨q,z⟩;have:=h0 a ha q;omega
 |k+1,hk=>by
  have ih:=PY l f A ix P h0 h k aw;rw[FW f l (show k<l.length by omega),ih,h k _ (dX aw),<-OO]
  congr 1
  refine p8 λa ha=>?_
  by_cases q:P a
  ·by_cases z:ix a=k
   ·rw[dZ aw,gh ⟨q,z⟩,gh ⟨q,aw⟩]
   ·by_cases y:ix a<k
    ·rw[gh ⟨q,y⟩,dZ (λx=>z x.2),gh ⟨q,aw⟩]
    ·rw[dZ (λx=>y x.2),dZ (λx=>z x.2),dZ (λx=>by have:=x.2;omega)]
  ·rw[dZ (λx=>q x.1),dZ (λx=>q x.1),dZ (λx=>q x.1)]
def DF{α:Type}(l:List α)(f:α->Nat)(A:List fA)(ix:fA->Int)(P:fA->Prop)[DecidablePred P](hr:∀a∈A,P a->0<=ix a/\ix a<l.length)(h:∀(n:Nat) x,l[n]?=some x->f x=(A.map λa=>if P a/\ix a=(n:Int) then 1 else 0).sum):(l.map f).sum=(A.map λa=>if P a then 1 else 0).sum:=by
 have:=PY l f A ix P (λa ha q=>(hr a ha q).1) h l.length (gC _);rw[gZ]at this;rw[this]
 congr 1
 refine p8 λa ha=>?_
 by_cases q:P a
 ·rw[gh q,gh ⟨q,(hr a ha q).2⟩]
 ·rw[dZ q,dZ (λx=>q x.1)]
def Ho(f:En->Nat)(w:Wor):Nat:=(w.zd.map λv=>(v.zo.map λg=>(g.ends.map f).sum).sum).sum
def Pt{w:Wor}{f:En->Nat}{A:List fA}(ny:∀a∈A,oO w a)(h:∀(i j k:Nat) (e:En),kR w i j k=some e->f e=(A.map λa=>if (a.version=(i:Int)/\a.zg=(j:Int))/\a.end_=(k:Int) then 1 else 0).sum):Ho f w=A.length:=by
 have pl:∀a∈A,∃v g e,w.zd[a.version.toNat]?=some v/\v.zo[a.zg.toNat]?=some g/\g.ends[a.end_.toNat]?=some e:=λa ha=>by
  obtain⟨e,h1,_⟩:=(ny a ha).at_;unfold kb at h1;obtain⟨v,hv,h1⟩:=gO.1 h1;obtain⟨g,hg,he⟩:=gO.1 h1;exact⟨v,g,e,hv,hg,he⟩
 unfold Ho;rw[DF w.zd _ A (λa=>a.version) (λ_=>True),<-Jp A]
 ·congr 1
 ·intro a ha _;obtain⟨v,g,e,hv,_,_⟩:=pl a ha;have:=(dW.1 hv).1;have:=(ny a ha).pos;exact⟨this.1,aw⟩
 ·intro n v hv;rw[DF v.zo _ A (λa=>a.zg) (λa=>a.version=(n:Int))]
  ·congr 1
   refine p8 λa ha=>?_
   by_cases q:a.version=(n:Int)
   ·rw[gh q,gh ⟨trivial,q⟩]
   ·rw[dZ q,dZ (λx=>q x.2)]
  ·intro a ha q;obtain⟨v',g,e,hv',hg,_⟩:=pl a ha;rw[q]at hv';have:v'=v:=by rw[rD,hv]at hv';exact(gp hv').symm
   subst this;have:=(dW.1 hg).1;have:=(ny a ha).pos;exact⟨this.2.1,aw⟩
  ·intro j g hg;rw[DF g.ends _ A (λa=>a.end_) (λa=>a.version=(n:Int)/\a.zg=(j:Int))]
   ·intro a ha q;obtain⟨v',g',e,hv',hg',he⟩:=pl a ha;rw[q.1]at hv';have:v'=v:=by rw[rD,hv]at hv';exact(gp hv').symm
    subst this;rw[q.2,rD,hg]at hg';have:g'=g:=(gp hg').symm;subst this;have:=(dW.1 he).1;have:=(ny a ha).pos;exact⟨this.2.2.1,aw⟩
   ·intro k e he;refine h n j k e ?_;unfold kR;rw[gh ⟨aw,aw,aw⟩];unfold kb;rw[rD,hv];show(v.zo[(j:Int).toNat]?).bind _=_;rw[rD,hg];show g.ends[(k:Int).toNat]?=_;rw[rD,he]
def NH(a:fA)(i j k:Int):wA a (.act i j k)=if a.version=i/\a.zg=j/\a.end_=k then 1 else 0:=by simp[wA,qg]
def X2(a:fA)(i:Int):wA a (.fC i)=if a.listen=i then 1 else 0:=by simp[wA,qg]
def Ii(a:fA)(i j k s:Int):wA a (.slot i j k s)=if a.version=i/\a.zg=j/\a.end_=k/\a.slot=s then 1 else 0:=by simp[wA,qg]
def WS(a:fA):wA a .lock=0:=by simp[wA,qg]
def Kr(w:Wor):Nat:=Ho (λe=>e.zi.toNat) w
def GN(w:Wor):Nat:=(w.ze.map λl=>l.zi.toNat).sum
def FO{w:Wor}{A:List fA}(hA:∀k,Has w k=yE A k):∀a∈A,oO w a:=λa ha=>OY λk=>by rw[hA];exact D2 ha k
def Zd{w:Wor}{A:List fA}(hA:∀k,Has w k=yE A k):Kr w=A.length:=by
 refine Pt (FO hA) λi j k e he=>?_
 have:=hA (.act i j k);simp only[Has,he]at this;rw[this];unfold yE
 congr 1
 refine p8 λa ha=>?_
 rw[NH];by_cases q:(a.version=(i:Int)/\a.zg=(j:Int))/\a.end_=(k:Int)
 ·rw[gh q,gh ⟨q.1.1,q.1.2,q.2⟩]
 ·rw[dZ q,dZ (λx=>q ⟨⟨x.1,x.2.1⟩,x.2.2⟩)]
def Yy{w:Wor}{A:List fA}(hA:∀k,Has w k=yE A k):GN w=A.length:=by
 have ny:=FO hA;unfold GN;rw[DF w.ze _ A (λa=>a.listen) (λ_=>True),<-Jp A]
 ·congr 1
 ·exactλa ha _=>(ny a ha).fC
 ·intro n l hl;have:=hA (.fC n);simp only[Has]at this;rw[gh aw,rD,hl]at this;dsimp only at this;rw[this];unfold yE
  congr 1
  refine p8 λa ha=>?_
  rw[X2];by_cases q:a.listen=(n:Int)
  ·rw[gh q,gh ⟨trivial,q⟩]
  ·rw[dZ q,dZ (λx=>q x.2)]
def Yj{w:Wor}{A:List fA}(hA:∀k,Has w k=yE A k):w.lock.toNat=0:=by
 have:=hA .lock;simp only[Has]at this;rw[this];unfold yE;exact JS _ A λa _=>WS a
def nv(g:List fA):List fA:=(Pla.qE g).map λi=>(g[i]?).getD ⟨0,0,0,0,0,0,0,vq⟩
def Z5{g L:List fA}(h:wc g L):nv g=L:=by
 have:((Pla.qE g).map λi=>g[i]?).map (λo=>o.getD ⟨0,0,0,0,0,0,0,vq⟩)=(L.map some).map λo=>o.getD ⟨0,0,0,0,0,0,0,vq⟩:=rq _ h
 rw[rA,rA]at this
 have e:L.map ((λo=>o.getD ⟨0,0,0,0,0,0,0,vq⟩) ∘ some)=L:=by
  rw[show((λo:Option fA=>o.getD ⟨0,0,0,0,0,0,0,vq⟩) ∘ some)=id from J,List.map_id]
 rw[e]at this;exact dG
def NI{α:Type}(f:α->List fA)(k:Key):∀X:List α,(X.map λx=>yE (f x) k).sum=yE (X.flatMap f) k
 |[]=>rfl
 |x::X=>by rw[pN,ry,NI f k X,rp,CU]
def Xb{N K:Nat}{w:Wor}{X:List fB}(gi:GI N K w X)(off:∀x∈X,x.on=false):(∀k,Has w k=yE (X.flatMap λx=>nv x.given) k)/\∀x∈X,∀a∈nv x.given,a.kind=1:=by
 obtain⟨os,hl,hti,hsum⟩:=gi.own
 have each:∀(t:Nat) x o,X[t]?=some x->os[t]?=some o->(∀k,o k=yE (nv x.given) k)/\∀a∈nv x.given,a.kind=1:=λt x o hx ho=>by
  obtain⟨L,h1,h2,h3|⟨h3,_⟩⟩:=(hti t x o hx ho).open_
  ·rw[Z5 h1];exact⟨h3.2,λa ha=>(h2 a ha).1⟩
  ·have:=off x (dY hx);rw[this]at h3;cases h3
 refine⟨λk=>?_,λx hx=>?_⟩
 ·rw[hsum k,<-NI]
  congr 1
  refine pq λt=>?_
  rw[gf,gf];cases hx:X[t]? with
  |none=>
   have:os[t]?=none:=pG (by have:=pV.1 hx;omega);rw[this];rfl
  |some x=>
   obtain⟨o,ho⟩:∃o,os[t]?=some o:=⟨_,dX (by have:=(dW.1 hx).1;omega)⟩;rw[ho];show some (o k)=some _;rw[(each t x o hx ho).1]
 ·obtain⟨t,ht⟩:=gE.1 hx;obtain⟨o,ho⟩:∃o,os[t]?=some o:=⟨_,dX (by have:=(dW.1 ht).1;omega)⟩;exact(each t x o ht ho).2
def I1:∀(n:Nat) (F:List Int),F.Nodup->(∀x∈F,0<=x/\x<n)->((List.range n).map λs:Nat=>if (s:Int)∈F then 0 else 1).sum+F.length=n
 |0,F,_,h=>by
  cases F with
  |nil=>rfl
  |cons x l=>have:=h x (pT ..);omega
 |n+1,F,hd,h=>by
  rw[fc,pE,sF];show _+(if (n:Int)∈F then 0 else 1)+_=_;by_cases hm:(n:Int)∈F
  ·have ih:=I1 n (F.erase n) (hd.erase _) λx hx=>by
    have h2:=h x (List.mem_of_mem_erase hx)
    have h3:x≠n:=λe=>by
     subst e;exact absurd hx (List.Nodup.not_mem_erase hd)
    omega
   have e:((List.range n).map λs:Nat=>if (s:Int)∈F.erase n then 0 else 1)=(List.range n).map λs:Nat=>if (s:Int)∈F then 0 else 1:=p8 λs hs=>by
    have hs:=p7.1 hs;have:(s:Int)≠n:=aw
    by_cases q:(s:Int)∈F
    ·rw[gh q,gh ((List.mem_erase_of_ne this).2 q)]
    ·rw[dZ q,dZ (λz=>q ((List.mem_erase_of_ne this).1 z))]
   rw[e,List.length_erase_of_mem hm]at ih;have:=List.length_pos_of_mem hm;rw[gh hm];omega
  ·have ih:=I1 n F hd λx hx=>by
    have h2:=h x hx;have h3:x≠n:=λe=>hm (e ▸ hx)
    omega
   rw[dZ hm];omega
def V7(e:En):(Slp.qh e).1.Nodup/\∀x∈(Slp.qh e).1,0<=x/\x<e.next.length:=by
 unfold Slp.qh;split
 ·obtain⟨a,b⟩:=Slp.DZ (Slp.yK e.next (Slp.zB e)).2.2;refine⟨a,λx hx=>?_⟩;have:=b x hx;unfold Slp.iR at this;simp at this;exact dG
 ·exact⟨List.nodup_nil,λx hx=>(by cases hx)⟩
def Xc{w:Wor}{A:List fA}(hA:∀k,Has w k=yE A k):nR w=A.length:=by
 have ny:=FO hA;refine Pt (f:=Go.Wor.hE) ny λi j k e he=>?_
 obtain⟨f1,f2⟩:=V7 e;have c:=I1 e.next.length _ f1 f2;have t:=DF (List.range e.next.length) (λs:Nat=>if (s:Int)∈(Slp.qh e).1 then 0 else 1) A (λa=>a.slot) (λa=>(a.version=(i:Int)/\a.zg=(j:Int))/\a.end_=(k:Int)) (λa ha q=>?_) (λn s hs=>?_)
 ·rw[<-t];unfold Go.Wor.hE;omega
 ·obtain⟨e',h1,h2,_⟩:=(ny a ha).at_;rw[q.1.1,q.1.2,q.2]at h1;unfold kR at he;rw[gh ⟨aw,aw,aw⟩,h1]at he;cases he
  rw[uq];exact⟨(ny a ha).pos.2.2.2,h2⟩
 ·obtain⟨lt,rfl⟩:=dW.1 hs;rw[uq]at lt;rw[List.getElem_range];have:=hA (.slot i j k n);simp only[Has,he]at this
  have sl:iM e n=if (n:Int)∈(Slp.qh e).1 then 0 else 1:=by
   unfold iM;by_cases q:(n:Int)∈(Slp.qh e).1
   ·rw[gh q,dZ (λx=>x.2.2 q)]
   ·rw[dZ q,gh ⟨aw,aw,q⟩]
  rw[<-sl,this];unfold yE
  congr 1
  refine p8 λa ha=>?_
  rw[Ii];by_cases q:((a.version=(i:Int)/\a.zg=(j:Int))/\a.end_=(k:Int))/\a.slot=(n:Int)
  ·rw[gh q,gh ⟨q.1.1.1,q.1.1.2,q.1.2,q.2⟩]
  ·rw[dZ q,dZ (λx=>q ⟨⟨⟨x.1,x.2.1⟩,x.2.2.1⟩,x.2.2.2⟩)]
def ND:∀{A:List fA},(∀i j k s,yE A (.slot i j k s)<=1)->A.Pairwise λa b=>¬Ci a b
 |[],_=>List.Pairwise.nil
 |a::A,h=>by
  refine sL.2 ⟨λb hb c=>?_,ND λi j k s=>?_⟩
  ·have h1:=h a.version a.zg a.end_ a.slot;rw[wQ]at h1;have h2:=D2 hb (.slot a.version a.zg a.end_ a.slot);rw[Ii,gh ⟨c.1.symm,c.2.1.symm,c.2.2.1.symm,c.2.2.2.symm⟩]at h2;rw[Ii,gh ⟨rfl,rfl,rfl,rfl⟩]at h1;omega
  ·have:=h i j k s;rw[wQ]at this;omega
def kept{w:Wor}{X:List fB}{A:List fA}(gw:jK w)(eb:EB w X)(hA:∀k,Has w k=yE A k){a:fA}(ha:a∈A):
  0<=a.version/\0<=a.zg/\0<=a.end_/\0<=a.slot/\∃v g e,w.zd[a.version.toNat]?=some v/\v.zo[a.zg.toNat]?=some g/\g.ends[a.end_.toNat]?=some e/\a.slot∉(Slp.qh e).1/\v.zW=false:=by
 have f:=FO hA a ha;obtain⟨e,h1,_,h3⟩:=f.at_
 have ep:kR w a.version a.zg a.end_=some e:=by
  unfold kR;rw[gh ⟨f.pos.1,f.pos.2.1,f.pos.2.2.1⟩];exact h1
 unfold kb at h1;obtain⟨v,hv,h1⟩:=gO.1 h1;obtain⟨g,hg,he⟩:=gO.1 h1;refine⟨f.pos.1,f.pos.2.1,f.pos.2.2.1,f.pos.2.2.2,v,g,e,hv,hg,he,h3,?_⟩;cases hf:v.zW with
 |false=>rfl
 |true=>
  exfalso
  obtain⟨r,r1,r2,r3⟩:=w7 gw hv hf;have nil:=(eb.g1 r r1 r3).2 v (by rw[r2,rD];exact hv);have me:e∈xc v:=List.mem_flatMap.2 ⟨g,dY hg,dY he⟩;obtain⟨n,hn⟩:=gE.1 me;have a1:(lu v)[n]?=some e.zi:=by unfold lu;rw[gf,hn];rfl
  have a2:=nil n trivial (dW.1 a1).1;rw[a1]at a2;have a3:e.zi=0:=gp a2;have h:=hA (.act a.version a.zg a.end_);simp only[Has,ep]at h;have h2:=D2 ha (.act a.version a.zg a.end_);rw[NH,gh ⟨rfl,rfl,rfl⟩]at h2;omega
def Pp{N K:Nat}{s:Wor.iu}(gi:GI N K s.1 s.2.1)(l:List Int):∀k,k<=l.length->N+k<=100000000->K+k<=1099511627776->(iv s l k).2.1.length=s.2.1.length
 |0,_,_,_=>rfl
 |k+1,hk,hN,hK=>by
  have ih:=Pp gi l k aw aw aw;rw[y8 (dX aw)];rcases xi (AB gi l k aw aw aw) l[k] aw aw with⟨_,e⟩|⟨t,x,o,r,_,_,_,_,_,_,_,e,_⟩
  ·rw[e];exact ih
  ·rw[e];show(List.set _ _ _).length=_;rw[pU];exact ih
def Yo{s:Sna}{l:List ft}{n:Int}{w:Wor}(h:lx s l n=(w,0)):∀p∈w.pins,p=0:=by
 unfold lx at h;split at h
 ·exact dz
 ·have hw:_=w:=rq Prod.fst h;rw[<-hw]
  exactλp hp=>(sI.1 hp).2
def Xa{s:fR}(ok:np s)(h:(zY s).2.2=0):
  ∃b w,zY s=((zY s).1,w,0)/\Cal.ib (zY s).1=(b,0)/\(∀c∈b,∃t:Nat,c.zf=(t:Int)/\t<s.threads.length)/\
   ((∀c∈b,0<=c.fY)->∃A,A=((List.range s.threads.length).flatMap λt:Nat=>nv (mN b (t:Int)))/\Kr w=A.length/\GN w=A.length/\w.lock=0/\(∀p∈w.pins,p=0)/\nR w=A.length/\(A.Pairwise λa b=>¬Ci a b)/\
    ∀a∈A,0<=a.version/\0<=a.zg/\0<=a.end_/\0<=a.slot/\∃v g e,w.zd[a.version.toNat]?=some v/\v.zo[a.zg.toNat]?=some g/\g.ends[a.end_.toNat]?=some e/\a.slot∉(Slp.qh e).1/\v.zW=false):=by
 have hb:=DS h;obtain⟨q,hn⟩:=xj hb;obtain⟨_,_,_,p4,_,_⟩:=xE q;obtain⟨b,b1,b2,b3,b4,b5⟩:=Wc ok h;obtain⟨eb,_,e1⟩:=Yg ok h;have gi:=AB (y9 ok hb) s.zQ s.zQ.length (gC _) aw aw
 have pn0:PN (iH s).1 (iH s).2.1:=λt x hx=>by
  left
  have g0:=(y9 ok hb).len;have lt:=(dW.1 hx).1;obtain⟨y,hy⟩:∃y,(iH s).1.pins[t]?=some y:=⟨_,dX aw⟩;rw[hy,Yo hn y (dY hy)]
 have pn:=PT (y9 ok hb) pn0 s.zQ s.zQ.length (gC _) aw aw
 have len:(xe s).2.1.length=s.threads.length:=by
  have:=Pp (y9 ok hb) s.zQ s.zQ.length (gC _) aw aw;exact this.trans (gu ..)
 refine⟨b,(xe s).1,by rw[e1],b2,λc hc=>by rw[<-len];exact b5 c hc,λz8=>?_⟩;have off:=b4 z8;obtain⟨hA,_⟩:=Xb gi off
 have eA:((xe s).2.1.flatMap λx=>nv x.given)=(List.range s.threads.length).flatMap λt:Nat=>nv (mN b (t:Int)):=by
  have:(xe s).2.1.map (λx=>nv x.given)=(List.range s.threads.length).map λt:Nat=>nv (mN b (t:Int)):=pq λt=>by
   rw[gf,gf,<-len];cases hx:(xe s).2.1[t]? with
   |none=>
    have:=pV.1 hx;rw[pG (by rw[uq];exact this)]
    rfl
   |some x=>
    have:=(dW.1 hx).1;rw[rP this];show some (nv x.given)=some (nv (mN b (t:Int)));rw[b3 t x hx]
  exact rq List.flatten this
 have gw:=gi.st.ji;refine⟨_,rfl,?_⟩;rw[<-eA];refine⟨Zd hA,Yy hA,?_,?_,Xc hA,ND λi j k n=>(hA (.slot i j k n)).symm ▸ Pb _ i j k n,λa ha=>kept gw eb hA ha⟩
 ·have h1:=Yj hA;rcases(qi.1 gw.ground).lock with h2|h2
  ·exact h2
  ·exfalso
   have h2:(xe s).1.lock=1:=h2;omega
 ·intro p hp;obtain⟨t,ht⟩:=gE.1 hp;have lt:=(dW.1 ht).1;have gl:=gi.len
  obtain⟨x,hx⟩:∃x,(xe s).2.1[t]?=some x:=⟨_,dX (by
   show t<(iv (iH s) s.zQ s.zQ.length).2.1.length;have:t<(iv (iH s) s.zQ s.zQ.length).1.pins.length:=lt;omega)⟩
  rcases pn t x hx with z|⟨z,_⟩
  ·have ht:(iv (iH s) s.zQ s.zQ.length).1.pins[t]?=some p:=ht;rw[ht]at z;exact gp z
  ·have:=off x (dY hx);rw[z.1]at this;cases this
def Wb(b:List Cal)(t:Int):Saf.j5 b t=mN b t:=by
 unfold Saf.j5 mN
 congr 1
 refine eP λc _=>?_
 unfold Saf.xS mq
 congr 1
 by_cases q:c.fY<0
 ·have:¬(0<=c.fY):=by omega
  simp[q,this]
 ·have:0<=c.fY:=by omega
  simp[q,this]
def M9{b:List Cal}:∀k,k<=b.length->(Saf.vZ b k=true↔∀i c,i<k->b[i]?=some c->0<=c.fY)
 |0,_=>by simp[Saf.vZ]
 |k+1,hk=>by
  have ih:=M9 (b:=b) k aw;obtain⟨c,hc⟩:∃c,b[k]?=some c:=⟨_,dX aw⟩;show(Saf.vZ b k && Saf.xS (Saf.jE b k))=true↔_;rw[gA,ih,Saf.CL hc];have en:Saf.xS c=true↔0<=c.fY:=by unfold Saf.xS;simp
  rw[en];constructor
  ·rintro⟨h1,h2⟩ i d hi hd;by_cases q:i=k
   ·subst q;rw[hc]at hd;cases hd
    exact h2
   ·exact h1 i d aw hd
  ·intro h;exact⟨λi d hi hd=>h i d aw hd,h k c aw hc⟩
def Zg{b:List Cal}:Saf.vZ b b.length=true↔∀c∈b,0<=c.fY:=by
 rw[M9 b.length (gC _)];constructor
 ·intro h c hc;obtain⟨i,hi⟩:=gE.1 hc;exact h i c (dW.1 hi).1 hi
 ·exactλh i c _ hc=>h c (dY hc)
def Uu:∀n:Nat,((List.range n).map λt:Nat=>(t:Int)).Pairwise (· < ·):=λn=>by
 rw[List.pairwise_map];exact List.pairwise_lt_range.imp λh=>by omega
def WN{b:List Cal}{n:Nat}(h:∀c∈b,∃t:Nat,c.zf=(t:Int)/\t<n):Saf.yP b=(List.range n).flatMap λt:Nat=>nv (mN b (t:Int)):=by
 rw[Saf.F6]
 have e:((List.range n).map λt:Nat=>(t:Int)).flatMap (λt=>Saf.Ct (Saf.j5 b t))=(List.range n).flatMap λt:Nat=>nv (mN b (t:Int)):=by
  rw[List.flatMap_map];refine rq (λf=>(List.range n).flatMap f) (funext λt=>?_);rw[Wb]
  rfl
 rw[<-e];refine Saf.EZ _ _ _ (Saf.DY b).1 (Uu n) (λx hx=>?_) (λx hx hn=>?_)
 ·obtain⟨j,h1,h2⟩:=((Saf.DY b).2 x).1 hx;have hj:=dX h1;rw[Saf.CL hj]at h2;obtain⟨t,e1,e2⟩:=h _ (dY hj);exact gR.2 ⟨t,p7.2 e2,e1.symm.trans h2⟩
 ·have nil:Saf.j5 b x=[]:=by
   unfold Saf.j5
   have:b.filter (λy=>decide (y.zf=x) && Saf.xS y)=[]:=by
    rw[List.filter_eq_nil_iff];intro c hc q;simp only[gA,gH]at q;obtain⟨j,hj⟩:=gE.1 hc;exact hn (((Saf.DY b).2 x).2 ⟨j,(dW.1 hj).1,by rw[Saf.CL hj];exact q.1⟩)
   rw[this]
   rfl
  rw[nil]
  rfl
def MS{s:fR}(ok:np s)(h:(zY s).2.2=0)(z8:Saf.vZ (Cal.ib (zY s).1).1 (Cal.ib (zY s).1).1.length=true):
  (Cal.ib (zY s).1).2=0/\Kr (zY s).2.1=(Saf.yP (Cal.ib (zY s).1).1).length/\GN (zY s).2.1=(Saf.yP (Cal.ib (zY s).1).1).length/\(zY s).2.1.lock=0/\(∀p∈(zY s).2.1.pins,p=0)/\
   nR (zY s).2.1=(Saf.yP (Cal.ib (zY s).1).1).length/\((Saf.yP (Cal.ib (zY s).1).1).Pairwise λa b=>¬Ci a b)/\
   ∀a∈Saf.yP (Cal.ib (zY s).1).1,0<=a.version/\0<=a.zg/\0<=a.end_/\0<=a.slot/\∃v g e,(zY s).2.1.zd[a.version.toNat]?=some v/\v.zo[a.zg.toNat]?=some g/\g.ends[a.end_.toNat]?=some e/\a.slot∉(Slp.qh e).1/\v.zW=false:=by
 obtain⟨b,w,e1,e2,h3,h4⟩:=Xa ok h;have ew:(zY s).2.1=w:=by rw[e1]
 rw[e2]at z8;obtain⟨A,eA,hA⟩:=h4 (Zg.1 z8);rw[e2,ew,WN h3,<-eA];exact⟨rfl,hA⟩
end Go.Run
