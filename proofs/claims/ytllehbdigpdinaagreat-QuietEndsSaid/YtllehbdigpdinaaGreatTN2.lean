import Derived.Test.YtllehbdigpdinaaGreatTR
import Derived.Test.YtllehbdigpdinaaGreatTN
import Derived.Test.YtllehbdigpdinaaGreatTM
set_option linter.all false
set_option maxRecDepth 100000
set_option maxHeartbeats 4000000
namespace Go.Run
open Go.Ab Go.Proofs Tryz Go.Gat Go.Nam Go.Hos Go.Con Go.Sna Go.Pla Go.Ply Go.Wor
open Go.Hy hiding encI
variable{α:Type}{l:List α}{c:Cal}{b:List Cal}{e:fG}{X:List fM}{m:fD}{s:Wor.iC}{w:Wor}{A:List fN}
def mR(t:Int)(c:Cal):Bool:=decide (c.zf=t) && decide (0<=c.iv)
def nB(b:List Cal)(t:Int):List fN:=(b.filter (mR t)).map (·.answer)
def IJ(b:List Cal):Prop:=∀(n m:Nat) (c d:Cal),b[n]?=some c->b[m]?=some d->n<m->c.zf=d.zf->0<=c.iv
def zwX{n:Nat}{c:α}(h:l[n]?=some c):l=l.take n++c::l.drop (n+1):=by
 obtain⟨h1,h2⟩:=gh.1 h;rw[<-h2,List.getElem_cons_drop,sC]
def zug{n:Nat}{c c':α}(h:l[n]?=some c):l.set n c'=l.take n++c'::l.drop (n+1):=by
 have hl:=(gh.1 h).1;rw[List.set_eq_take_append_cons_drop,gz hl]
def zvw{n:Nat}(e:fG)(k:Nat)(t:Int)(h:b[n]?=some c)(ho:c.iv<0)(hl:∀(m:Nat) (d:Cal),n<m->b[m]?=some d->d.zf≠c.zf):
  nB (b.set n (Cal.qF e (k:Int) c)) t=nB b t++if c.zf=t/\e.done=true then [e.answer] else []:=by
 have mt:=Cal.y7 e (k:Int) c;have mo:=Cal.FY e (k:Int) c;have open_:mR t c=false:=by unfold mR;simp;omega
 have f1:(c::b.drop (n+1)).filter (mR t)=(b.drop (n+1)).filter (mR t):=by rw[fm,open_,gp ar]
 have f2:b.filter (mR t)=(b.take n).filter (mR t)++(b.drop (n+1)).filter (mR t):=by
  conv=>lhs;rw[zwX h]
  rw[sW,f1]
 unfold nB;rw[f2,zug h,sW,fm];by_cases q:c.zf=t/\e.done=true
 .rw[gz q]
  have yes:mR t (Cal.qF e (k:Int) c)=true:=by
   unfold mR;rw[mt.1,mo,gz q.2];simp[q.1]
  have no:(b.drop (n+1)).filter (mR t)=[]:=by
   rw[List.filter_eq_nil_iff];intro d hd;obtain⟨j,hj⟩:=gI.1 hd;rw[rb]at hj;have:=hl _ d aw hj;unfold mR;simp;intro z;exact absurd (z.trans q.1.symm) this
  have ea:(Cal.qF e (k:Int) c).answer=e.answer:=by unfold Cal.qF;dsimp only;rw[gz q.2]
  rw[yes,gz V,no,rA,pR,pP,ea];simp
 .rw[gp q,rA]
  have no:mR t (Cal.qF e (k:Int) c)=false:=by
   unfold mR;rw[mt.1,mo];by_cases z:c.zf=t
   .have:e.done=false:=by
     cases y:e.done with
     |false=>rfl
     |true=>exact absurd ⟨z,y⟩ q
    rw[this,gp ar];simp;omega
   .simp[z]
  rw[no,gp ar]
def zto{n:Nat}(e:fG)(k:Nat)(h:b[n]?=some c)(hl:IJ b):IJ (b.set n (Cal.qF e (k:Int) c)):=λi j x y hi hj hij ht=>by
 have mt:=Cal.y7 e (k:Int) c;have mo:=Cal.FY e (k:Int) c;have up:0<=c.iv->0<=(Cal.qF e (k:Int) c).iv:=λz=>by rw[mo];split <;> omega
 have at_:∀{i:Nat} {x:Cal},(b.set n (Cal.qF e (k:Int) c))[i]?=some x->∃x0,b[i]?=some x0/\x.zf=x0.zf/\(0<=x0.iv->0<=x.iv):=λh2=>by
  rcases xc h2 with⟨rfl,rfl,_⟩|⟨_,h2⟩
  .exact⟨c,h,mt.1,up⟩
  .exact⟨_,h2,rfl,λz=>z⟩
 obtain⟨x0,a1,a2,a3⟩:=at_ hi;obtain⟨y0,b1,b2,_⟩:=at_ hj;exact a3 (hl i j x0 y0 a1 b1 hij (by rw[<-a2,<-b2,ht]))
def zwD{b':List Cal}{k:Nat}(h:Cal.Cj b (k:Int) e=some b'):
  (e.q9=true/\b'=(b++[Cal.xn e (k:Int)]).set b.length (Cal.qF e (k:Int) (Cal.xn e (k:Int))))\/
  (e.q9=false/\∃n c,b[n]?=some c/\c.zf=e.zf/\c.iv<0/\b'=b.set n (Cal.qF e (k:Int) c)):=by
 unfold Cal.Cj at h;rcases zu h with⟨q,h⟩|⟨q,h⟩
 .rcases zC h with h|h
  .cases h
  .refine .inl ⟨q,?_⟩;have ml:(b++[Cal.xn e (k:Int)])[b.length]?=some (Cal.xn e (k:Int)):=by simp
   rw[<-Cal.kX ml];exact(gA h).symm
 .refine .inr ⟨aq q,?_⟩;split at h
  .cases h
  .rename_i n hp;obtain⟨c,hc,p1,p2⟩:=Cal.Ft hp;rcases zu h with⟨_,h⟩|⟨z,h⟩
   .cases h
   .rw[hc]at z;refine⟨n,c,hc,p1,aq z,?_⟩;rw[<-Cal.kX hc];exact(gA h).symm
structure GV(X:List fM)(b:List Cal):Prop where
 bi:BI X b
 last:IJ b
 Jn:∀(t:Nat) (x:fM),X[t]?=some x->nB b (t:Int)=x.given
def zx0{t:Nat}{x:fM}{k:Nat}(gv:GV X b)(hx:X[t]?=some x)(he:e.zf=(t:Int))(hop:e.op=x.done)(hbg:e.q9=!x.on)(hdn:e.done=m.done)(ha:m.done=true->e.answer=m.answer):
  ∃b',Cal.Cj b (k:Int) e=some b'/\GV (X.set t (Wor.ql x m)) b':=by
 obtain⟨b',h1,h2⟩:=Si (k:=k) gv.bi hx he hop hbg hdn;have hl:=(gh.1 hx).1;refine⟨b',h1,?_⟩
 have main:∀(b0:List Cal) (n:Nat) (c:Cal),b0[n]?=some c->c.zf=(t:Int)->c.iv<0->IJ b0->(∀(t':Nat) (z:fM),X[t']?=some z->nB b0 (t':Int)=z.given)->b'=b0.set n (Cal.qF e (k:Int) c)->GV (X.set t (Wor.ql x m)) b':=λb0 n c hc hth hto hlast hg hb=>by
  refine⟨h2,by rw[hb];exact zto e k hc hlast,λt' z hz=>?_⟩;have gm:=zvw e k (t':Int) hc hto λm' d fE hd q=>by have:=hlast n m' c d hc hd fE q.symm;omega
  rw[hb,gm];rcases xc hz with⟨rfl,rfl,_⟩|⟨hne,hz⟩
  .rw[hg t x hx];by_cases q:m.done=true
   .rw[gz ⟨hth,hdn.trans q⟩,Wor.vU q,ha q]
   .rw[gp (λz=>q (hdn ▸ z.2)),rA];unfold Wor.ql;rw[gp q]
  .rw[gp (λy=>hne aw),rA];exact hg t' z hz
 rcases zwD h1 with⟨q,hb⟩|⟨q,n,c,hc,p1,p2,hb⟩
 .have hoff:x.on=false:=by rw[hbg]at q;simpa using q
  have fresh:∀t':Int,mR t' (Cal.xn e (k:Int))=false:=λt'=>by unfold mR Cal.xn;simp
  refine main (b++[Cal.xn e (k:Int)]) b.length (Cal.xn e (k:Int)) aj he (by show(-1:Int)<0;decide) (λi j y z hi hj hij ht=>?_) (λt' z hz=>?_) hb
  .rcases vD hj with⟨lj,hj⟩|⟨lj,rfl⟩
   .rcases vD hi with⟨_,hi⟩|⟨li,_⟩
    .exact gv.last i j y z hi hj hij ht
    .omega
   .rcases vD hi with⟨_,hi⟩|⟨li,_⟩
    .obtain⟨t2,x2,a1,a2,a3⟩:=gv.bi.own i y hi;have:t2=t:=by have:y.zf=e.zf:=ht;omega
     subst this;rw[hx]at a2;cases a2
     rcases a3 with a3|⟨_,a3,_⟩
     .exact a3.2
     .rw[hoff]at a3;cases a3
    .omega
  .rw[<-gv.Jn t' z hz];unfold nB;rw[sW,fm,fresh,gp ar,List.filter_nil,rA]
 .exact main b n c hc (p1.trans he) p2 gv.last gv.Jn hb
structure DG(s:Wor.iC):Prop where
 bk:∃b,Cal.oR s.2.2 s.2.2.length=some b/\GV s.2.1 b
def zvv{N K:Nat}(gi:GI N K s.1 s.2.1)(ri:DG s)(p:Int)(hN:N<=100000000)(hK:K<=1099511627776):DG (xk s p):=by
 rcases jO gi p hN hK with⟨_,e⟩|⟨t,x,o,r,hat,hx,ho,hsu,htm,hst,hacc,e,gi2⟩
 .rw[e];exact ri
 .rw[e];obtain⟨v,g,en,su⟩:=xN hsu;have tl:=Fw su.done hst;have eth:r.2.2.zf=(t:Int):=tl.2.2.trans (kY o gi hx);obtain⟨b,h1,h2⟩:=ri.bk;obtain⟨b',h3,h4⟩:=zx0 (e:=ou r.2.2 x) (m:=r.2.1) (k:=s.2.2.length) h2 hx eth V V tl.1 tl.2.1;refine⟨b',?_,h4⟩;dsimp only;rw[pz];show Cal.oR _ (s.2.2.length+1)=_;simp only[Cal.oR];rw[LA _ _ _ (gG _),h1,D7];exact h3
def SL{N K:Nat}{s:Wor.iC}(gi:GI N K s.1 s.2.1)(ri:DG s)(l:List Int):∀k,k<=l.length->N+k<=100000000->K+k<=1099511627776->DG (ir s l k)
 |0,_,_,_=>ri
 |k+1,hk,hN,hK=>by
  have ih:=SL gi ri l k aw aw aw;rw[xZ (gk aw)];exact zvv (kh gi l k aw aw aw) ih _ aw aw
def Qe{s:fU}(ok:v7 s)(h:(zZ s).2.2=0):
  ∃b,Cal.oR (zZ s).1 (zZ s).1.length=some b/\(Cal.iH (zZ s).1)=(b,0)/\(∀(t:Nat) (x:fM),(q8 s).2.1[t]?=some x->nB b (t:Int)=x.given)/\((∀c∈b,0<=c.iv)->∀x∈(q8 s).2.1,x.on=false)/\∀c∈b,∃t:Nat,c.zf=(t:Int)/\t<(q8 s).2.1.length:=by
 have hb:=D5 h;have e1:zZ s=((q8 s).2.2,(q8 s).1,0):=cw
 obtain⟨q,_⟩:=jI hb;obtain⟨_,_,_,p4,_,_⟩:=jF q
 have off:∀{t:Nat} {x:fM},(s.threads.map kI)[t]?=some x->x.on=false/\x.given=[]:=λhx=>by
  obtain⟨L,_,rfl⟩:=gT.1 ((gy ..).symm.trans hx);exact dN
 have g0:DG (iE s):=by
  refine⟨[],rfl,⟨λi c h=>aR,λt x hx hon=>?_,λi j c d h=>aR⟩,λi j c d h=>aR,λt x hx=>?_⟩
  .have:=(off hx).1;rw[hon]at this;cases this
  .rw[(off hx).2];rfl
 have gv:DG (q8 s):=SL (xf ok hb) g0 s.zJ s.zJ.length (gG _) aw aw;obtain⟨b,b1,b2⟩:=gv.bk;rw[e1];refine⟨b,b1,?_,b2.Jn,λqb x hx=>?_,λc hc=>?_⟩
 .have:=(Cal.F4 (q8 s).2.2 (q8 s).2.2.length).1;rw[b1]at this;unfold Cal.iH;cases z:Cal.vZ (q8 s).2.2 (q8 s).2.2.length with
  |none=>rw[z]at this;cases this
  |some b2=>
   rw[z]at this;have:=gA this;dsimp only at this|-;rw[this]
 .obtain⟨t,ht⟩:=gI.1 hx;cases hon:x.on with
  |false=>rfl
  |true=>
   exfalso
   obtain⟨i,c,c1,c2,c3⟩:=b2.bi.on t x ht hon;obtain⟨t2,x2,a1,a2,a3⟩:=b2.bi.own i c c1;have:t2=t:=aw
   subst this;rw[ht]at a2;cases a2
   have:=qb c (gu c1);rcases a3 with a3|⟨_,_,a3⟩
   .omega
   .omega
 .obtain⟨i,hi⟩:=gI.1 hc;obtain⟨t,x,a1,a2,_⟩:=b2.bi.own i c hi;exact⟨t,a1,(gh.1 a2).1⟩
def PN(w:Wor)(X:List fM):Prop:=∀(t:Nat) (x:fM),X[t]?=some x->w.pins[t]?=some 0\/(Ha x/\1<=x.m.pc)
def zvn{v:fI}{g:Gr}{e:En}{r:Wor×fD×fG}(h:jW w m v g e=some r):r.1.pins=w.pins:=by
 unfold jW at h;rcases zC h with h|h
 .obtain rfl:=gA h;rfl
 rcases zC h with h|h
 .obtain rfl:=gA h;rfl
 rcases zC h with h|h
 .rcases zC h with h|h
  .obtain rfl:=gA h;rfl
  .obtain rfl:=gA h;rfl
 rcases zC h with h|h
 .obtain rfl:=gA h;rfl
 rcases zC h with h|h
 .unfold w9 at h;rcases zC h with h|h
  .cases h
  .obtain⟨x,_,rfl⟩:=gT.1 h
   rfl
 rcases zC h with h|h
 .obtain rfl:=gA h;rfl
 .cases h
def zyQ{N K:Nat}(gi:GI N K s.1 s.2.1)(pn:PN s.1 s.2.1)(p:Int)(hN:N<=100000000)(hK:K<=1099511627776):PN (xk s p).1 (xk s p).2.1:=by
 rcases jO gi p hN hK with⟨_,e⟩|⟨t,x,o,r,hat,hx,ho,hsu,htm,hst,_,e,gi2⟩
 .rw[e];exact pn
 .rw[e];obtain⟨v,g,en,su⟩:=xN hsu;have nt:=kY o gi hx;have no:=Bt gi hx ho;have hl:=(gh.1 hx).1;have gx:(s.2.1.set t (Wor.ql x r.2.1))[t]?=some (Wor.ql x r.2.1):=gD hl
  have mm:r.2.1.done=false->(Wor.ql x r.2.1).on=true/\(Wor.ql x r.2.1).m=r.2.1/\r.2.1.op=o:=λnd=>by
   have ho2:(Wor.ql x r.2.1).ops[(Wor.ql x r.2.1).done]?=some o:=by rw[xu nd];exact ho
   have n2:=Bt gi2 gx ho2;have e2:qk (Wor.ql x r.2.1) t o=r.2.1:=by rw[xu nd];rfl
   rw[e2]at n2;exact⟨by rw[xu nd],by rw[xu nd],n2⟩
  dsimp only;have others:∀{t':Nat} {z:fM},t'≠t->r.1.pins[t']?=s.1.pins[t']?->s.2.1[t']?=some z->r.1.pins[t']?=some 0\/(Ha z/\1<=z.m.pc):=λhne hp hz=>by rw[hp];exact pn _ _ hz
  have rest:o.kind≠1->r.1.pins=s.1.pins->PN r.1 (s.2.1.set t (Wor.ql x r.2.1)):=λhk hp t' z hz=>by
   rcases xc hz with⟨rfl,rfl,_⟩|⟨hne,hz⟩
   .rw[hp];rcases pn t x hx with h|⟨h,_⟩
    .exact .inl h
    .exfalso
     have:qk x t o=x.m:=by unfold qk;rw[h.1];rfl
     rw[this]at no;exact hk (no ▸ h.2)
   .exact others (λz=>hne z.symm) (by rw[hp]) hz
  rcases CD su hst with⟨k1,h⟩|⟨k1,h⟩|⟨k1,h⟩|⟨k1,h⟩|⟨k1,h⟩|⟨k1,h⟩
  .rw[no]at k1
   have h0:0<=(qk x t o).pc:=by
    cases hon:x.on with
    |false=>
     have e1:qk x t o=Beg.ji t o x.given:=bb
     rw[e1,kW aw];exact gO _
    |true=>
     have e1:qk x t o=x.m:=bb
     obtain⟨os,hol,hti,_⟩:=gi.own;obtain⟨ow,how⟩:∃o,os[t]?=some o:=⟨_,gk aw⟩;obtain⟨L,_,_,hh|⟨_,hh⟩⟩:=(hti t x ow hx how).open_
     .have:=hh.1;rw[hon]at this;cases this
     .obtain⟨_,_,_,_,lc⟩:=hh.lc;have kx:x.m.op.kind=1:=by rw[<-e1,no];exact k1
      rw[e1];rcases lc with⟨_,lc⟩|⟨k,_⟩|⟨k,_⟩|⟨k,_⟩|⟨k,_⟩|⟨k,_⟩
      .have:=lc.pc;omega
      all_goals omega
   have go:r.2.1.done=false->1<=r.2.1.pc->(∀t',t'≠t->r.1.pins[t']?=s.1.pins[t']?)->PN r.1 (s.2.1.set t (Wor.ql x r.2.1)):=λnd hp hpin t' z hz=>by
    rcases xc hz with⟨rfl,rfl,_⟩|⟨hne,hz⟩
    .obtain⟨a,b,c⟩:=mm nd;exact .inr ⟨⟨a,by rw[b,c];exact k1⟩,by rw[b];exact hp⟩
    .exact others (λz=>hne z.symm) (hpin _ λz=>hne z.symm) hz
   have pinned:∀(w:Wor) (n:Int) (t':Nat),t'≠t->(nT w (qk x t o).zf.toNat n).pins[t']?=w.pins[t']?:=λw n t' hne=>by
    rw[nt];show(w.pins.set t n)[t']?=_;exact pj (λz=>hne z.symm)
   rcases Hv su.done h0 h with⟨q,hw,hm⟩|⟨q,hw,hm⟩|⟨q,hw,hm⟩|⟨q,hw,hv,he,hp4,hd⟩|⟨q1,q2,hv,he,hp4,hd,qu⟩|⟨q,hw,hd⟩
   .exact go (by rw[hm];exact su.done) (by rw[hm];exact(gL au)) λ_ _=>by rw[hw]
   .exact go (by rw[hm];exact su.done) (by rw[hm];exact(gL au)) λt' hne=>by rw[hw];exact pinned _ _ t' hne
   .exact go (by rw[hm];exact su.done) (by rw[hm];dsimp only;split <;> decide) λ_ _=>by rw[hw]
   .exact go hd aw λ_ _=>by rw[hw]
   .exact go hd aw λ_ _=>by rw[qu.pins]
   .intro t' z hz;rcases xc hz with⟨rfl,rfl,_⟩|⟨hne,hz⟩
    .left
     rw[hw,nt];show(s.1.pins.set t 0)[t]?=_;have:=gi.len;exact gD aw
    .exact others (λz=>hne z.symm) (by rw[hw];exact pinned _ _ t' λz=>hne z.symm) hz
  .rw[no]at k1;have gw:=gi.st.qI;refine rest aw ?_;exact(zvn h)
  .rw[no]at k1;refine rest aw ?_;rcases Sn su.done h with⟨_,e,_⟩|⟨_,e,_⟩|⟨_,e,_⟩|⟨_,e,_⟩ <;> rw[e]
  .rw[no]at k1;exact rest aw (Re h).1.pins
  .rw[no]at k1;refine rest aw ?_;rcases GZ su.done h with⟨_,e,_⟩|⟨_,e,_⟩|⟨_,e,_⟩|⟨_,_,e,_⟩|⟨_,_,_,e,_⟩|⟨_,e,_⟩|⟨_,v,y,_,_,_,_,e,_⟩
   .exact e.pins
   .rw[e]
   .rw[e]
   .rw[e]
   .exact e.pins
   .exact e.pins
   .rw[e]
  .rw[no]at k1;exact rest aw (by rw[Rp h])
def Tz{N K:Nat}{s:Wor.iC}(gi:GI N K s.1 s.2.1)(pn:PN s.1 s.2.1)(l:List Int):∀k,k<=l.length->N+k<=100000000->K+k<=1099511627776->PN (ir s l k).1 (ir s l k).2.1
 |0,_,_,_=>pn
 |k+1,hk,hN,hK=>by
  have ih:=Tz gi pn l k aw aw aw;rw[xZ (gk aw)];exact zyQ (kh gi l k aw aw aw) ih _ aw aw
def Sd{α:Type}(f g:α->Nat):∀l:List α,(l.map λa=>f a+g a).sum=(l.map f).sum+(l.map g).sum
 |[]=>rfl
 |a::l=>by
  have:=Sd f g l;exact dH
def Mn{α:Type}(f:α->Nat):∀l:List α,(∀a∈l,f a=0)->(l.map f).sum=0
 |[],_=>rfl
 |a::l,h=>by
  have:=Mn f l λb hb=>h b (pL _ hb)
  have:=h a (pX ..);exact dH
def LP{α:Type}:∀l:List α,(l.map λ_=>1).sum=l.length
 |[]=>rfl
 |a::l=>by
  have:=LP l;simp only[pP,rI,ry];omega
def Tf{α:Type}(l:List α)(f:α->Nat)(A:List fN)(ix:fN->Int)(P:fN->Prop)[DecidablePred P](h0:∀a∈A,P a->0<=ix a)(h:∀(n:Nat) x,l[n]?=some x->f x=(A.map λa=>if P a/\ix a=(n:Int) then 1 else 0).sum):∀k:Nat,k<=l.length->((l.take k).map f).sum=(A.map λa=>if P a/\ix a<(k:Int) then 1 else 0).sum
 |0,_=>by
  rw[tz,Mn _ A]
  .rfl
  .intro a ha;rw[gp];rintro⟨q,z⟩;have:=h0 a ha q;omega
 |k+1,hk=>by
  have ih:=Tf l f A ix P h0 h k aw;rw[zw7 f l (show k<l.length by omega),ih,h k _ (gk aw),<-Sd]
  congr 1
  refine pQ λa ha=>?_
  by_cases q:P a
  .by_cases z:ix a=k
   .rw[gp aw,gz ⟨q,z⟩,gz ⟨q,aw⟩]
   .by_cases y:ix a<k
    .rw[gz ⟨q,y⟩,gp (λx=>z x.2),gz ⟨q,aw⟩]
    .rw[gp (λx=>y x.2),gp (λx=>z x.2),gp (λx=>by have:=x.2;omega)]
  .rw[gp (λx=>q x.1),gp (λx=>q x.1),gp (λx=>q x.1)]
def Fo(l:List α)(f:α->Nat)(A:List fN)(ix:fN->Int)(P:fN->Prop)[DecidablePred P](hr:∀a∈A,P a->0<=ix a/\ix a<l.length)(h:∀(n:Nat) x,l[n]?=some x->f x=(A.map λa=>if P a/\ix a=(n:Int) then 1 else 0).sum):(l.map f).sum=(A.map λa=>if P a then 1 else 0).sum:=by
 have:=Tf l f A ix P (λa ha q=>(hr a ha q).1) h l.length (gG _);rw[pI]at this;rw[this]
 congr 1
 refine pQ λa ha=>?_
 by_cases q:P a
 .rw[gz q,gz ⟨q,(hr a ha q).2⟩]
 .rw[gp q,gp (λx=>q x.1)]
def GP(f:En->Nat)(w:Wor):Nat:=(w.ze.map λv=>(v.zq.map λg=>(g.ends.map f).sum).sum).sum
def SY{f:En->Nat}(oz:∀a∈A,Az w a)(h:∀(i j k:Nat) (e:En),wE w i j k=some e->f e=(A.map λa=>if (a.version=(i:Int)/\a.zg=(j:Int))/\a.end_=(k:Int) then 1 else 0).sum):GP f w=A.length:=by
 have pl:∀a∈A,∃v g e,w.ze[a.version.toNat]?=some v/\v.zq[a.zg.toNat]?=some g/\g.ends[a.end_.toNat]?=some e:=λa ha=>by
  obtain⟨e,h1,_⟩:=(oz a ha).at_;unfold yZ at h1;obtain⟨v,hv,h1⟩:=gQ.1 h1;obtain⟨g,hg,he⟩:=gQ.1 h1;exact⟨v,g,e,hv,hg,he⟩
 unfold GP;rw[Fo w.ze _ A (λa=>a.version) (λ_=>True),<-LP A]
 .congr 1
 .intro a ha _;obtain⟨v,g,e,hv,_,_⟩:=pl a ha;have:=(gh.1 hv).1;have:=(oz a ha).pos;exact⟨this.1,aw⟩
 .intro n v hv;rw[Fo v.zq _ A (λa=>a.zg) (λa=>a.version=(n:Int))]
  .congr 1
   refine pQ λa ha=>?_
   by_cases q:a.version=(n:Int)
   .rw[gz q,gz ⟨trivial,q⟩]
   .rw[gp q,gp (λx=>q x.2)]
  .intro a ha q;obtain⟨v',g,e,hv',hg,_⟩:=pl a ha;rw[q]at hv';have:v'=v:=by rw[rK,hv]at hv';exact(gA hv').symm
   subst this;have:=(gh.1 hg).1;have:=(oz a ha).pos;exact⟨this.2.1,aw⟩
  .intro j g hg;rw[Fo g.ends _ A (λa=>a.end_) (λa=>a.version=(n:Int)/\a.zg=(j:Int))]
   .intro a ha q;obtain⟨v',g',e,hv',hg',he⟩:=pl a ha;rw[q.1]at hv';have:v'=v:=by rw[rK,hv]at hv';exact(gA hv').symm
    subst this;rw[q.2,rK,hg]at hg';have:g'=g:=(gA hg').symm;subst this;have:=(gh.1 he).1;have:=(oz a ha).pos;exact⟨this.2.2.1,aw⟩
   .intro k e he;refine h n j k e ?_;unfold wE;rw[gz ⟨aw,aw,aw⟩];unfold yZ;rw[rK,hv];show(v.zq[(j:Int).toNat]?).bind _=_;rw[rK,hg];show g.ends[(k:Int).toNat]?=_;rw[rK,he]
def Rw(a:fN)(i j k:Int):lH a (.act i j k)=if a.version=i/\a.zg=j/\a.end_=k then 1 else 0:=by simp[lH,qj]
def zwl(a:fN)(i:Int):lH a (.fP i)=if a.listen=i then 1 else 0:=by simp[lH,qj]
def Kw(a:fN)(i j k s:Int):lH a (.slot i j k s)=if a.version=i/\a.zg=j/\a.end_=k/\a.slot=s then 1 else 0:=by simp[lH,qj]
def ztS(a:fN):lH a .lock=0:=by simp[lH,qj]
def CW(w:Wor):Nat:=GP (λe=>e.zj.toNat) w
def E9(w:Wor):Nat:=(w.zc.map λl=>l.zj.toNat).sum
def HQ(hA:∀k,Has w k=yP A k):∀a∈A,Az w a:=λa ha=>R2 λk=>by rw[hA];exact F1 ha k
def zxy(hA:∀k,Has w k=yP A k):CW w=A.length:=by
 refine SY (HQ hA) λi j k e he=>?_
 have:=hA (.act i j k);simp only[Has,he]at this;rw[this];unfold yP
 congr 1
 refine pQ λa ha=>?_
 rw[Rw];by_cases q:(a.version=(i:Int)/\a.zg=(j:Int))/\a.end_=(k:Int)
 .rw[gz q,gz ⟨q.1.1,q.1.2,q.2⟩]
 .rw[gp q,gp (λx=>q ⟨⟨x.1,x.2.1⟩,x.2.2⟩)]
def zyb(hA:∀k,Has w k=yP A k):E9 w=A.length:=by
 have oz:=HQ hA;unfold E9;rw[Fo w.zc _ A (λa=>a.listen) (λ_=>True),<-LP A]
 .congr 1
 .exactλa ha _=>(oz a ha).fP
 .intro n l hl;have:=hA (.fP n);simp only[Has]at this;rw[gz aw,rK,hl]at this;dsimp only at this;rw[this];unfold yP
  congr 1
  refine pQ λa ha=>?_
  rw[zwl];by_cases q:a.listen=(n:Int)
  .rw[gz q,gz ⟨trivial,q⟩]
  .rw[gp q,gp (λx=>q x.2)]
def zvV(hA:∀k,Has w k=yP A k):w.lock.toNat=0:=by
 have:=hA .lock;simp only[Has]at this;rw[this];unfold yP;exact Mn _ A λa _=>ztS a
def oG(g:List fN):List fN:=(Pla.qG g).map λi=>(g[i]?).getD ⟨0,0,0,0,0,0,0,vd⟩
def zyB{g L:List fN}(h:wZ g L):oG g=L:=by
 have:((Pla.qG g).map λi=>g[i]?).map (λo=>o.getD ⟨0,0,0,0,0,0,0,vd⟩)=(L.map some).map λo=>o.getD ⟨0,0,0,0,0,0,0,vd⟩:=rq _ h
 rw[rC,rC]at this
 have e:L.map ((λo=>o.getD ⟨0,0,0,0,0,0,0,vd⟩) ∘ some)=L:=by
  rw[show((λo:Option fN=>o.getD ⟨0,0,0,0,0,0,0,vd⟩) ∘ some)=id from V,List.map_id]
 rw[e]at this;exact dG
def Rx{α:Type}(f:α->List fN)(k:Key):∀X:List α,(X.map λx=>yP (f x) k).sum=yP (X.flatMap f) k
 |[]=>rfl
 |x::X=>by rw[pP,rI,Rx f k X,sd,Eg]
def zvJ{N K:Nat}(gi:GI N K w X)(off:∀x∈X,x.on=false):(∀k,Has w k=yP (X.flatMap λx=>oG x.given) k)/\∀x∈X,∀a∈oG x.given,a.kind=1:=by
 obtain⟨os,hl,hti,hsum⟩:=gi.own
 have each:∀(t:Nat) x o,X[t]?=some x->os[t]?=some o->(∀k,o k=yP (oG x.given) k)/\∀a∈oG x.given,a.kind=1:=λt x o hx ho=>by
  obtain⟨L,h1,h2,h3|⟨h3,_⟩⟩:=(hti t x o hx ho).open_
  .rw[zyB h1];exact⟨h3.2,λa ha=>(h2 a ha).1⟩
  .have:=off x (gu hx);rw[this]at h3;cases h3
 refine⟨λk=>?_,λx hx=>?_⟩
 .rw[hsum k,<-Rx]
  congr 1
  refine pC λt=>?_
  rw[gy,gy];cases hx:X[t]? with
  |none=>
   have:os[t]?=none:=pM (by have:=pW.1 hx;omega);rw[this];rfl
  |some x=>
   obtain⟨o,ho⟩:∃o,os[t]?=some o:=⟨_,gk (by have:=(gh.1 hx).1;omega)⟩;rw[ho];show some (o k)=some _;rw[(each t x o hx ho).1]
 .obtain⟨t,ht⟩:=gI.1 hx;obtain⟨o,ho⟩:∃o,os[t]?=some o:=⟨_,gk (by have:=(gh.1 ht).1;omega)⟩;exact(each t x o ht ho).2
def Lr:∀(n:Nat) (F:List Int),F.Nodup->(∀x∈F,0<=x/\x<n)->((List.range n).map λs:Nat=>if (s:Int)∈F then 0 else 1).sum+F.length=n
 |0,F,_,h=>by
  cases F with
  |nil=>rfl
  |cons x l=>have:=h x (pX ..);omega
 |n+1,F,hd,h=>by
  rw[fx,pR,fp];show _+(if (n:Int)∈F then 0 else 1)+_=_;by_cases hm:(n:Int)∈F
  .have ih:=Lr n (F.erase n) (hd.erase _) λx hx=>by
    have h2:=h x (List.mem_of_mem_erase hx)
    have h3:x≠n:=λe=>by
     subst e;exact absurd hx (List.Nodup.not_mem_erase hd)
    omega
   have e:((List.range n).map λs:Nat=>if (s:Int)∈F.erase n then 0 else 1)=(List.range n).map λs:Nat=>if (s:Int)∈F then 0 else 1:=pQ λs hs=>by
    have hs:=rG.1 hs;have:(s:Int)≠n:=aw
    by_cases q:(s:Int)∈F
    .rw[gz q,gz ((List.mem_erase_of_ne this).2 q)]
    .rw[gp q,gp (λz=>q ((List.mem_erase_of_ne this).1 z))]
   rw[e,List.length_erase_of_mem hm]at ih;have:=List.length_pos_of_mem hm;rw[gz hm];omega
  .have ih:=Lr n F hd λx hx=>by
    have h2:=h x hx;have h3:x≠n:=λe=>hm (e ▸ hx)
    omega
   rw[gp hm];omega
def zsW(e:En):(Slp.qB e).1.Nodup/\∀x∈(Slp.qB e).1,0<=x/\x<e.next.length:=by
 unfold Slp.qB;split
 .obtain⟨a,b⟩:=Slp.FL (Slp.vr e.next (Slp.zA e)).2.2;refine⟨a,λx hx=>?_⟩;have:=b x hx;unfold Slp.lK at this;simp at this;exact dG
 .exact⟨List.nodup_nil,λx hx=>(by cases hx)⟩
def zvK(hA:∀k,Has w k=yP A k):Bz w=A.length:=by
 have oz:=HQ hA;refine SY (f:=Go.Wor.hE) oz λi j k e he=>?_
 obtain⟨f1,f2⟩:=zsW e;have c:=Lr e.next.length _ f1 f2;have t:=Fo (List.range e.next.length) (λs:Nat=>if (s:Int)∈(Slp.qB e).1 then 0 else 1) A (λa=>a.slot) (λa=>(a.version=(i:Int)/\a.zg=(j:Int))/\a.end_=(k:Int)) (λa ha q=>?_) (λn s hs=>?_)
 .rw[<-t];unfold Go.Wor.hE;omega
 .obtain⟨e',h1,h2,_⟩:=(oz a ha).at_;rw[q.1.1,q.1.2,q.2]at h1;unfold wE at he;rw[gz ⟨aw,aw,aw⟩,h1]at he;cases he
  rw[fe];exact⟨(oz a ha).pos.2.2.2,h2⟩
 .obtain⟨lt,rfl⟩:=gh.1 hs;rw[fe]at lt;rw[List.getElem_range];have:=hA (.slot i j k n);simp only[Has,he]at this
  have sl:lb e n=if (n:Int)∈(Slp.qB e).1 then 0 else 1:=by
   unfold lb;by_cases q:(n:Int)∈(Slp.qB e).1
   .rw[gz q,gp (λx=>x.2.2 q)]
   .rw[gp q,gz ⟨aw,aw,q⟩]
  rw[<-sl,this];unfold yP
  congr 1
  refine pQ λa ha=>?_
  rw[Kw];by_cases q:((a.version=(i:Int)/\a.zg=(j:Int))/\a.end_=(k:Int))/\a.slot=(n:Int)
  .rw[gz q,gz ⟨q.1.1.1,q.1.1.2,q.1.2,q.2⟩]
  .rw[gp q,gp (λx=>q ⟨⟨⟨x.1,x.2.1⟩,x.2.2.1⟩,x.2.2.2⟩)]
def QW:∀{A:List fN},(∀i j k s,yP A (.slot i j k s)<=1)->A.Pairwise λa b=>¬EI a b
 |[],_=>List.Pairwise.nil
 |a::A,h=>by
  refine sX.2 ⟨λb hb c=>?_,QW λi j k s=>?_⟩
  .have h1:=h a.version a.zg a.end_ a.slot;rw[DZ]at h1;have h2:=F1 hb (.slot a.version a.zg a.end_ a.slot);rw[Kw,gz ⟨c.1.symm,c.2.1.symm,c.2.2.1.symm,c.2.2.2.symm⟩]at h2;rw[Kw,gz ⟨rfl,rfl,rfl,rfl⟩]at h1;omega
  .have:=h i j k s;rw[DZ]at this;omega
def kept(gw:qQ w)(eb:EB w X)(hA:∀k,Has w k=yP A k){a:fN}(ha:a∈A):
  0<=a.version/\0<=a.zg/\0<=a.end_/\0<=a.slot/\∃v g e,w.ze[a.version.toNat]?=some v/\v.zq[a.zg.toNat]?=some g/\g.ends[a.end_.toNat]?=some e/\a.slot∉(Slp.qB e).1/\v.qX=false:=by
 have f:=HQ hA a ha;obtain⟨e,h1,_,h3⟩:=f.at_
 have ep:wE w a.version a.zg a.end_=some e:=by
  unfold wE;rw[gz ⟨f.pos.1,f.pos.2.1,f.pos.2.2.1⟩];exact h1
 unfold yZ at h1;obtain⟨v,hv,h1⟩:=gQ.1 h1;obtain⟨g,hg,he⟩:=gQ.1 h1;refine⟨f.pos.1,f.pos.2.1,f.pos.2.2.1,f.pos.2.2.2,v,g,e,hv,hg,he,h3,?_⟩;cases hf:v.qX with
 |false=>rfl
 |true=>
  exfalso
  obtain⟨r,r1,r2,r3⟩:=Fp gw hv hf;have nil:=(eb.g1 r r1 r3).2 v (by rw[r2,rK];exact hv);have me:e∈qv v:=uc.2 ⟨g,gu hg,gu he⟩;obtain⟨n,hn⟩:=gI.1 me;have a1:(mj v)[n]?=some e.zj:=by unfold mj;rw[gy,hn];rfl
  have a2:=nil n trivial (gh.1 a1).1;rw[a1]at a2;have a3:e.zj=0:=gA a2;have h:=hA (.act a.version a.zg a.end_);simp only[Has,ep]at h;have h2:=F1 ha (.act a.version a.zg a.end_);rw[Rw,gz ⟨rfl,rfl,rfl⟩]at h2;omega
def SG{N K:Nat}{s:Wor.iC}(gi:GI N K s.1 s.2.1)(l:List Int):∀k,k<=l.length->N+k<=100000000->K+k<=1099511627776->(ir s l k).2.1.length=s.2.1.length
 |0,_,_,_=>rfl
 |k+1,hk,hN,hK=>by
  have ih:=SG gi l k aw aw aw;rw[xZ (gk aw)];rcases jO (kh gi l k aw aw aw) l[k] aw aw with⟨_,e⟩|⟨t,x,o,r,_,_,_,_,_,_,_,e,_⟩
  .rw[e];exact ih
  .rw[e];show(List.set _ _ _).length=_;rw[pV];exact ih
def zv8{s:Sna}{l:List fK}{n:Int}(h:lx s l n=(w,0)):∀p∈w.pins,p=0:=by
 unfold lx at h;split at h
 .have:=rq Prod.snd h;exact absurd (show(1:Int)=0 from this) ar
 .have hw:_=w:=rq Prod.fst h;rw[<-hw]
  exactλp hp=>(sU.1 hp).2
def zvI{s:fU}(ok:v7 s)(h:(zZ s).2.2=0):
  ∃b w,zZ s=((zZ s).1,w,0)/\Cal.iH (zZ s).1=(b,0)/\(∀c∈b,∃t:Nat,c.zf=(t:Int)/\t<s.threads.length)/\
   ((∀c∈b,0<=c.iv)->∃A,A=((List.range s.threads.length).flatMap λt:Nat=>oG (nB b (t:Int)))/\CW w=A.length/\E9 w=A.length/\w.lock=0/\(∀p∈w.pins,p=0)/\Bz w=A.length/\(A.Pairwise λa b=>¬EI a b)/\
    ∀a∈A,0<=a.version/\0<=a.zg/\0<=a.end_/\0<=a.slot/\∃v g e,w.ze[a.version.toNat]?=some v/\v.zq[a.zg.toNat]?=some g/\g.ends[a.end_.toNat]?=some e/\a.slot∉(Slp.qB e).1/\v.qX=false):=by
 have hb:=D5 h;obtain⟨q,hn⟩:=jI hb;obtain⟨_,_,_,p4,_,_⟩:=jF q;obtain⟨b,b1,b2,b3,b4,b5⟩:=Qe ok h;obtain⟨eb,_,e1⟩:=zwQ ok h;have gi:=kh (xf ok hb) s.zJ s.zJ.length (gG _) aw aw
 have pn0:PN (iE s).1 (iE s).2.1:=λt x hx=>by
  left
  have g0:=(xf ok hb).len;have lt:=(gh.1 hx).1;obtain⟨y,hy⟩:∃y,(iE s).1.pins[t]?=some y:=⟨_,gk aw⟩;rw[hy,zv8 hn y (gu hy)]
 have pn:=Tz (xf ok hb) pn0 s.zJ s.zJ.length (gG _) aw aw
 have len:(q8 s).2.1.length=s.threads.length:=by
  have:=SG (xf ok hb) s.zJ s.zJ.length (gG _) aw aw;exact this.trans (gC ..)
 refine⟨b,(q8 s).1,by rw[e1],b2,λc hc=>by rw[<-len];exact b5 c hc,λqb=>?_⟩;have off:=b4 qb;obtain⟨hA,_⟩:=zvJ gi off
 have eA:((q8 s).2.1.flatMap λx=>oG x.given)=(List.range s.threads.length).flatMap λt:Nat=>oG (nB b (t:Int)):=by
  have:(q8 s).2.1.map (λx=>oG x.given)=(List.range s.threads.length).map λt:Nat=>oG (nB b (t:Int)):=pC λt=>by
   rw[gy,gy,<-len];cases hx:(q8 s).2.1[t]? with
   |none=>
    have:=pW.1 hx;rw[pM (by rw[fe];exact this)]
    rfl
   |some x=>
    have:=(gh.1 hx).1;rw[rU this];show some (oG x.given)=some (oG (nB b (t:Int)));rw[b3 t x hx]
  exact rq List.flatten this
 have gw:=gi.st.qI;refine⟨_,rfl,?_⟩;rw[<-eA];refine⟨zxy hA,zyb hA,?_,?_,zvK hA,QW λi j k n=>(hA (.slot i j k n)).symm ▸ SC _ i j k n,λa ha=>kept gw eb hA ha⟩
 .have h1:=zvV hA;rcases(zU.1 gw.ground).lock with h2|h2
  .exact h2
  .exfalso
   have h2:(q8 s).1.lock=1:=h2;omega
 .intro p hp;obtain⟨t,ht⟩:=gI.1 hp;have lt:=(gh.1 ht).1;have gl:=gi.len
  obtain⟨x,hx⟩:∃x,(q8 s).2.1[t]?=some x:=⟨_,gk (by
   show t<(ir (iE s) s.zJ s.zJ.length).2.1.length;have:t<(ir (iE s) s.zJ s.zJ.length).1.pins.length:=lt;omega)⟩
  rcases pn t x hx with z|⟨z,_⟩
  .have ht:(ir (iE s) s.zJ s.zJ.length).1.pins[t]?=some p:=ht;rw[ht]at z;exact gA z
  .have:=off x (gu hx);rw[z.1]at this;cases this
def ZY(b:List Cal)(t:Int):Saf.j7 b t=nB b t:=by
 unfold Saf.j7 nB
 congr 1
 refine List.filter_congr λc _=>?_
 unfold Saf.x4 mR
 congr 1
 by_cases q:c.iv<0
 .have:¬(0<=c.iv):=by omega
  simp[q,this]
 .have:0<=c.iv:=by omega
  simp[q,this]
def Qs{b:List Cal}:∀k,k<=b.length->(Saf.kc b k=true↔∀i c,i<k->b[i]?=some c->0<=c.iv)
 |0,_=>by simp[Saf.kc]
 |k+1,hk=>by
  have ih:=Qs (b:=b) k aw;obtain⟨c,hc⟩:∃c,b[k]?=some c:=⟨_,gk aw⟩;show(Saf.kc b k && Saf.x4 (Saf.jH b k))=true↔_;rw[gH,ih,Saf.D8 hc];have en:Saf.x4 c=true↔0<=c.iv:=by unfold Saf.x4;simp
  rw[en];constructor
  .rintro⟨h1,h2⟩ i d hi hd;by_cases q:i=k
   .subst q;rw[hc]at hd;cases hd
    exact h2
   .exact h1 i d aw hd
  .intro h;exact⟨λi d hi hd=>h i d aw hd,h k c aw hc⟩
def Sf:Saf.kc b b.length=true↔∀c∈b,0<=c.iv:=by
 rw[Qs b.length (gG _)];constructor
 .intro h c hc;obtain⟨i,hi⟩:=gI.1 hc;exact h i c (gh.1 hi).1 hi
 .exactλh i c _ hc=>h c (gu hc)
def Zi:∀n:Nat,((List.range n).map λt:Nat=>(t:Int)).Pairwise (· < ·):=λn=>by
 rw[List.pairwise_map];exact List.pairwise_lt_range.imp λh=>by omega
def ztO{n:Nat}(h:∀c∈b,∃t:Nat,c.zf=(t:Int)/\t<n):Saf.y8 b=(List.range n).flatMap λt:Nat=>oG (nB b (t:Int)):=by
 rw[Saf.zyu]
 have e:((List.range n).map λt:Nat=>(t:Int)).flatMap (λt=>Saf.DC (Saf.j7 b t))=(List.range n).flatMap λt:Nat=>oG (nB b (t:Int)):=by
  rw[List.flatMap_map];refine rq (λf=>(List.range n).flatMap f) (funext λt=>?_);rw[ZY]
  rfl
 rw[<-e];refine Saf.G0 _ _ _ (Saf.FT b).1 (Zi n) (λx hx=>?_) (λx hx hn=>?_)
 .obtain⟨j,h1,h2⟩:=((Saf.FT b).2 x).1 hx;have hj:=gk h1;rw[Saf.D8 hj]at h2;obtain⟨t,e1,e2⟩:=h _ (gu hj);exact gY.2 ⟨t,rG.2 e2,e1.symm.trans h2⟩
 .have nil:Saf.j7 b x=[]:=by
   unfold Saf.j7
   have:b.filter (λy=>decide (y.zf=x) && Saf.x4 y)=[]:=by
    rw[List.filter_eq_nil_iff];intro c hc q;simp only[gH,gR]at q;obtain⟨j,hj⟩:=gI.1 hc;exact hn (((Saf.FT b).2 x).2 ⟨j,(gh.1 hj).1,by rw[Saf.D8 hj];exact q.1⟩)
   rw[this]
   rfl
  rw[nil]
  rfl
def zsN{s:fU}(ok:v7 s)(h:(zZ s).2.2=0)(qb:Saf.kc (Cal.iH (zZ s).1).1 (Cal.iH (zZ s).1).1.length=true):
  (Cal.iH (zZ s).1).2=0/\CW (zZ s).2.1=(Saf.y8 (Cal.iH (zZ s).1).1).length/\E9 (zZ s).2.1=(Saf.y8 (Cal.iH (zZ s).1).1).length/\(zZ s).2.1.lock=0/\(∀p∈(zZ s).2.1.pins,p=0)/\
   Bz (zZ s).2.1=(Saf.y8 (Cal.iH (zZ s).1).1).length/\((Saf.y8 (Cal.iH (zZ s).1).1).Pairwise λa b=>¬EI a b)/\
   ∀a∈Saf.y8 (Cal.iH (zZ s).1).1,0<=a.version/\0<=a.zg/\0<=a.end_/\0<=a.slot/\∃v g e,(zZ s).2.1.ze[a.version.toNat]?=some v/\v.zq[a.zg.toNat]?=some g/\g.ends[a.end_.toNat]?=some e/\a.slot∉(Slp.qB e).1/\v.qX=false:=by
 obtain⟨b,w,e1,e2,h3,h4⟩:=zvI ok h;have ew:(zZ s).2.1=w:=by rw[e1]
 rw[e2]at qb;obtain⟨A,eA,hA⟩:=h4 (Sf.1 qb);rw[e2,ew,ztO h3,<-eA];exact⟨rfl,hA⟩
end Go.Run
