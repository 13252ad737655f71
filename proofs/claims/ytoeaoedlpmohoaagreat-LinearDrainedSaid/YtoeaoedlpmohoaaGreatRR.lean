import Derived.Test.YtoeaoedlpmohoaaGreatRQ
import Derived.Test.YtoeaoedlpmohoaaGreatR0
set_option linter.all false
set_option maxRecDepth 100000
set_option maxHeartbeats 4000000
namespace Go.Run
open Go.Ab Go.Proofs Tryz Go.Gat Go.Nam Go.Hos Go.Con Go.Sna Go.Pla Go.Ply Go.Wor
open Go.Hy hiding encI
def Ke(k:Nat)(a:fF):Nat:=if 1<=a.kind/\a.kind<=5/\(k=0\/a.kind=k) then 1 else 0
def PL(k:Nat)(m:fq):Nat:=if m.op.kind=1/\m.done=false/\(if k=0 then 22 else 21)<=m.pc then Ke k m.answer else 0
def PM(k:Nat)(x:fN):Nat:=if x.on=true then PL k x.m else 0
def PK(k:Nat)(e:fx):Nat:=if e.done=true then Ke k e.answer else 0
def zyc(k:Nat)(l:List (List Int)):Int:=(l.map λr=>(r[k]?).getD 0).sum
def oa(e:fx):Prop:=e.cell=10/\e.access=3
def wE(K:List Int)(w:Wor)(m:fq)(r:Wor×fq×fx):Prop:=r.1.counts=w.counts/\r.2.1.op=m.op/\(r.2.1.done=true->r.2.1.answer.kind∈K)/\¬oa r.2.2
def D4{e:fx}(h:e.cell≠10):¬oa e:=λz=>h z.1
def Cl{K:List Int}{α:Type}{w:Wor}{m:fq}{o:Option α}{f:α->Wor×fq×fx}{r:Wor×fq×fx}(h:o.map f=some r)(hf:∀x,wE K w m (f x)):wE K w m r:=by
 obtain⟨x,_,rfl⟩:=gU.1 h;exact hf x
def Xf{K:List Int}{w:Wor}{m:fq}{f:fQ->Wor×fq×fx}{r:Wor×fq×fx}(h:wa w m f=some r)(hf:∀x,wE K w m (f x)):wE K w m r:=by
 unfold wa at h;rcases zA h with h|h
 ·cases h
 ·exact Cl h hf
def xk{K:List Int}{w w':Wor}{m m':fq}{e:fx}(h1:w'.counts=w.counts)(h2:m'.op=m.op)(h3:m'.done=false)(h4:e.cell≠10:=by exact pA au):wE K w m (w',m',e):=⟨h1,h2,λq=>absurd (q.symm.trans h3) ar,D4 h4⟩
def ku{K:List Int}{w w':Wor}{m m':fq}{e:fx}(h1:w'.counts=w.counts)(h2:m'.op=m.op)(h3:m'.answer.kind∈K)(h4:e.cell≠10:=by exact pA au):wE K w m (w',m',e):=⟨h1,h2,λ_=>h3,D4 h4⟩
def Hh{w:Wor}{m:fq}{v:fB}{g:Gr}{e:En}{r:Wor×fq×fx}(hd:m.done=false)(h:xv w m v g e=some r):wE [6,7] w m r:=by
 unfold xv at h;rcases zA h with h|h
 ·obtain rfl:=gF h;exact dI
 rcases zA h with h|h
 ·obtain rfl:=gF h;exact dI
 rcases zA h with h|h
 ·rcases zA h with h|h
  ·obtain rfl:=gF h;exact dI
  ·obtain rfl:=gF h;exact dI
 rcases zA h with h|h
 ·obtain rfl:=gF h;exact dI
 rcases zA h with h|h
 ·exact Xf h λx=>ku rfl rfl (by exact pA au)
 rcases zA h with h|h
 ·obtain rfl:=gF h;exact dJ
 ·cases h
def HW{w:Wor}{m:fq}{r:Wor×fq×fx}(hd:m.done=false)(h:m9 w m=some r):wE [8,9] w m r:=by
 unfold m9 at h;rcases zA h with h|h
 ·rcases zA h with h|h
  ·obtain rfl:=gF h;exact dI
  ·obtain rfl:=gF h;exact dJ
 rcases zA h with h|h
 ·obtain rfl:=gF h;exact dI
 rcases zA h with h|h
 ·rcases zA h with h|h
  ·cases h
  ·obtain rfl:=gF h;exact dJ
 ·cases h
def Ll{w:Wor}{m:fq}{r:Wor×fq×fx}(hd:m.done=false)(h:yZ w m=some r):wE [7,10] w m r:=by
 unfold yZ at h;rcases zA h with h|h
 ·rcases zA h with h|h
  ·obtain rfl:=gF h;exact dJ
  ·exact Cl h λx=>ku rfl rfl (by exact pA au)
 ·cases h
def N2(w:Wor)(m m0:fq)(hd:m.done=false)(ho:m.op=m0.op):wE [11,12] w m0 (mY w m):=by
 unfold mY;split
 ·exact ku rfl ho (by exact pA au)
 ·refine xk rfl ?_ ?_
  ·unfold BE;repeat' split
   all_goals exact ho
  ·unfold BE;repeat' split
   all_goals exact hd
def G8{w:Wor}{m:fq}{r:Wor×fq×fx}(hd:m.done=false)(h:xu w m=some r):wE [11,12] w m r:=by
 unfold xu at h;rcases zA h with h|h
 ·obtain rfl:=gF h;split
  ·exact dI
  ·exact dJ
 rcases zA h with h|h
 ·obtain rfl:=gF h;exact dI
 rcases zA h with h|h
 ·refine Cl h λx=>xk rfl ?_ ?_
  ·unfold Av;repeat' split
   all_goals rfl
  ·unfold Av;repeat' split
   all_goals exact hd
 rcases zA h with h|h
 ·obtain rfl:=gF h;split
  ·exact dI
  ·exact dI
 rcases zA h with h|h
 ·obtain rfl:=gF h;split
  ·exact N2 w (iP m 8 0) m hd rfl
  ·refine xk rfl ?_ ?_
   ·unfold Au;repeat' split
    all_goals rfl
   ·unfold Au;repeat' split
    all_goals exact hd
 rcases zA h with h|h
 ·obtain⟨v,_,h⟩:=pj.1 h;refine Cl h λx=>xk rfl ?_ ?_
  ·unfold AX;repeat' split
   all_goals rfl
  ·unfold AX;repeat' split
   all_goals exact hd
 rcases zA h with h|h
 ·obtain⟨v,_,h⟩:=pj.1 h;obtain⟨x,_,h⟩:=pj.1 h;rcases zA h with h|h
  ·obtain rfl:=gF h;exact dI
  ·cases h
 rcases zA h with h|h
 ·obtain rfl:=gF h;exact N2 w m m hd rfl
 rcases zA h with h|h
 ·refine Cl h λx=>xk rfl ?_ ?_
  ·split <;> rfl
  ·split <;> exact hd
 rcases zA h with h|h
 ·obtain⟨v,_,h⟩:=pj.1 h;rcases zA h with h|h
  ·obtain rfl:=gF h;exact dI
  ·cases h
 ·cases h
def Ms(w:Wor)(m:fq)(n:Int):(jv w m n).op=m.op/\((jv w m n).done=m.done\/(jv w m n).answer.kind=13):=by
 unfold jv;dsimp only;repeat' split
 all_goals exact⟨rfl,by first|exact .inl rfl|exact .inr rfl⟩
def HH{w:Wor}{m:fq}{r:Wor×fq×fx}(hd:m.done=false)(h:yR w m=some r):wE [13] w m r:=by
 unfold yR at h;rcases zA h with h|h
 ·obtain⟨v,_,h⟩:=pj.1 h;refine Cl h λx=>⟨rfl,(Ms w m x).1,λq=>?_,λz=>absurd (show(1:Int)=3 from z.2) ar⟩
  dsimp only at q ⊢;rcases(Ms w m x).2 with z|z
  ·exact absurd (hd.symm.trans (z.symm.trans q)) ar
  ·exact gS.2 z
 ·cases h
def qf{α:Type}{c:Prop}[Decidable c]{a b x:α}(h:(if c then a else b)=x):(c/\a=x)\/(¬c/\b=x):=by
 by_cases q:c
 ·rw[gC q]at h;exact .inl ⟨q,h⟩
 ·rw[gu q]at h;exact .inr ⟨q,h⟩
def Cb(w:Wor)(m:fq)(r:Wor×fq×fx):Prop:=
 (r.1.counts=w.counts/\m.pc<20/\r.2.1.pc<=20/\r.2.1.done=false/\¬oa r.2.2)\/
 (∃(k:Nat) (r0:List Int) (x:Int),w.counts[m.zf.toNat]?=some r0/\r0[k]?=some x/\r.1.counts=w.counts.set m.zf.toNat (r0.set k (IntKind.u64.wrap (x+1)))/\(oa r.2.2/\r.2.2.value=k)/\((m.pc=20/\k=(oK m.answer.kind).toNat/\r.2.1={ m with pc:=21 })\/(m.pc=21/\k=0/\∃p,22<=p/\r.2.1={ m with pc:=p })))\/
 (r.1.counts=w.counts/\22<=m.pc/\¬oa r.2.2/\(r.2.1={ m with pc:=23 }\/r.2.1={ m with done:=true }))
def FV{α:Type}{w:Wor}{m:fq}{o:Option α}{f:α->Wor×fq×fx}{r:Wor×fq×fx}(h:o.map f=some r)(hf:∀x,Cb w m (f x)):Cb w m r:=by
 obtain⟨x,_,rfl⟩:=gU.1 h;exact hf x
def I0{w:Wor}{m:fq}{f:fQ->Wor×fq×fx}{r:Wor×fq×fx}(h:wa w m f=some r)(hf:∀x,Cb w m (f x)):Cb w m r:=by
 unfold wa at h;rcases zA h with h|h
 ·cases h
 ·exact FV h hf
def vw{w w':Wor}{m m':fq}{e:fx}(h1:w'.counts=w.counts)(h2:m.pc<20)(h3:m'.pc<=20)(h4:m'.done=false)(h5:e.cell≠10:=by exact pA au):Cb w m (w',m',e):=.inl ⟨h1,h2,h3,h4,D4 h5⟩
def Dx{w:Wor}{m:fq}{k p:Int}{r:Wor×fq×fx}(h:vO w m k p=some r):∃r0 x,w.counts[m.zf.toNat]?=some r0/\r0[k.toNat]?=some x/\r.1.counts=w.counts.set m.zf.toNat (r0.set k.toNat (IntKind.u64.wrap (x+1)))/\(oa r.2.2/\r.2.2.value=k)/\r.2.1={ m with pc:=p }:=by
 unfold vO at h;split at h
 ·cases h
 ·rename_i r0 h0;split at h
  ·cases h
  ·rename_i x hx;obtain rfl:=gF h;exact⟨r0,x,h0,hx,rfl,⟨⟨rfl,rfl⟩,rfl⟩,rfl⟩
def Hr{w:Wor}{m:fq}{v:fB}{g:Gr}{e:En}{r:Wor×fq×fx}(hd:m.done=false)(h:z8 w m v g e=some r):Cb w m r:=by
 have rt:m.pc<=20->(xi m v).pc<=20:=λh=>by
  unfold xi;repeat' split
  all_goals first|exact h|exact pA au
 have rd:(xi m v).done=false:=by
  unfold xi;repeat' split
  all_goals exact hd
 unfold z8 at h;rcases qf h with⟨p,h⟩|⟨p,h⟩
 ·unfold oT at h;rcases zA h with h|h
  ·obtain rfl:=gF h;exact vw rfl aw (by show(1:Int)<=20;decide) hd
  rcases zA h with h|h
  ·obtain rfl:=gF h;exact vw rfl aw (by show(2:Int)<=20;decide) hd
  rcases zA h with h|h
  ·obtain rfl:=gF h;exact vw rfl aw (by dsimp only;split <;> decide) hd
  ·cases h
 rcases qf h with⟨p,h⟩|⟨_,h⟩
 ·obtain rfl:=gF h;refine vw rfl aw ?_ ?_
  ·split
   ·show(20:Int)<=20;decide
   ·show(4:Int)<=20;decide
  ·split <;> exact hd
 rcases qf h with⟨p,h⟩|⟨_,h⟩
 ·exact I0 h λx=>vw rfl aw (by show(5:Int)<=20;decide) hd
 rcases qf h with⟨p,h⟩|⟨_,h⟩
 ·refine I0 h λx=>vw rfl aw ?_ ?_ (by split <;> exact pA au)
  ·split
   ·show(20:Int)<=20;decide
   ·exact rt aw
  ·split
   ·exact hd
   ·exact rd
 rcases qf h with⟨p,h⟩|⟨_,h⟩
 ·exact FV h λx=>vw rfl aw (by show(9:Int)<=20;decide) hd
 rcases qf h with⟨p,h⟩|⟨_,h⟩
 ·obtain rfl:=gF h;exact vw rfl aw (by show(8:Int)<=20;decide) hd
 rcases qf h with⟨p,h⟩|⟨_,h⟩
 ·exact FV h λx=>vw rfl aw (by show(9:Int)<=20;decide) hd
 rcases qf h with⟨p,h⟩|⟨_,h⟩
 ·obtain rfl:=gF h;refine vw rfl aw ?_ ?_
  ·split
   ·show(10:Int)<=20;decide
   ·show(20:Int)<=20;decide
  ·split <;> exact hd
 rcases qf h with⟨p,h⟩|⟨_,h⟩
 ·exact FV h λx=>vw rfl aw (by show(11:Int)<=20;decide) hd
 rcases qf h with⟨p,h⟩|⟨_,h⟩
 ·rcases zA h with h|h
  ·obtain rfl:=gF h;exact vw rfl aw (by show(12:Int)<=20;decide) hd
  ·obtain rfl:=gF h;exact vw rfl aw (by show(9:Int)<=20;decide) hd
 rcases qf h with⟨p,h⟩|⟨_,h⟩
 ·obtain rfl:=gF h;exact vw rfl aw (by show(20:Int)<=20;decide) hd
 rcases qf h with⟨p,h⟩|⟨_,h⟩
 ·obtain⟨r0,x,a1,a2,a3,⟨a5,a6⟩,a4⟩:=Dx h;exact .inr (.inl ⟨_,r0,x,a1,a2,a3,⟨a5,by rw[a6];unfold oK;split <;> omega⟩,.inl ⟨p,rfl,a4⟩⟩)
 rcases qf h with⟨p,h⟩|⟨_,h⟩
 ·obtain⟨r0,x,a1,a2,a3,a5,a4⟩:=Dx h;exact .inr (.inl ⟨0,r0,x,a1,a2,a3,a5,.inr ⟨p,rfl,_,by split <;> decide,a4⟩⟩)
 rcases qf h with⟨p,h⟩|⟨_,h⟩
 ·refine I0 h λx=>.inr (.inr ⟨rfl,aw,D4 (pA au),.inl rfl⟩)
 rcases qf h with⟨p,h⟩|⟨_,h⟩
 ·obtain rfl:=gF h;exact .inr (.inr ⟨rfl,aw,D4 (pA au),.inr rfl⟩)
 ·cases h
structure CI(N:Nat)(s:Wor.iE):Prop where
 col:∀k,k<6->zyc k s.1.counts=(((s.2.2.map (PK k)).sum+(s.2.1.map (PM k)).sum:Nat):Int)
 low:∀r∈s.1.counts,∀x∈r,0<=x/\x<=(N:Int)
 on:s.2.2.countP (·.qN)=s.2.2.countP (·.done)+s.2.1.countP (·.on)
def Ow{N K:Nat}{w:Wor}{X:List fN}{t:Nat}{x:fN}{o:fG}(gi:GI N K w X)(hx:X[t]?=some x):(jo x t o).op.kind=1->20<=(jo x t o).pc->1<=(jo x t o).answer.kind/\(jo x t o).answer.kind<=5:=by
 cases hon:x.on with
 |false=>
  intro hk hp;have e:jo x t o=Beg.xa t o x.given:=aW
  rw[e]at hk hp;by_cases h:o.kind=2
  ·have:(Beg.xa t o x.given).op.kind=2:=by
    unfold Beg.xa;rw[gC h];unfold Beg.k9;repeat' split
    all_goals exact h
   omega
  ·rw[wx h]at hp;exact absurd (show(20:Int)<=0 from hp) ar
 |true=>
  have e:jo x t o=x.m:=aW
  rw[e];intro hk hp;obtain⟨os,hl,hti,_⟩:=gi.own;obtain⟨ow,ho⟩:∃o,os[t]?=some o:=⟨_,gp (by have:=(gm.1 hx).1;omega)⟩;obtain⟨L,_,_,h|⟨_,h⟩⟩:=(hti t x ow hx ho).open_
  ·have:=h.1;rw[hon]at this;cases this
  ·obtain⟨v,g,e,su,lc⟩:=h.lc;rcases lc with⟨_,lc⟩|⟨k,_⟩|⟨k,_⟩|⟨k,_⟩|⟨k,_⟩|⟨k,_⟩
   ·exact⟨(lc.mB hp).1,(lc.mB hp).2.1⟩
   all_goals omega
def E7{N K:Nat}{w:Wor}{X:List fN}{t:Nat}{x:fN}(o:fG)(gi:GI N K w X)(hx:X[t]?=some x):(jo x t o).zf=t:=by
 cases hon:x.on with
 |false=>
  unfold jo Beg.xa;rw[hon,gu ar];split
  ·unfold Beg.k9;repeat' split
   all_goals rfl
  ·rfl
 |true=>
  unfold jo;rw[hon,gC rfl];obtain⟨os,hl,hti,_⟩:=gi.own;obtain⟨ow,ho⟩:∃o,os[t]?=some o:=⟨_,gp (by have:=(gm.1 hx).1;omega)⟩;obtain⟨L,_,_,h|⟨_,h⟩⟩:=(hti t x ow hx ho).open_
  ·have:=h.1;rw[hon]at this;cases this
  ·exact h.th
structure Tr(s:Wor.iE):Prop where
 th:∀e∈s.2.2,∃(t:Nat) (x:fN),e.zf=(t:Int)/\s.2.1[t]?=some x/\0<=e.op/\(e.op<x.done\/(e.op=x.done/\x.on=true))
 uniq:∀(a b:Nat) (ea eb:fx),s.2.2[a]?=some ea->s.2.2[b]?=some eb->ea.qN=true->eb.qN=true->ea.zf=eb.zf->ea.op=eb.op->a=b
 on:∀(t:Nat) (x:fN),s.2.1[t]?=some x->x.on=true->∃(f:Nat) (e:fx),s.2.2[f]?=some e/\e.qN=true/\e.zf=(t:Int)/\e.op=x.done
def vr{α:Type}{l:List α}{y x:α}{a:Nat}(h:(l++[y])[a]?=some x):(a<l.length/\l[a]?=some x)\/(a=l.length/\x=y):=by
 rw[List.getElem?_append]at h;split at h
 ·exact .inl ⟨by assumption,h⟩
 ·rename_i q;have hl:a-l.length<1:=by simpa using (gm.1 h).1
  have e0:a-l.length=0:=aw
  rw[e0]at h;exact .inr ⟨aw,aq h.symm⟩
def yS{α:Type}{l:List α}(y:α){x:α}{a:Nat}(h:l[a]?=some x):(l++[y])[a]?=some x:=by
 rw[gG (gm.1 h).1];exact h
def Fy{α:Type}(l:List α)(y:α):(l++[y])[l.length]?=some y:=by simp
def F3{s:Wor.iE}{t:Nat}{x:fN}{m:fq}{w:Wor}{e:fx}(tr:Tr s)(hx:s.2.1[t]?=some x)(he:e.zf=(t:Int)):Tr (w,s.2.1.set t (Wor.jk x m),s.2.2++[yo e x]):=by
 have hl:=(gm.1 hx).1
 have y:(Wor.jk x m).done=x.done+1/\(Wor.jk x m).on=false\/(Wor.jk x m).done=x.done/\(Wor.jk x m).on=true:=by
  unfold Wor.jk;by_cases q:m.done=true
  ·rw[gC q];exact .inl ⟨rfl,rfl⟩
  ·rw[gu q];exact .inr ⟨rfl,rfl⟩
 refine⟨λe' h=>?_,λa b ea eb h1 h2 b1 b2 q1 q2=>?_,λt' x' h1 h2=>?_⟩
 ·dsimp only at h ⊢;rcases gT.1 h with h|h
  ·obtain⟨t',x',p1,p2,p3,p4⟩:=tr.th e' h;by_cases q:t=t'
   ·subst q;rw[hx]at p2;cases p2
    refine⟨t,_,p1,gD hl,p3,?_⟩;rcases y with⟨y1,y2⟩|⟨y1,y2⟩
    ·rw[y1];exact .inl aw
    ·rw[y1,y2];rcases p4 with p4|p4
     ·exact .inl p4
     ·exact .inr ⟨p4.1,rfl⟩
   ·exact⟨t',x',p1,by rw[pq q];exact p2,p3,p4⟩
  ·rw[gS]at h;subst h;refine⟨t,_,he,gD hl,by show(0:Int)<=(x.done:Int);omega,?_⟩;show(x.done:Int)<_\/(x.done:Int)=_/\_;rcases y with⟨y1,y2⟩|⟨y1,y2⟩
   ·rw[y1];exact .inl aw
   ·rw[y1,y2];exact .inr ⟨rfl,rfl⟩
 ·dsimp only at h1 h2
  have none_:∀ea∈s.2.2,x.on=false->ea.zf=(t:Int)->ea.op=(x.done:Int)->False:=λea hm hoff hth hop=>by
   obtain⟨t',x',p1,p2,p3,p4⟩:=tr.th ea hm;have:t'=t:=aw
   subst this;rw[hx]at p2;cases p2
   rcases p4 with p4|⟨_,p4⟩
   ·omega
   ·rw[hoff]at p4;cases p4
  rcases vr h1 with⟨l1,h1⟩|⟨l1,rfl⟩
  ·rcases vr h2 with⟨l2,h2⟩|⟨l2,rfl⟩
   ·exact tr.uniq a b ea eb h1 h2 b1 b2 q1 q2
   ·exact(none_ ea (gA h1) (by have:(!x.on)=true:=b2;simpa using this) (q1.trans he) q2).elim
  ·rcases vr h2 with⟨l2,h2⟩|⟨l2,rfl⟩
   ·exact(none_ eb (gA h2) (by have:(!x.on)=true:=b1;simpa using this) (q1.symm.trans he) q2.symm).elim
   ·omega
 ·dsimp only at h1 ⊢;by_cases q:t=t'
  ·subst q;rw[gD hl]at h1;cases h1
   rcases y with⟨y1,y2⟩|⟨y1,y2⟩
   ·rw[h2]at y2;cases y2
   ·rw[y1];cases hon:x.on with
    |true=>
     obtain⟨f,e1,p1,p2,p3,p4⟩:=tr.on t x hx hon;exact⟨f,e1,yS _ p1,p2,p3,p4⟩
    |false=>exact⟨s.2.2.length,_,Fy _ _,cF,he,rfl⟩
  ·rw[pq q]at h1;obtain⟨f,e1,p1,p2,p3,p4⟩:=tr.on t' x' h1 h2;exact⟨f,e1,yS _ p1,p2,p3,p4⟩
def FD(w:Wor)(T:List (List fG)):Tr (w,T.map wW,[]):=by
 refine⟨λe h=>aR,λa b ea eb h1=>(by cases h1),λt x h1 h2=>?_⟩;obtain⟨L,_,rfl⟩:=gU.1 ((gz ..).symm.trans h1);cases h2
def isAdd(k:Nat)(e:fx):Bool:=e.cell == 10 && e.access == 3 && e.value == (k:Int)
def Bx(i k:Nat)(e:fx):Bool:=isAdd k e && e.zf == (i:Int)
def w8(n k:Nat)(e:fx):Bool:=isAdd k e && decide (e.zf<(n:Int))
def kL(x:nv)(k:Nat):Int:=if k=0 then x.c0 else if k=1 then x.c1 else if k=2 then x.c2 else if k=3 then x.c3 else if k=4 then x.c4 else x.c5
def XF{k:Nat}{e:fx}(h:¬oa e):isAdd k e=false:=by
 unfold isAdd;cases q:(e.cell == 10 && e.access == 3) with
 |false=>rfl
 |true=>
  simp only[gH,pH]at q;exact absurd q h
def UZ{k kk:Nat}{e:fx}(h:oa e)(hv:e.value=(kk:Int)):isAdd k e=decide (k=kk):=by
 unfold isAdd;rw[h.1,h.2,hv];by_cases q:k=kk
 ·subst q;simp
 ·have:¬((kk:Int)=k):=by omega
  simp[q,this]
def lt_succ(n k:Nat):∀l:List fx,l.countP (w8 (n+1) k)=l.countP (w8 n k)+l.countP (Bx n k)
 |[]=>rfl
 |e::l=>by
  have ih:=lt_succ n k l;rw[fh,fh,fh,ih]
  have:(if w8 (n+1) k e=true then 1 else 0)=(if w8 n k e=true then 1 else 0)+(if Bx n k e=true then 1 else 0):=by
   unfold w8 Bx;cases isAdd k e with
   |false=>simp
   |true=>
    simp only[sr,pH,gQ];by_cases q:e.zf<(n:Int)
    ·rw[gC aw,gC q,gu aw]
    ·rw[gu q];by_cases z:e.zf=(n:Int)
     ·rw[gC aw,gC z]
     ·rw[gu aw,gu z]
  omega
def Yr(k:Nat){l:List fx}(h:∀e∈l,0<=e.zf):l.countP (w8 0 k)=0:=by
 rw[List.countP_eq_zero];intro e he;have:=h e he;unfold w8;simp;omega
def OM(n k:Nat){l:List fx}(h:∀e∈l,e.zf<(n:Int)):l.countP (w8 n k)=l.countP (isAdd k):=by
 refine List.countP_congr λe he=>?_
 have:=h e he;unfold w8;simp[this]
def mD(m:fq)(k:Nat):Nat:=m.i.toNat+if (k:Int)<m.k then 1 else 0
def Bd(F L:List fx)(m:fq):Prop:=∀k,k<6->(F.countP (w8 (mD m k) k):Int)<=kL m.counts k/\kL m.counts k<=L.countP (w8 (mD m k) k)
def Bd.grow{F L:List fx}{m:fq}(e:fx)(h:Bd F L m):Bd F (L++[e]) m:=λk hk=>by
 have:=h k hk;rw[sE];omega
def XA(x:nv)(a k:Nat)(n:Int)(ha:a<6)(hk:k<6)(h:0<=kL x a+n)(h2:kL x a+n<18446744073709551616):kL (kX x a n) k=kL x k+if k=a then n else 0:=by
 have w:∀z:Int,0<=z->z<18446744073709551616->IntKind.u64.wrap z=z:=λz h1 h2=>by
  show z%18446744073709551616=z;omega
 obtain⟨c0,c1,c2,c3,c4,c5⟩:=x;obtain rfl|rfl|rfl|rfl|rfl|rfl:a=0\/a=1\/a=2\/a=3\/a=4\/a=5:=aw
 all_goals
  obtain rfl|rfl|rfl|rfl|rfl|rfl:k=0\/k=1\/k=2\/k=3\/k=4\/k=5:=aw
 all_goals
  simp[kL,kX]at h h2 ⊢
 all_goals exact w _ h h2
def YE{F L:List fx}{w:Wor}{m:fq}{r:Wor×fq×fx}(b:Bd F L m)(hF:∀p:fx->Bool,F.countP p<=L.countP p)(h0:0<=m.i)(h1:0<=m.k)(hL:L.length<=1000000000000)
 (oC:∀(i k:Nat) (row:List Int) (n:Int),w.counts[i]?=some row->row[k]?=some n->n=L.countP (Bx i k))(h:yR w m=some r)(hd:m.done=false)(hth:∀e∈L,e.zf<(w.counts.length:Int))(hthF:∀e∈F,e.zf<(w.counts.length:Int)):
  (r.2.1.done=false->Bd F L r.2.1)/\(r.2.1.done=true->∀k,k<6->(F.countP (isAdd k):Int)<=kL r.2.1.answer.counts k/\kL r.2.1.answer.counts k<=L.countP (isAdd k)):=by
 unfold yR at h;rcases qf h with⟨⟨p1,p2⟩,h⟩|⟨_,h⟩
 ·obtain⟨row,hrow,h⟩:=pj.1 h;obtain⟨n,hn,rfl⟩:=gU.1 h;have en:=oC _ _ row n hrow hn;obtain⟨kk,ek⟩:∃kk:Nat,m.k=kk:=⟨m.k.toNat,aw⟩;have kk6:kk<6:=by omega
  rw[ek,toNat_cast]at hn en;have le:∀p:fx->Bool,L.countP p<=L.length:=λp=>eF
  have rd0:mD m kk=m.i.toNat:=by unfold mD;rw[ek,gu aw];rfl
  have bk:=b kk kk6;have sp:=lt_succ m.i.toNat kk L;have spF:=lt_succ m.i.toNat kk F;have hFb:=hF (Bx m.i.toNat kk);have l1:=le (w8 (m.i.toNat+1) kk);rw[rd0]at bk
  have key:∀k,k<6->(F.countP (w8 (mD m k+if k=kk then 1 else 0) k):Int)<=kL (kX m.counts m.k n) k/\kL (kX m.counts m.k n) k<=L.countP (w8 (mD m k+if k=kk then 1 else 0) k):=λk hk=>by
   rw[ek,XA m.counts kk k n kk6 hk aw aw];by_cases q:k=kk
   ·subst q;rw[gC rfl,gC rfl,rd0];omega
   ·rw[gu q,gu q,sd];have:=b k hk;omega
  have hi:=(gm.1 hrow).1;dsimp only;by_cases q5:m.k+1=6
  ·have rdn:∀k,k<6->mD m k+(if k=kk then 1 else 0)=m.i.toNat+1:=λk hk=>by
    unfold mD;rw[ek];by_cases q:k=kk
    ·rw[gC q,gu aw]
    ·rw[gu q,gC aw]
   by_cases q6:m.i+1=w.counts.length
   ·have es:jv w m n={ m with counts:=kX m.counts m.k n,k:=0,i:=m.i+1,done:=true,answer:=⟨13,0,0,0,0,0,0,kX m.counts m.k n⟩ }:=by
     unfold jv;dsimp only;rw[gC q5,gC q6]
    rw[es];refine⟨λq=>absurd (show true=false from q) ar,λ_ k hk=>?_⟩;have a:=key k hk;rw[rdn k hk,show m.i.toNat+1=w.counts.length from aw]at a;rw[OM _ _ hth]at a;rw[OM _ _ hthF]at a;exact a
   ·have es:jv w m n={ m with counts:=kX m.counts m.k n,k:=0,i:=m.i+1 }:=by
     unfold jv;dsimp only;rw[gC q5,gu q6]
    rw[es];refine⟨λ_ k hk=>?_,λq=>absurd (hd.symm.trans q) ar⟩;have a:=key k hk
    have e:mD { m with counts:=kX m.counts m.k n,k:=0,i:=m.i+1 } k=mD m k+if k=kk then 1 else 0:=by
     rw[rdn k hk];unfold mD;dsimp only;rw[gu aw];omega
    rw[e];exact a
  ·have q7:¬(m.i=w.counts.length):=by omega
   have es:jv w m n={ m with counts:=kX m.counts m.k n,k:=m.k+1 }:=by
    unfold jv;dsimp only;rw[gu q5,gu q7]
   rw[es];refine⟨λ_ k hk=>?_,λq=>absurd (hd.symm.trans q) ar⟩;have a:=key k hk
   have e:mD { m with counts:=kX m.counts m.k n,k:=m.k+1 } k=mD m k+if k=kk then 1 else 0:=by
    unfold mD;dsimp only;rw[ek];by_cases q:k=kk
    ·rw[gC q,gC aw,gu aw]
    ·rw[gu q];by_cases z:(k:Int)<kk
     ·rw[gC aw,gC z]
     ·rw[gu aw,gu z]
   rw[e];exact a
 ·cases h
def R3{w:Wor}{m:fq}{v:fB}{g:Gr}{e:En}{r:Wor×fq×fx}(su:qP w m v g e)(h:x2 w m=some r):
  ((r.1.counts=w.counts/\¬oa r.2.2)\/∃(kk:Nat) (r0:List Int) (x:Int),w.counts[m.zf.toNat]?=some r0/\r0[kk]?=some x/\r.1.counts=w.counts.set m.zf.toNat (r0.set kk (IntKind.u64.wrap (x+1)))/\oa r.2.2/\r.2.2.value=kk)/\
  (r.2.1.done=true->r.2.1.answer.kind=13->(m.op.kind=1->20<=m.pc->m.answer.kind<=5)->m.op.kind=6):=by
 have calm:∀{K:List Int},wE K w m r->(∀z∈K,z≠13)->((r.1.counts=w.counts/\¬oa r.2.2)\/∃(kk:Nat) (r0:List Int) (x:Int),w.counts[m.zf.toNat]?=some r0/\r0[kk]?=some x/\r.1.counts=w.counts.set m.zf.toNat (r0.set kk (IntKind.u64.wrap (x+1)))/\oa r.2.2/\r.2.2.value=kk)/\
   (r.2.1.done=true->r.2.1.answer.kind=13->(m.op.kind=1->20<=m.pc->m.answer.kind<=5)->m.op.kind=6):=@λK ⟨c1,c2,c3,c4⟩ hh=>⟨.inl ⟨c1,c4⟩,λa b _=>absurd b (hh _ (c3 a))⟩
 unfold x2 at h;rw[su.ij]at h;dsimp only at h;rw[su.fR]at h;dsimp only at h;rw[su.ia]at h;dsimp only at h;rcases qf h with⟨k1,h⟩|⟨k1,h⟩
 ·rcases Hr su.done h with⟨c1,c2,c3,c4,c5⟩|⟨kk,r0,x,a1,a2,a3,a5,a4⟩|⟨c1,c2,c4,c3⟩
  ·exact⟨.inl ⟨c1,c5⟩,λa=>by rw[c4]at a;cases a⟩
  ·refine⟨.inr ⟨kk,r0,x,a1,a2,a3,a5.1,a5.2⟩,λa=>?_⟩;rcases a4 with⟨_,_,e⟩|⟨_,_,p,_,e⟩ <;> (rw[e]at a;exact absurd (su.done.symm.trans a) ar)
  ·refine⟨.inl ⟨c1,c4⟩,λa b c=>?_⟩;have:=c k1 aw;rcases c3 with e|e <;> (rw[e]at b;dsimp only at b;omega)
 rcases qf h with⟨k2,h⟩|⟨_,h⟩
 ·exact calm (Hh su.done h) ar
 rcases qf h with⟨k2,h⟩|⟨_,h⟩
 ·exact calm (HW su.done h) ar
 rcases qf h with⟨k2,h⟩|⟨_,h⟩
 ·exact calm (Ll su.done h) ar
 rcases qf h with⟨k2,h⟩|⟨_,h⟩
 ·exact calm (G8 su.done h) ar
 rcases qf h with⟨k2,h⟩|⟨_,h⟩
 ·have c:=HH su.done h;exact⟨.inl ⟨c.1,c.2.2.2⟩,λ_ _ _=>k2⟩
 ·cases h
def CO{N K:Nat}{w:Wor}{X:List fN}{t:Nat}{x:fN}{o:fG}(gi:GI N K w X)(hx:X[t]?=some x)(ho:x.ops[x.done]?=some o):(jo x t o).op=o:=by
 cases hon:x.on with
 |false=>
  unfold jo Beg.xa;rw[hon,gu ar];split
  ·unfold Beg.k9;repeat' split
   all_goals rfl
  ·rfl
 |true=>
  unfold jo;rw[hon,gC rfl];obtain⟨os,hl,hti,_⟩:=gi.own;obtain⟨ow,ho2⟩:∃o,os[t]?=some o:=⟨_,gp (by have:=(gm.1 hx).1;omega)⟩;obtain⟨L,_,_,h|⟨_,h⟩⟩:=(hti t x ow hx ho2).open_
  ·have:=h.1;rw[hon]at this;cases this
  ·have:=h.at_;rw[ho]at this;exact(gF this).symm
structure SI(s:Wor.iE):Prop where
 tr:Tr s
 oC:∀(i k:Nat) (row:List Int) (n:Int),s.1.counts[i]?=some row->row[k]?=some n->n=(s.2.2.countP (Bx i k):Nat)
 rd:∀(t:Nat) (x:fN),s.2.1[t]?=some x->x.on=true->x.m.op.kind=6->∃(f:Nat) (e:fx),s.2.2[f]?=some e/\e.qN=true/\e.zf=(t:Int)/\e.op=x.done/\Bd (s.2.2.take f) s.2.2 x.m
 fin:∀(τ:Nat) (e:fx),s.2.2[τ]?=some e->e.done=true->e.answer.kind=13->∃(f:Nat) (e0:fx),f<=τ/\s.2.2[f]?=some e0/\e0.qN=true/\e0.zf=e.zf/\e0.op=e.op/\
  ∀k,k<6->((s.2.2.take f).countP (isAdd k):Int)<=kL e.answer.counts k/\kL e.answer.counts k<=(s.2.2.take (τ+1)).countP (isAdd k)
def vD{α:Type}{l:List α}(y:α){n:Nat}(h:n<=l.length):(l++[y]).take n=l.take n:=by rw[List.take_append_of_le_length h]
def YV{N K:Nat}{s:Wor.iE}(gi:GI N K s.1 s.2.1)(si:SI s)(p:Int)(hN:N<=100000000)(hK:K<=1099511627776)(hL:s.2.2.length<=1000000000000):SI (yV s p):=by
 rcases ye gi p hN hK with⟨_,e⟩|⟨t,x,o,r,hat,hx,ho,hsu,htm,hst,_,e,gi2⟩
 ·rw[e];exact si
 ·rw[e];obtain⟨v,g,en,su⟩:=yL hsu;have tl:=Fa su.done hst;have nt:=E7 o gi hx;have no:=CO gi hx ho;have eth:r.2.2.zf=(t:Int):=tl.2.2.trans nt;have hl:=(gm.1 hx).1;have gr:=qq.1 gi.st.jQ.ground;have wl:s.1.counts.length=s.2.1.length:=gr.counts.1.trans gi.len;obtain⟨cc,c13⟩:=R3 su hst
  have A3:∀e∈s.2.2,0<=e.zf/\e.zf<(s.1.counts.length:Int):=λe he=>by
   obtain⟨t',x',p1,p2,_⟩:=si.tr.th e he;have:=(gm.1 p2).1;omega
  have rdm:(jo x t o).op.kind=6->∃f,f<=s.2.2.length/\(∃e:fx,(s.2.2++[yo r.2.2 x])[f]?=some e/\e.qN=true/\e.zf=(t:Int)/\e.op=x.done)/\Bd (s.2.2.take f) s.2.2 (jo x t o):=λhk=>by
   cases hon:x.on with
   |true=>
    have en:jo x t o=x.m:=aW
    rw[en]at hk ⊢;obtain⟨f,e1,p1,p2,p3,p4,p5⟩:=si.rd t x hx hon hk;exact⟨f,Nat.le_of_lt (gm.1 p1).1,⟨e1,yS _ p1,p2,p3,p4⟩,p5⟩
   |false=>
    refine⟨s.2.2.length,gJ _,⟨_,Fy _ _,cF,eth,rfl⟩,?_⟩;have en:jo x t o=Beg.xa t o x.given:=aW
    rw[no]at hk;rw[en,wx aw,pQ];intro k hk6
    have rd0:mD ⟨o,t,0,0,0, -1,0,0,0,0,0,0,0,0,0,false,Beg.vp,lJ⟩ k=0:=by
     unfold mD;dsimp only;rw[gu aw]
     rfl
    have s0:kL lJ k=0:=by
     unfold kL lJ;repeat' split
     all_goals rfl
    dsimp only at rd0 ⊢;rw[rd0,Yr k λe he=>(A3 e he).1,s0];exact⟨gY _,gY _⟩
  have stp:∀f,(jo x t o).op.kind=6->Bd (s.2.2.take f) s.2.2 (jo x t o)->(r.2.1.done=false->Bd (s.2.2.take f) s.2.2 r.2.1)/\(r.2.1.done=true->∀k,k<6->((s.2.2.take f).countP (isAdd k):Int)<=kL r.2.1.answer.counts k/\kL r.2.1.answer.counts k<=s.2.2.countP (isAdd k)):=λf hk b=>by
   have h:=hst;unfold x2 at h;rw[su.ij]at h;dsimp only at h;rw[su.fR]at h;dsimp only at h;rw[su.ia]at h;dsimp only at h;rw[gu aw,gu aw,gu aw,gu aw,gu aw,gC hk]at h;exact YE b (λp=>(fc f s.2.2).countP_le) su.i su.k hL si.oC h su.done (λe he=>(A3 e he).2) λe he=>(A3 e (rP he)).2
  refine⟨F3 si.tr hx eth,λi k row n h1 h2=>?_,λt' x' h1 h2 h3=>?_,λτ e1 h1 h2 h3=>?_⟩
  ·dsimp only at h1 h2 ⊢
   have ad:Bx i k (yo r.2.2 x)=(isAdd k r.2.2 && decide ((t:Int)=i)):=by
    show(isAdd k r.2.2 && (r.2.2.zf == (i:Int)))=_;rw[eth]
    rfl
   rw[sE,sU,ad];rcases cc with⟨c1,c2⟩|⟨kk,r0,x0,a1,a2,a3,a4,a5⟩
   ·rw[c1]at h1;rw[si.oC i k row n h1 h2,XF c2];simp
   ·rw[a3,nt,toNat_cast]at h1;rw[nt,toNat_cast]at a1;have ex:=si.oC t kk r0 x0 a1 a2;have le:s.2.2.countP (Bx t kk)<=s.2.2.length:=eF
    have wr:IntKind.u64.wrap (x0+1)=x0+1:=by
     show(x0+1)%18446744073709551616=x0+1;omega
    rw[UZ a4 a5];rcases x7 h1 with⟨rfl,rfl,_⟩|⟨hne,h1⟩
    ·rcases x7 h2 with⟨rfl,rfl,_⟩|⟨hne,h2⟩
     ·rw[wr,ex];simp
     ·rw[si.oC t k r0 n a1 h2];have:¬(k=kk):=λz=>hne z.symm
      simp[this]
    ·rw[si.oC i k row n h1 h2];have:¬((t:Int)=i):=by omega
     simp[this]
  ·dsimp only at h1 ⊢;by_cases q:t=t'
   ·subst q;have gx:(s.2.1.set t (Wor.jk x r.2.1))[t]?=some (Wor.jk x r.2.1):=gD hl;rw[gx]at h1;cases h1
    have nd:r.2.1.done=false:=by
     cases z:r.2.1.done with
     |false=>rfl
     |true=>rw[Wor.DA z]at h2;cases h2
    rw[kn nd]at h3 ⊢;dsimp only at h3 ⊢;have ho2:(Wor.jk x r.2.1).ops[(Wor.jk x r.2.1).done]?=some o:=by rw[kn nd];exact ho
    have n2:=CO gi2 gx ho2;have e2:jo (Wor.jk x r.2.1) t o=r.2.1:=by rw[kn nd];rfl
    rw[e2]at n2;have hk:(jo x t o).op.kind=6:=by rw[no,<-n2];exact h3
    obtain⟨f,f1,⟨e3,q1,q2,q3,q4⟩,q5⟩:=rdm hk;refine⟨f,e3,q1,q2,q3,q4,?_⟩;rw[vD _ f1];exact((stp f hk q5).1 nd).grow _
   ·rw[pq q]at h1;obtain⟨f,e3,q1,q2,q3,q4,q5⟩:=si.rd t' x' h1 h2 h3;refine⟨f,e3,yS _ q1,q2,q3,q4,?_⟩;rw[vD _ (Nat.le_of_lt (gm.1 q1).1)];exact q5.grow _
  ·dsimp only at h1 ⊢;rcases vr h1 with⟨l1,h1⟩|⟨rfl,rfl⟩
   ·obtain⟨f,e0,q1,q2,q3,q4,q5,q6⟩:=si.fin τ e1 h1 h2 h3;refine⟨f,e0,q1,yS _ q2,q3,q4,q5,?_⟩;rw[vD _ aw,vD _ aw];exact q6
   ·have dn:r.2.1.done=true:=by rw[<-tl.1];exact h2
    have ea:(yo r.2.2 x).answer=r.2.1.answer:=tl.2.1 dn;rw[ea]at h3 ⊢;have hk:=c13 dn h3 λa b=>(Ow gi hx a b).2
    obtain⟨f,f1,⟨e3,q1,q2,q3,q4⟩,q5⟩:=rdm hk;refine⟨f,e3,f1,q1,q2,q3.trans eth.symm,q4,λk hk6=>?_⟩;have z:=(stp f hk q5).2 dn k hk6;rw[vD _ f1,sD (l:=s.2.2++[yo r.2.2 x]) aj,sE];omega
def Pb{N K:Nat}{s:Wor.iE}(gi:GI N K s.1 s.2.1)(si:SI s)(l:List Int)(h0:s.2.2.length=0):∀k,k<=l.length->N+k<=100000000->K+k<=1099511627776->SI (iK s l k)/\(iK s l k).2.2.length<=k
 |0,_,_,_=>⟨si,by show s.2.2.length<=0;omega⟩
 |k+1,hk,hN,hK=>by
  have ih:=Pb gi si l h0 k aw aw aw;have g:=BT gi l k aw aw aw;rw[ks (gp aw)];refine⟨YV g ih.1 _ aw aw aw,?_⟩;rcases ye g l[k] aw aw with⟨_,e⟩|⟨t,x,o,r,hat,hx,ho,hsu,htm,hst,_,e,gi2⟩
  ·rw[e];omega
  ·rw[e];dsimp only;rw[gK];have:=ih.2;simp;omega
def XL{s:Sna}{l:List fA}{n:Int}{w:Wor}(h:lS s l n=(w,0)):w.counts=List.replicate n.toNat [0,0,0,0,0,0]:=by
 unfold lS at h;split at h
 ·have:=rF Prod.snd h;exact absurd (show(1:Int)=0 from this) ar
 ·have hw:_=w:=rF Prod.fst h;rw[<-hw]
def Xe{s:fW}(h:(qM s).2=0):SI (iV s):=by
 obtain⟨_,hn⟩:=xe h;have e:(iV s).1.counts=List.replicate (s.threads.length:Int).toNat [0,0,0,0,0,0]:=XL hn;refine⟨FD _ _,λi k row n h1 h2=>?_,λt x h1 h2=>?_,λτ e1 h1=>by cases h1⟩
 ·rw[e]at h1;rw[pE (gA h1)]at h2;have:=gA h2;have z:n=0:=by simpa using this
  rw[z]
  rfl
 ·obtain⟨L,_,rfl⟩:=gU.1 ((gz ..).symm.trans (show(s.threads.map wW)[t]?=some x from h1));cases h2
structure BI(X:List fN)(b:List Cal):Prop where
 own:∀(i:Nat) (c:Cal),b[i]?=some c->∃(t:Nat) (x:fN),c.zf=(t:Int)/\X[t]?=some x/\((c.op<x.done/\0<=c.iw)\/(c.op=x.done/\x.on=true/\c.iw<0))
 on:∀(t:Nat) (x:fN),X[t]?=some x->x.on=true->∃(i:Nat) (c:Cal),b[i]?=some c/\c.zf=(t:Int)/\c.op=x.done
 nd:∀(i j:Nat) (c d:Cal),b[i]?=some c->b[j]?=some d->c.zf=d.zf->c.op=d.op->i=j
def YF{X:List fN}{b:List Cal}{t:Nat}{x:fN}{m:fq}{e:fx}{k:Nat}(bi:BI X b)(hx:X[t]?=some x)(he:e.zf=(t:Int))(hop:e.op=x.done)(hbg:e.qN=!x.on)(hdn:e.done=m.done):
  ∃b',Cal.B6 b (k:Int) e=some b'/\BI (X.set t (Wor.jk x m)) b':=by
 have hl:=(gm.1 hx).1
 have y:(m.done=true/\(Wor.jk x m).done=x.done+1/\(Wor.jk x m).on=false)\/(m.done=false/\(Wor.jk x m).done=x.done/\(Wor.jk x m).on=true):=by
  unfold Wor.jk;by_cases q:m.done=true
  ·rw[gC q];exact .inl ⟨q,rfl,rfl⟩
  ·rw[gu q];exact .inr ⟨aq q,rfl,rfl⟩
 have main:∀(N:List Cal) (n:Nat) (c0:Cal),N[n]?=some (Cal.qU e (k:Int) c0)->c0.zf=(t:Int)->c0.op=x.done->c0.iw<0->(∀(i:Nat) (c:Cal),N[i]?=some c->i≠n->b[i]?=some c/\¬(c.zf=(t:Int)/\c.op=x.done))->(∀(i:Nat) (c:Cal),b[i]?=some c->i≠n->N[i]?=some c)->(∀(i:Nat) (c:Cal),b[i]?=some c->i=n->c.zf=(t:Int)/\c.op=x.done)->
   BI (X.set t (Wor.jk x m)) N:=λN n c0 h1 h2 h3 h4 h5 h6 h7=>by
  have mt:=Cal.vj e (k:Int) c0;have mo:=Cal.FY e (k:Int) c0;refine⟨λi c hc=>?_,λt' x' hx' hon=>?_,λi j c d hc hd q1 q2=>?_⟩
  ·by_cases q:i=n
   ·subst q;rw[h1]at hc;cases hc
    refine⟨t,_,mt.1.trans h2,gD hl,?_⟩;rw[mt.2,h3,mo,hdn];rcases y with⟨y0,y1,y2⟩|⟨y0,y1,y2⟩
    ·rw[y0,y1,gC rfl];exact .inl ⟨aw,aw⟩
    ·rw[y0,y1,y2,gu ar];exact .inr ⟨rfl,rfl,h4⟩
   ·obtain⟨hb,nq⟩:=h5 i c hc q;obtain⟨t',x',p1,p2,p3⟩:=bi.own i c hb;by_cases z:t=t'
    ·subst z;rw[hx]at p2;cases p2
     refine⟨t,_,p1,gD hl,?_⟩;rcases p3 with⟨p3,p4⟩|⟨p3,_⟩
     ·rcases y with⟨_,y1,_⟩|⟨_,y1,_⟩ <;> (rw[y1];exact .inl ⟨aw,p4⟩)
     ·exact(nq ⟨p1,p3⟩).elim
    ·exact⟨t',x',p1,by rw[pq z];exact p2,p3⟩
  ·by_cases z:t=t'
   ·subst z;rw[gD hl]at hx';cases hx'
    rcases y with⟨_,_,y2⟩|⟨_,y1,_⟩
    ·rw[hon]at y2;cases y2
    ·exact⟨n,_,h1,mt.1.trans h2,by rw[mt.2,h3,y1]⟩
   ·rw[pq z]at hx';obtain⟨i,c,p1,p2,p3⟩:=bi.on t' x' hx' hon
    have ni:i≠n:=λq=>by
     have:=(h7 i c p1 q).1;omega
    exact⟨i,c,h6 i c p1 ni,p2,p3⟩
  ·by_cases z1:i=n
   ·by_cases z2:j=n
    ·omega
    ·subst z1;rw[h1]at hc;cases hc
     exact((h5 j d hd z2).2 ⟨by rw[<-q1,mt.1,h2],by rw[<-q2,mt.2,h3]⟩).elim
   ·by_cases z2:j=n
    ·subst z2;rw[h1]at hd;cases hd
     exact((h5 i c hc z1).2 ⟨by rw[q1,mt.1,h2],by rw[q2,mt.2,h3]⟩).elim
    ·exact bi.nd i j c d (h5 i c hc z1).1 (h5 j d hd z2).1 q1 q2
 unfold Cal.B6;cases hon:x.on with
 |false=>
  rw[hbg,hon,gC ar]
  have free:∀(i:Nat) (c:Cal),b[i]?=some c->c.zf=(t:Int)->c.op<x.done/\0<=c.iw:=λi c hc hth=>by
   obtain⟨t',x',p1,p2,p3⟩:=bi.own i c hc;have:t'=t:=aw
   subst this;rw[hx]at p2;cases p2
   rcases p3 with p3|⟨_,p3,_⟩
   ·exact p3
   ·rw[hon]at p3;cases p3
  have n1:(Cal.zM b e.zf e.op).isSome=false:=by
   cases hp:Cal.zM b e.zf e.op with
   |none=>rfl
   |some n=>
    obtain⟨c,hc,p1,p2⟩:=Cal.wS hp;have:=free n c hc (p1.trans he);omega
  have n2:Cal.AF b e.zf=false:=by
   unfold Cal.AF;rw[pD];intro c hc;obtain⟨i,hi⟩:=gW.1 hc;by_cases q:c.zf=(t:Int)
   ·have:=free i c hi q;simp;omega
   ·simp;omega
  rw[n1,n2,gu ar];refine⟨_,rfl,?_⟩;have ml:(b++[Cal.xM e (k:Int)])[b.length]?=some (Cal.xM e (k:Int)):=aj
  rw[Cal.vW ml];refine main _ b.length (Cal.xM e (k:Int)) ?_ he hop (by show(-1:Int)<0;decide) (λi c hc hne=>?_) (λi c hc hne=>?_) (λi c hc q=>?_)
  ·rw[gD (gm.1 ml).1]
  ·rw[pq (λz=>hne z.symm)]at hc;rcases vr hc with⟨_,hc⟩|⟨q,_⟩
   ·exact⟨hc,λ⟨z1,z2⟩=>by have:=free i c hc z1;omega⟩
   ·exact(hne q).elim
  ·rw[pq (λz=>hne z.symm)];exact yS (Cal.xM e (k:Int)) hc
  ·have:=(gm.1 hc).1;omega
 |true=>
  rw[hbg,hon,gu ar];obtain⟨i0,c0,p1,p2,p3⟩:=bi.on t x hx hon;cases hp:Cal.zM b e.zf e.op with
  |none=>
   unfold Cal.zM at hp;rw[gX]at hp;have:=hp c0 (gA p1);simp[p2,p3,he,hop]at this
  |some n=>
   obtain⟨c,hc,r1,r2⟩:=Cal.wS hp;have r1:c.zf=(t:Int):=r1.trans he;have r2:c.op=x.done:=r2.trans hop
   have hto:c.iw<0:=by
    obtain⟨t',x',s1,s2,s3⟩:=bi.own n c hc;have:t'=t:=aw
    subst this;rw[hx]at s2;cases s2
    rcases s3 with⟨s3,_⟩|⟨_,_,s3⟩
    ·omega
    ·exact s3
   dsimp only;rw[hc,gu aA];refine⟨_,rfl,?_⟩;rw[Cal.vW hc];refine main _ n c ?_ r1 r2 hto (λi d hd hne=>?_) (λi d hd hne=>?_) (λi d hd q=>?_)
   ·rw[gD (gm.1 hc).1]
   ·rw[pq (λz=>hne z.symm)]at hd;exact⟨hd,λ⟨z1,z2⟩=>hne (bi.nd i n d c hd hc (z1.trans r1.symm) (z2.trans r2.symm))⟩
   ·rw[pq (λz=>hne z.symm)];exact hd
   ·subst q;rw[hc]at hd;cases hd
    exact⟨r1,r2⟩
def NY(L:List fx)(e:fx):∀k,k<=L.length->Cal.AI (L++[e]) k=Cal.AI L k
 |0,_=>rfl
 |k+1,h=>by
  simp only[Cal.AI,NY L e k aw];rw[gG aw]
structure RI(s:Wor.iE):Prop where
 tr:Tr s
 acc:∀e∈s.2.2,e.access≠0
 bk:∃b,Cal.AI s.2.2 s.2.2.length=some b/\BI s.2.1 b
def YT{N K:Nat}{s:Wor.iE}(gi:GI N K s.1 s.2.1)(ri:RI s)(p:Int)(hN:N<=100000000)(hK:K<=1099511627776):RI (yV s p):=by
 rcases ye gi p hN hK with⟨_,e⟩|⟨t,x,o,r,hat,hx,ho,hsu,htm,hst,hacc,e,gi2⟩
 ·rw[e];exact ri
 ·rw[e];obtain⟨v,g,en,su⟩:=yL hsu;have tl:=Fa su.done hst;have eth:r.2.2.zf=(t:Int):=tl.2.2.trans (E7 o gi hx);obtain⟨b,h1,h2⟩:=ri.bk;obtain⟨b',h3,h4⟩:=YF (e:=yo r.2.2 x) (m:=r.2.1) (k:=s.2.2.length) h2 hx eth rfl rfl tl.1;refine⟨F3 ri.tr hx eth,λe he=>?_,b',?_,h4⟩
  ·rcases gT.1 he with he|he
   ·exact ri.acc e he
   ·rw[gS.1 he];exact hacc
  ·dsimp only;rw[gK];show Cal.AI _ (s.2.2.length+1)=_;simp only[Cal.AI];rw[NY _ _ _ (gJ _),h1,Fy];exact h3
def Pa{N K:Nat}{s:Wor.iE}(gi:GI N K s.1 s.2.1)(ri:RI s)(l:List Int):∀k,k<=l.length->N+k<=100000000->K+k<=1099511627776->RI (iK s l k)
 |0,_,_,_=>ri
 |k+1,hk,hN,hK=>by
  have ih:=Pa gi ri l k aw aw aw;rw[ks (gp aw)];exact YT (BT gi l k aw aw aw) ih _ aw aw
def VY{s:fW}(ok:nG s)(h:(qo s).2.2=0):(Cal.fS (qo s).1).2=0/\(qo s).1.length<=s.zW.length/\jV (qo s).2.1/\mM 5000 (qo s).2.1/\
  ∀e∈(qo s).1,e.access≠0/\∃(t:Nat) (l:List fG),e.zf=(t:Int)/\s.threads[t]?=some l/\0<=e.op/\e.op<l.length:=by
 have hb:=Fz h;have e1:qo s=((yN s).2.2,(yN s).1,0):=by unfold qo;rw[gC hb]
 obtain⟨q,_⟩:=xe hb;obtain⟨_,_,_,p4,_,_⟩:=xK q;have f:=MJ ok hb (n:=s.zW.length) (gJ _);have gi:=Eh ok hb s.zW.length (gJ _);have ao:=Jf ok hb s.zW.length (gJ _);have si:=Pb (CC ok hb) (Xe hb) s.zW rfl s.zW.length (gJ _) aw aw
 have r0:RI (iV s):=by
  refine⟨FD _ _,λe he=>(by cases he),[],rfl,⟨λi c h=>aR,λt x hx hon=>?_,λi j c d h=>aR⟩⟩;obtain⟨L,_,rfl⟩:=gU.1 ((gz ..).symm.trans (show(s.threads.map wW)[t]?=some x from hx));cases hon
 have ri:RI (yN s):=Pa (CC ok hb) r0 s.zW s.zW.length (gJ _) aw aw;have gd:=f.2.2.2;have e2:mG s s.zW.length=s:=by unfold mG;rw[pQ]
 rw[e2,e1]at gd;rw[e1];dsimp only at gd ⊢;refine⟨?_,si.2,gd.1,gd.2.1,λe he=>⟨ri.acc e he,?_⟩⟩
 ·obtain⟨b,hb2,_⟩:=ri.bk;have:=(Cal.DS (yN s).2.2 (yN s).2.2.length).1;rw[hb2]at this;unfold Cal.fS;cases z:Cal.yE (yN s).2.2 (yN s).2.2.length with
  |none=>rw[z]at this;cases this
  |some b2=>rfl
 ·obtain⟨t,x,t1,t2,t3,t4⟩:=ri.tr.th e he
  have tx:s.threads[t]?=some x.ops:=by
   rw[<-ao,gz];show((yN s).2.1[t]?).map _=_;rw[t2]
   rfl
  refine⟨t,x.ops,t1,tx,t3,?_⟩;have tk:=Nq gi t2;rcases t4 with t4|⟨t4,t5⟩
  ·omega
  ·obtain⟨os,hl,hti,_⟩:=gi.own;obtain⟨ow,ho⟩:∃o,os[t]?=some o:=⟨_,gp (by have:=(gm.1 t2).1;show t<os.length;rw[hl];exact this)⟩;obtain⟨L,_,_,hh|⟨_,hh⟩⟩:=(hti t x ow t2 ho).open_
   ·have:=hh.1;rw[t5]at this;cases this
   ·have:=(gm.1 hh.at_).1;omega
def og(e:fx):Prop:=e.cell=3/\e.access=6
def C1(n:Int)(e:fx):Int:=if e.cell=3/\e.access=6 then e.value else n
def mu(l:List fx):Int:=l.foldl C1 0
def Oi(l:List fx)(e:fx):mu (l++[e])=C1 (mu l) e:=by unfold mu;rw[sJ];rfl
def Z3{n:Int}{e:fx}(h:¬og e):C1 n e=n:=gu h
def J8(w:Wor)(r:Wor×fq×fx):Prop:=(r.1.current=w.current/\¬og r.2.2)\/(og r.2.2/\r.1.current=r.2.2.value)
def nH(w:Wor)(r:Wor×fq×fx):Prop:=r.1.current=w.current/\¬og r.2.2
def qj{w w':Wor}{m':fq}{e:fx}(h1:w'.current=w.current)(h2:e.access≠6:=by exact pA au):nH w (w',m',e):=⟨h1,λz=>h2 z.2⟩
def kZ{α:Type}{w:Wor}{o:Option α}{f:α->Wor×fq×fx}{r:Wor×fq×fx}(h:o.map f=some r)(hf:∀x,nH w (f x)):nH w r:=by
 obtain⟨x,_,rfl⟩:=gU.1 h;exact hf x
def FQ{w:Wor}{m:fq}{f:fQ->Wor×fq×fx}{r:Wor×fq×fx}(h:wa w m f=some r)(hf:∀x,nH w (f x)):nH w r:=by
 unfold wa at h;rcases zA h with h|h
 ·cases h
 ·exact kZ h hf
def YK{w:Wor}{m:fq}{r:Wor×fq×fx}(h:oT w m=some r):nH w r:=by
 unfold oT at h;rcases zA h with h|h
 ·obtain rfl:=gF h;exact dR
 rcases zA h with h|h
 ·obtain rfl:=gF h;exact dR
 rcases zA h with h|h
 ·obtain rfl:=gF h;exact dR
 ·cases h
def Mz{w:Wor}{m:fq}{k p:Int}{r:Wor×fq×fx}(h:vO w m k p=some r):nH w r:=by
 unfold vO at h;split at h
 ·cases h
 ·split at h
  ·cases h
  ·obtain rfl:=gF h;exact dR
def Th{w:Wor}{m:fq}{v:fB}{g:Gr}{e:En}{r:Wor×fq×fx}(h:z8 w m v g e=some r):nH w r:=by
 unfold z8 at h;rcases zA h with h|h
 ·exact YK h
 rcases zA h with h|h
 ·obtain rfl:=gF h;exact dR
 rcases zA h with h|h
 ·exact FQ h λx=>qj rfl
 rcases zA h with h|h
 ·exact FQ h λx=>qj rfl (by split <;> exact pA au)
 rcases zA h with h|h
 ·exact kZ h λx=>qj rfl
 rcases zA h with h|h
 ·obtain rfl:=gF h;exact dR
 rcases zA h with h|h
 ·exact kZ h λx=>qj rfl
 rcases zA h with h|h
 ·obtain rfl:=gF h;exact dR
 rcases zA h with h|h
 ·exact kZ h λx=>qj rfl
 rcases zA h with h|h
 ·rcases zA h with h|h
  ·obtain rfl:=gF h;exact dR
  ·obtain rfl:=gF h;exact dR
 rcases zA h with h|h
 ·obtain rfl:=gF h;exact dR
 rcases zA h with h|h
 ·exact Mz h
 rcases zA h with h|h
 ·exact Mz h
 rcases zA h with h|h
 ·exact FQ h λx=>qj rfl
 rcases zA h with h|h
 ·obtain rfl:=gF h;exact dR
 ·cases h
def Tf{w:Wor}{m:fq}{v:fB}{g:Gr}{e:En}{r:Wor×fq×fx}(h:xv w m v g e=some r):nH w r:=by
 unfold xv at h;rcases zA h with h|h
 ·obtain rfl:=gF h;exact dR
 rcases zA h with h|h
 ·obtain rfl:=gF h;exact dR
 rcases zA h with h|h
 ·rcases zA h with h|h
  ·obtain rfl:=gF h;exact dR
  ·obtain rfl:=gF h;exact dR
 rcases zA h with h|h
 ·obtain rfl:=gF h;exact dR
 rcases zA h with h|h
 ·exact FQ h λx=>qj rfl
 rcases zA h with h|h
 ·obtain rfl:=gF h;exact dR
 ·cases h
def WO{w:Wor}{m:fq}{r:Wor×fq×fx}(h:m9 w m=some r):J8 w r:=by
 unfold m9 at h;rcases zA h with h|h
 ·rcases zA h with h|h
  ·obtain rfl:=gF h;exact .inr ⟨⟨rfl,rfl⟩,rfl⟩
  ·obtain rfl:=gF h;exact .inl (qj rfl)
 rcases zA h with h|h
 ·obtain rfl:=gF h;exact .inl (qj rfl)
 rcases zA h with h|h
 ·rcases zA h with h|h
  ·cases h
  ·obtain rfl:=gF h;exact .inl (qj rfl)
 ·cases h
def U3{w:Wor}{m:fq}{r:Wor×fq×fx}(h:yZ w m=some r):nH w r:=by
 unfold yZ at h;rcases zA h with h|h
 ·rcases zA h with h|h
  ·obtain rfl:=gF h;exact dR
  ·exact kZ h λx=>qj rfl
 ·cases h
def Oo(w:Wor)(m:fq):nH w (mY w m):=by
 unfold mY;split
 ·exact dR
 ·exact dR
def R4{w:Wor}{m:fq}{r:Wor×fq×fx}(h:xu w m=some r):nH w r:=by
 unfold xu at h;rcases zA h with h|h
 ·obtain rfl:=gF h;split
  ·exact dR
  ·exact dR
 rcases zA h with h|h
 ·obtain rfl:=gF h;exact dR
 rcases zA h with h|h
 ·exact kZ h λx=>qj rfl
 rcases zA h with h|h
 ·obtain rfl:=gF h;split
  ·exact dR
  ·exact dR
 rcases zA h with h|h
 ·obtain rfl:=gF h;split
  ·exact Oo w _
  ·exact dR
 rcases zA h with h|h
 ·obtain⟨v,_,h⟩:=pj.1 h;exact kZ h λx=>qj rfl
 rcases zA h with h|h
 ·obtain⟨v,_,h⟩:=pj.1 h;obtain⟨x,_,h⟩:=pj.1 h;rcases zA h with h|h
  ·obtain rfl:=gF h;exact dR
  ·cases h
 rcases zA h with h|h
 ·obtain rfl:=gF h;exact Oo w m
 rcases zA h with h|h
 ·exact kZ h λx=>qj rfl
 rcases zA h with h|h
 ·obtain⟨v,_,h⟩:=pj.1 h;rcases zA h with h|h
  ·obtain rfl:=gF h;exact dR
  ·cases h
 ·cases h
def U4{w:Wor}{m:fq}{r:Wor×fq×fx}(h:yR w m=some r):nH w r:=by
 unfold yR at h;rcases zA h with h|h
 ·obtain⟨v,_,h⟩:=pj.1 h;exact kZ h λx=>qj rfl (by show(1:Int)≠6;decide)
 ·cases h
def CH{w:Wor}{m:fq}{v:fB}{g:Gr}{e:En}{r:Wor×fq×fx}(su:qP w m v g e)(h:x2 w m=some r):
  (m.op.kind=1/\z8 w m v g e=some r)\/(m.op.kind=2/\xv w m v g e=some r)\/(m.op.kind=3/\m9 w m=some r)\/(m.op.kind=4/\yZ w m=some r)\/(m.op.kind=5/\xu w m=some r)\/(m.op.kind=6/\yR w m=some r):=by
 unfold x2 at h;rw[su.ij]at h;dsimp only at h;rw[su.fR]at h;dsimp only at h;rw[su.ia]at h;dsimp only at h;rcases qf h with⟨k,h⟩|⟨_,h⟩
 ·exact .inl ⟨k,h⟩
 rcases qf h with⟨k,h⟩|⟨_,h⟩
 ·exact .inr (.inl ⟨k,h⟩)
 rcases qf h with⟨k,h⟩|⟨_,h⟩
 ·exact .inr (.inr (.inl ⟨k,h⟩))
 rcases qf h with⟨k,h⟩|⟨_,h⟩
 ·exact .inr (.inr (.inr (.inl ⟨k,h⟩)))
 rcases qf h with⟨k,h⟩|⟨_,h⟩
 ·exact .inr (.inr (.inr (.inr (.inl ⟨k,h⟩))))
 rcases qf h with⟨k,h⟩|⟨_,h⟩
 ·exact .inr (.inr (.inr (.inr (.inr ⟨k,h⟩))))
 ·cases h
def XE{w:Wor}{m:fq}{v:fB}{g:Gr}{e:En}{r:Wor×fq×fx}(su:qP w m v g e)(h:x2 w m=some r):J8 w r:=by
 rcases CH su h with⟨_,h⟩|⟨_,h⟩|⟨_,h⟩|⟨_,h⟩|⟨_,h⟩|⟨_,h⟩
 ·exact .inl (Th h)
 ·exact .inl (Tf h)
 ·exact WO h
 ·exact .inl (U3 h)
 ·exact .inl (R4 h)
 ·exact .inl (U4 h)
def C5(w:Wor)(m:fq)(r:Wor×fq×fx):Prop:=(m.pc<3/\r.2.1.pc<4)\/(m.pc=3/\r.2.1.version=w.current)\/(4<=m.pc/\r.2.1.version=m.version)
def Gi{α:Type}{w:Wor}{m:fq}{o:Option α}{f:α->Wor×fq×fx}{r:Wor×fq×fx}(h:o.map f=some r)(hf:∀x,C5 w m (f x)):C5 w m r:=by
 obtain⟨x,_,rfl⟩:=gU.1 h;exact hf x
def Jx{w:Wor}{m:fq}{f:fQ->Wor×fq×fx}{r:Wor×fq×fx}(h:wa w m f=some r)(hf:∀x,C5 w m (f x)):C5 w m r:=by
 unfold wa at h;rcases zA h with h|h
 ·cases h
 ·exact Gi h hf
def Nt{w:Wor}{m:fq}{k p:Int}{r:Wor×fq×fx}(hm:4<=m.pc)(h:vO w m k p=some r):C5 w m r:=by
 obtain⟨r0,x,_,_,_,_,e⟩:=Dx h;exact .inr (.inr ⟨hm,by rw[e]⟩)
def My{w:Wor}{m:fq}{v:fB}{g:Gr}{e:En}{r:Wor×fq×fx}(h:z8 w m v g e=some r):C5 w m r:=by
 have rt:(xi m v).version=m.version:=by
  unfold xi;repeat' split
  all_goals rfl
 unfold z8 at h;rcases qf h with⟨p,h⟩|⟨p,h⟩
 ·left
  refine⟨p,?_⟩;unfold oT at h;rcases zA h with h|h
  ·obtain rfl:=gF h;show(1:Int)<4;decide
  rcases zA h with h|h
  ·obtain rfl:=gF h;show(2:Int)<4;decide
  rcases zA h with h|h
  ·obtain rfl:=gF h;dsimp only;split <;> decide
  ·cases h
 rcases qf h with⟨p3,h⟩|⟨p3,h⟩
 ·obtain rfl:=gF h;exact .inr (.inl ⟨p3,by split <;> rfl⟩)
 have p4:4<=m.pc:=aw
 rcases zA h with h|h
 ·exact Jx h λx=>.inr (.inr ⟨p4,rfl⟩)
 rcases zA h with h|h
 ·exact Jx h λx=>.inr (.inr ⟨p4,by dsimp only;split <;> first|rfl|exact rt⟩)
 rcases zA h with h|h
 ·exact Gi h λx=>.inr (.inr ⟨p4,rfl⟩)
 rcases zA h with h|h
 ·obtain rfl:=gF h;exact .inr (.inr ⟨p4,rfl⟩)
 rcases zA h with h|h
 ·exact Gi h λx=>.inr (.inr ⟨p4,rfl⟩)
 rcases zA h with h|h
 ·obtain rfl:=gF h;exact .inr (.inr ⟨p4,by dsimp only;split <;> rfl⟩)
 rcases zA h with h|h
 ·exact Gi h λx=>.inr (.inr ⟨p4,rfl⟩)
 rcases zA h with h|h
 ·rcases zA h with h|h
  ·obtain rfl:=gF h;exact .inr (.inr ⟨p4,rfl⟩)
  ·obtain rfl:=gF h;exact .inr (.inr ⟨p4,rfl⟩)
 rcases zA h with h|h
 ·obtain rfl:=gF h;exact .inr (.inr ⟨p4,rfl⟩)
 rcases zA h with h|h
 ·exact Nt p4 h
 rcases zA h with h|h
 ·exact Nt p4 h
 rcases zA h with h|h
 ·exact Jx h λx=>.inr (.inr ⟨p4,rfl⟩)
 rcases zA h with h|h
 ·obtain rfl:=gF h;exact .inr (.inr ⟨p4,rfl⟩)
 ·cases h
def R5{w:Wor}{m:fq}{v:fB}{g:Gr}{e:En}{r:Wor×fq×fx}(su:qP w m v g e)(h:x2 w m=some r)(hd:r.2.1.done=true)(hk:r.2.1.answer.kind<=5):m.op.kind=1/\22<=m.pc/\r.2.1.answer=m.answer:=by
 have no:∀{K:List Int},(∀z∈K,6<=z)->¬wE K w m r:=λhK c=>by have:=hK _ (c.2.2.1 hd);omega
 rcases CH su h with⟨k,h⟩|⟨_,h⟩|⟨_,h⟩|⟨_,h⟩|⟨_,h⟩|⟨_,h⟩
 ·refine⟨k,?_⟩;rcases Hr su.done h with⟨_,_,_,c4,_⟩|⟨_,_,_,_,_,_,_,a4⟩|⟨_,c2,_,c3⟩
  ·rw[c4]at hd;cases hd
  ·rcases a4 with⟨_,_,e⟩|⟨_,_,p,_,e⟩ <;> (rw[e]at hd;exact absurd (su.done.symm.trans hd) ar)
  ·rcases c3 with e|e <;> rw[e] <;> exact⟨c2,rfl⟩
 ·exact(no ar (Hh su.done h)).elim
 ·exact(no ar (HW su.done h)).elim
 ·exact(no ar (Ll su.done h)).elim
 ·exact(no ar (G8 su.done h)).elim
 ·exact(no ar (HH su.done h)).elim
def VZ{N K:Nat}{w:Wor}{X:List fN}{t:Nat}{x:fN}{o:fG}(gi:GI N K w X)(hx:X[t]?=some x):(jo x t o).op.kind=1->20<=(jo x t o).pc->(jo x t o).answer.kind=1->(jo x t o).answer=km (jo x t o):=by
 cases hon:x.on with
 |false=>
  intro hk hp;have e:jo x t o=Beg.xa t o x.given:=aW
  rw[e]at hk hp;by_cases h:o.kind=2
  ·have:(Beg.xa t o x.given).op.kind=2:=by
    unfold Beg.xa;rw[gC h];unfold Beg.k9;repeat' split
    all_goals exact h
   omega
  ·rw[wx h]at hp;exact absurd (show(20:Int)<=0 from hp) ar
 |true=>
  have e:jo x t o=x.m:=aW
  rw[e];intro hk hp h1;obtain⟨os,hl,hti,_⟩:=gi.own;obtain⟨ow,ho⟩:∃o,os[t]?=some o:=⟨_,gp (by have:=(gm.1 hx).1;omega)⟩;obtain⟨L,_,_,h|⟨_,h⟩⟩:=(hti t x ow hx ho).open_
  ·have:=h.1;rw[hon]at this;cases this
  ·obtain⟨v,g,e,su,lc⟩:=h.lc;rcases lc with⟨_,lc⟩|⟨k,_⟩|⟨k,_⟩|⟨k,_⟩|⟨k,_⟩|⟨k,_⟩
   ·exact((lc.mB hp).2.2 h1).1
   all_goals omega
structure VI(s:Wor.iE):Prop where
 tr:Tr s
 cur:s.1.current=mu s.2.2
 run:∀(t:Nat) (x:fN),s.2.1[t]?=some x->x.on=true->x.m.op.kind=1->4<=x.m.pc->∃(f g:Nat) (e:fx),s.2.2[f]?=some e/\e.qN=true/\e.zf=(t:Int)/\e.op=x.done/\f<=g/\g<s.2.2.length/\mu (s.2.2.take g)=x.m.version
 fin:∀(τ:Nat) (e:fx),s.2.2[τ]?=some e->e.done=true->e.answer.kind=1->∃(f g:Nat) (e0:fx),f<=g/\g<=τ/\s.2.2[f]?=some e0/\e0.qN=true/\e0.zf=e.zf/\e0.op=e.op/\mu (s.2.2.take g)=e.answer.version
def Y6{N K:Nat}{s:Wor.iE}(gi:GI N K s.1 s.2.1)(vi:VI s)(p:Int)(hN:N<=100000000)(hK:K<=1099511627776):VI (yV s p):=by
 rcases ye gi p hN hK with⟨_,e⟩|⟨t,x,o,r,hat,hx,ho,hsu,htm,hst,_,e,gi2⟩
 ·rw[e];exact vi
 ·rw[e];obtain⟨v,g,en,su⟩:=yL hsu;have tl:=Fa su.done hst;have nt:=E7 o gi hx;have no:=CO gi hx ho;have eth:r.2.2.zf=(t:Int):=tl.2.2.trans nt;have hl:=(gm.1 hx).1;have cu:=XE su hst
  have fst:∃(f:Nat) (e:fx),f<=s.2.2.length/\(s.2.2++[yo r.2.2 x])[f]?=some e/\e.qN=true/\e.zf=(t:Int)/\e.op=x.done:=by
   cases hon:x.on with
   |true=>
    obtain⟨f,e1,p1,p2,p3,p4⟩:=vi.tr.on t x hx hon;exact⟨f,e1,Nat.le_of_lt (gm.1 p1).1,yS _ p1,p2,p3,p4⟩
   |false=>exact⟨s.2.2.length,_,gJ _,Fy _ _,cF,eth,rfl⟩
  have fX:(jo x t o).op.kind=1->4<=r.2.1.pc\/4<=(jo x t o).pc->∃(f g:Nat) (e:fx),(s.2.2++[yo r.2.2 x])[f]?=some e/\e.qN=true/\e.zf=(t:Int)/\e.op=x.done/\f<=g/\g<(s.2.2++[yo r.2.2 x]).length/\mu ((s.2.2++[yo r.2.2 x]).take g)=r.2.1.version:=λhk hp=>by
   have hh:z8 s.1 (jo x t o) v g en=some r:=by
    rcases CH su hst with⟨_,h⟩|⟨k,_⟩|⟨k,_⟩|⟨k,_⟩|⟨k,_⟩|⟨k,_⟩
    ·exact h
    all_goals omega
   rcases My hh with⟨q1,q2⟩|⟨q1,q2⟩|⟨q1,q2⟩
   ·omega
   ·obtain⟨f,e1,f0,p1,p2,p3,p4⟩:=fst;refine⟨f,s.2.2.length,e1,p1,p2,p3,p4,f0,aj,?_⟩;rw[vD _ (gJ _),pQ,q2,vi.cur]
   ·cases hon:x.on with
    |false=>
     have en2:jo x t o=Beg.xa t o x.given:=aW
     rw[no]at hk;rw[en2,wx aw]at q1;exact absurd (show(4:Int)<=0 from q1) ar
    |true=>
     have en2:jo x t o=x.m:=aW
     rw[en2]at hk q1 q2;obtain⟨f,g,e1,p1,p2,p3,p4,p5,p6,p7⟩:=vi.run t x hx hon hk q1;refine⟨f,g,e1,yS _ p1,p2,p3,p4,p5,by rw[gK];omega,?_⟩;rw[vD _ aw,q2,p7]
  refine⟨F3 vi.tr hx eth,?_,λt' x' h1 h2 h3 h4=>?_,λτ e1 h1 h2 h3=>?_⟩
  ·dsimp only;rw[Oi];have ce:C1 (mu s.2.2) (yo r.2.2 x)=C1 (mu s.2.2) r.2.2:=rfl;rw[ce];rcases cu with⟨c1,c2⟩|⟨c1,c2⟩
   ·rw[Z3 c2,c1,vi.cur]
   ·rw[c2];exact(gC c1).symm
  ·dsimp only at h1 ⊢;by_cases q:t=t'
   ·subst q;have gx:(s.2.1.set t (Wor.jk x r.2.1))[t]?=some (Wor.jk x r.2.1):=gD hl;rw[gx]at h1;cases h1
    have nd:r.2.1.done=false:=by
     cases z:r.2.1.done with
     |false=>rfl
     |true=>rw[Wor.DA z]at h2;cases h2
    rw[kn nd]at h3 h4 ⊢;dsimp only at h3 h4 ⊢;have ho2:(Wor.jk x r.2.1).ops[(Wor.jk x r.2.1).done]?=some o:=by rw[kn nd];exact ho
    have n2:=CO gi2 gx ho2;have e2:jo (Wor.jk x r.2.1) t o=r.2.1:=by rw[kn nd];rfl
    rw[e2]at n2;exact fX (by rw[no,<-n2];exact h3) (.inl h4)
   ·rw[pq q]at h1;obtain⟨f,g,e3,q1,q2,q3,q4,q5,q6,q7⟩:=vi.run t' x' h1 h2 h3 h4;refine⟨f,g,e3,yS _ q1,q2,q3,q4,q5,by rw[gK];omega,?_⟩;rw[vD _ aw];exact q7
  ·dsimp only at h1 ⊢;rcases vr h1 with⟨l1,h1⟩|⟨rfl,rfl⟩
   ·obtain⟨f,g,e0,q1,q2,q3,q4,q5,q6,q7⟩:=vi.fin τ e1 h1 h2 h3;refine⟨f,g,e0,q1,q2,yS _ q3,q4,q5,q6,?_⟩;rw[vD _ aw];exact q7
   ·have dn:r.2.1.done=true:=by rw[<-tl.1];exact h2
    have ea:(yo r.2.2 x).answer=r.2.1.answer:=tl.2.1 dn;rw[ea]at h3 ⊢;obtain⟨k1,k2,k3⟩:=R5 su hst dn aw;obtain⟨f,g2,e3,q1,q2,q3,q4,q5,q6,q7⟩:=fX k1 (.inr aw);have ra:=VZ gi hx k1 aw (by rw[<-k3];exact h3)
    have rv:r.2.1.version=r.2.1.answer.version:=by
     rw[k3,ra]
     have hh:z8 s.1 (jo x t o) v g en=some r:=by
      rcases CH su hst with⟨_,h⟩|⟨k,_⟩|⟨k,_⟩|⟨k,_⟩|⟨k,_⟩|⟨k,_⟩
      ·exact h
      all_goals omega
     rcases My hh with⟨z1,_⟩|⟨z1,_⟩|⟨_,z2⟩
     ·omega
     ·omega
     ·exact z2
    refine⟨f,g2,e3,q5,by rw[gK]at q6;simp at q6;omega,q1,q2,q3.trans eth.symm,q4,by rw[q7,rv]⟩
def Pf{N K:Nat}{s:Wor.iE}(gi:GI N K s.1 s.2.1)(vi:VI s)(l:List Int):∀k,k<=l.length->N+k<=100000000->K+k<=1099511627776->VI (iK s l k)
 |0,_,_,_=>vi
 |k+1,hk,hN,hK=>by
  have ih:=Pf gi vi l k aw aw aw;rw[ks (gp aw)];exact Y6 (BT gi l k aw aw aw) ih _ aw aw
def X5{s:Sna}{l:List fA}{n:Int}{w:Wor}(h:lS s l n=(w,0)):w.current=0:=by
 unfold lS at h;split at h
 ·have:=rF Prod.snd h;exact absurd (show(1:Int)=0 from this) ar
 ·have hw:_=w:=rF Prod.fst h;rw[<-hw]
def Sz{s:fW}(ok:nG s)(h:(qo s).2.2=0)(hf:(Cal.fS (qo s).1).2=0):∀c∈(Cal.fS (qo s).1).1,0<=c.iw->c.answer.kind=1->
  ∃g:Nat,c.from_<=(g:Int)/\(g:Int)<=c.iw/\c.iw<(qo s).1.length/\mu ((qo s).1.take g)=c.answer.version:=by
 have hb:=Fz h;have e1:qo s=((yN s).2.2,(yN s).1,0):=by unfold qo;rw[gC hb]
 obtain⟨q,hn⟩:=xe hb;obtain⟨_,_,_,p4,_,_⟩:=xK q
 have v0:VI (iV s):=by
  refine⟨FD _ _,X5 hn,λt x h1 h2=>?_,λτ e1 h1=>by cases h1⟩;obtain⟨L,_,rfl⟩:=gU.1 ((gz ..).symm.trans (show(s.threads.map wW)[t]?=some x from h1));cases h2
 have vi:VI (yN s):=Pf (CC ok hb) v0 s.zW s.zW.length (gJ _) aw aw;rw[e1]at hf ⊢;dsimp only at hf ⊢;intro c hc hto hk;unfold Cal.fS at hf hc;cases hbk:Cal.yE (yN s).2.2 (yN s).2.2.length with
 |none=>rw[hbk]at hf;cases hf
 |some b=>
  rw[hbk]at hc;dsimp only at hc;obtain⟨⟨f0,ef,l1,l2,l3,l4⟩,lt⟩:=Cal.DO _ hbk c hc;obtain⟨et,t1,t2,t3,t4,t5⟩:=lt hto;have tl:=(gm.1 t1).1;obtain⟨f,g,e0,q1,q2,q3,q4,q5,q6,q7⟩:=vi.fin _ et t1 t2 (by rw[t5];exact hk);have:=vi.tr.uniq _ _ ef e0 l1 q3 l2 q4 (by rw[q5,l3,t3]) (by rw[q6,l4,t4]);subst this;rw[t5]at q7;exact⟨g,aw,aw,aw,q7⟩
def Yp{N K:Nat}{w:Wor}{X:List fN}{t:Nat}{x:fN}{p:fG}{r:Wor×fq×fx}(gi:GI N K w X)(hx:X[t]?=some x)(hp:x.ops[x.done]?=some p)(hN:N<=100000000)(hK:K<=1099511627776)(hst:x2 w (jo x t p)=some r):jL w r.1 (j6 (jo x t p)):=by
 obtain⟨st,tg,hlen,hops,os,hol,hti,hsum⟩:=gi;have ft:=(gm.1 hx).1;obtain⟨o,ho⟩:∃o,os[t]?=some o:=⟨_,gp aw⟩;have ti:=hti t x o hx ho;have ow:∀k,o k<=Has w k:=λk=>by rw[hsum k];exact Ea _ t (by rw[gz,ho];rfl)
 have po:=hops x (gA hx) p (gA hp)
 obtain⟨x',hx1,hx2,hx3⟩:∃x',x'.m=jo x t p/\x'.on=true/\TI w t x' o:=by
  cases hon:x.on with
  |true=>exact⟨x,aW,hon,ti⟩
  |false=>exact⟨⟨x.ops,x.done,true,Beg.xa t p x.given,x.given⟩,aW,rfl,Mb st tg aw ti hon hp po hN ow⟩
 obtain⟨s1,s2,s3,r',s4,s5,s6,s7,s8,o',s9,s10⟩:=NZ st tg hx3 hx2 hN hK ow;rw[hx1]at s4 s8;obtain rfl:=gF (s4.symm.trans hst);exact s8
def wR{w w':Wor}{o:Key->Nat}(k:jL w w' o)(n:fA):zM w'.zd n=zM w.zd n:=by
 have e:w'.zd.map (·.name)=w.zd.map (·.name):=by
  refine pL λi=>?_
  rw[gz,gz];have l:=k.fI;cases h:w.zd[i]? with
  |none=>
   have:w'.zd[i]?=none:=by rw[rA]at h ⊢;omega
   rw[this]
  |some x=>
   obtain⟨y,hy⟩:∃y,w'.zd[i]?=some y:=⟨_,gp (by have:=(gm.1 h).1;omega)⟩;rw[hy];show some y.name=some x.name;rw[(k.kW i x y h hy).1]
 have f:∀l:List fQ,l.findIdx? (λr=>r.name == n)=(l.map (·.name)).findIdx? (λr=>r == n):=λl=>by rw[r4];rfl
 unfold zM;rw[f,f,e]
def iY(T:List (List fG))(e:fx):Option fG:=(T[e.zf.toNat]?).bind λl=>l[e.op.toNat]?
def mT(w:Wor)(n:fA):Prop:=0<=zM w.zd n/\∃l,w.zd[(zM w.zd n).toNat]?=some l/\l.drain=true
def M6{w w':Wor}{o:Key->Nat}{n:fA}(k:jL w w' o)(h:mT w n):mT w' n:=by
 obtain⟨h1,l,h2,h3⟩:=h;unfold mT;rw[wR k];obtain⟨y,hy⟩:∃y,w'.zd[(zM w.zd n).toNat]?=some y:=⟨_,gp (by have:=(gm.1 h2).1;have:=k.fI;omega)⟩;exact⟨h1,y,hy,(k.kW _ l y h2 hy).2 h3⟩
def U6{w:Wor}{m:fq}{v:fB}{g:Gr}{e:En}{r:Wor×fq×fx}(su:qP w m v g e)(h:x2 w m=some r)(hd:r.2.1.done=true)(hk:r.2.1.answer.kind=10)(ha:m.op.kind=1->20<=m.pc->m.answer.kind<=5):0<=zM w.zd m.op.listen/\∃l,r.1.zd[(zM w.zd m.op.listen).toNat]?=some l/\l.drain=true:=by
 have no:∀{K:List Int},(∀z∈K,z≠10)->¬wE K w m r:=λhK c=>hK _ (c.2.2.1 hd) hk
 rcases CH su h with⟨k,h⟩|⟨_,h⟩|⟨_,h⟩|⟨_,h⟩|⟨_,h⟩|⟨_,h⟩
 ·rcases Hr su.done h with⟨_,_,_,c4,_⟩|⟨_,_,_,_,_,_,_,a4⟩|⟨_,c2,_,c3⟩
  ·rw[c4]at hd;cases hd
  ·rcases a4 with⟨_,_,e⟩|⟨_,_,p,_,e⟩ <;> (rw[e]at hd;exact absurd (su.done.symm.trans hd) ar)
  ·have:=ha k aw;rcases c3 with e|e <;> (rw[e]at hk;dsimp only at hk;omega)
 ·exact(no ar (Hh su.done h)).elim
 ·exact(no ar (HW su.done h)).elim
 ·unfold yZ at h;rcases zA h with h|h
  ·rcases qf h with⟨_,h⟩|⟨q,h⟩
   ·obtain rfl:=gF h;exact absurd (show(7:Int)=10 from hk) ar
   ·obtain⟨x,hx,rfl⟩:=gU.1 h;exact⟨aw,_,gD (gm.1 hx).1,rfl⟩
  ·cases h
 ·exact(no ar (G8 su.done h)).elim
 ·exact(no ar (HH su.done h)).elim
def Ex(w:Wor)(m:fq):Prop:=m.pc<=3\/((m.pc=4\/m.pc=5)/\m.listen=zM w.zd m.op.listen)\/(20<=m.pc/\m.answer.kind=5)
def MR{w:Wor}{m:fq}{v:fB}{g:Gr}{e:En}{r:Wor×fq×fx}(hl:Ex w m)(hd:mT w m.op.listen)(h:z8 w m v g e=some r)(hdn:m.done=false):(r.2.1.op=m.op/\(r.2.1.pc<=3\/((r.2.1.pc=4\/r.2.1.pc=5)/\r.2.1.listen=zM w.zd m.op.listen)\/(20<=r.2.1.pc/\r.2.1.answer.kind=5)))/\(r.2.1.done=true->r.2.1.answer.kind=5):=by
 obtain⟨d0,l0,d1,d2⟩:=hd;have nd:∀{a:Prop},m.done=true->a:=λz=>absurd (hdn.symm.trans z) ar
 unfold z8 at h;rcases qf h with⟨p,h⟩|⟨p,h⟩
 ·unfold oT at h;rcases zA h with h|h
  ·obtain rfl:=gF h;exact⟨⟨rfl,.inl (by show(1:Int)<=3;decide)⟩,λz=>nd z⟩
  rcases zA h with h|h
  ·obtain rfl:=gF h;exact⟨⟨rfl,.inl (by show(2:Int)<=3;decide)⟩,λz=>nd z⟩
  rcases zA h with h|h
  ·obtain rfl:=gF h;exact⟨⟨rfl,.inl (by dsimp only;split <;> decide)⟩,λz=>nd z⟩
  ·cases h
 rcases qf h with⟨p3,h⟩|⟨p3,h⟩
 ·obtain rfl:=gF h;dsimp only;rw[gu aw];exact⟨⟨rfl,.inr (.inl ⟨.inl rfl,rfl⟩)⟩,λz=>nd z⟩
 rcases qf h with⟨p4,h⟩|⟨p4,h⟩
 ·unfold wa at h;rcases zA h with h|h
  ·cases h
  ·obtain⟨x,_,rfl⟩:=gU.1 h;rcases hl with q|⟨_,q⟩|⟨q,_⟩
   ·omega
   ·exact⟨⟨rfl,.inr (.inl ⟨.inr rfl,q⟩)⟩,λz=>nd z⟩
   ·omega
 rcases qf h with⟨p5,h⟩|⟨p5,h⟩
 ·rcases hl with q|⟨_,q⟩|⟨q,_⟩
  ·omega
  ·unfold wa at h;rcases zA h with h|h
   ·cases h
   ·obtain⟨x,hx,rfl⟩:=gU.1 h;rw[q,d1]at hx;cases hx
    dsimp only;rw[gC d2];exact⟨⟨rfl,.inr (.inr ⟨by show(20:Int)<=20;decide,rfl⟩)⟩,λz=>nd z⟩
  ·omega
 have q5:20<=m.pc/\m.answer.kind=5:=by
  rcases hl with q|⟨q,_⟩|q
  ·omega
  ·omega
  ·exact q
 rcases qf h with⟨p6,h⟩|⟨_,h⟩
 ·omega
 rcases qf h with⟨p6,h⟩|⟨_,h⟩
 ·omega
 rcases qf h with⟨p6,h⟩|⟨_,h⟩
 ·omega
 rcases qf h with⟨p6,h⟩|⟨_,h⟩
 ·omega
 rcases qf h with⟨p6,h⟩|⟨_,h⟩
 ·omega
 rcases qf h with⟨p6,h⟩|⟨_,h⟩
 ·omega
 rcases qf h with⟨p6,h⟩|⟨_,h⟩
 ·omega
 rcases qf h with⟨p6,h⟩|⟨_,h⟩
 ·obtain⟨_,_,_,_,_,_,e⟩:=Dx h;rw[e];exact⟨⟨rfl,.inr (.inr ⟨by show(20:Int)<=21;decide,q5.2⟩)⟩,λz=>nd z⟩
 rcases qf h with⟨p6,h⟩|⟨_,h⟩
 ·obtain⟨_,_,_,_,_,_,e⟩:=Dx h;rw[e];refine⟨⟨rfl,.inr (.inr ⟨?_,q5.2⟩)⟩,λz=>nd z⟩;dsimp only;split <;> decide
 rcases qf h with⟨p6,h⟩|⟨_,h⟩
 ·unfold wa at h;rcases zA h with h|h
  ·cases h
  ·obtain⟨x,hx,rfl⟩:=gU.1 h;exact⟨⟨rfl,.inr (.inr ⟨by show(20:Int)<=23;decide,q5.2⟩)⟩,λz=>nd z⟩
 rcases qf h with⟨p6,h⟩|⟨_,h⟩
 ·obtain rfl:=gF h;exact⟨⟨rfl,.inr (.inr ⟨q5.1,q5.2⟩)⟩,λ_=>q5.2⟩
 ·cases h
structure DI(T:List (List fG))(s:Wor.iE):Prop where
 tr:Tr s
 ops:s.2.1.map (·.ops)=T
 dr:∀(τ:Nat) (e:fx) (o:fG),s.2.2[τ]?=some e->e.done=true->e.answer.kind=10->iY T e=some o->mT s.1 o.listen
 run:∀(t:Nat) (x:fN),s.2.1[t]?=some x->x.on=true->x.m.op.kind=1->∀(f τ:Nat) (ef e:fx) (o:fG),s.2.2[f]?=some ef->ef.qN=true->ef.zf=(t:Int)->ef.op=x.done->τ<f->s.2.2[τ]?=some e->e.done=true->e.answer.kind=10->iY T e=some o->o.listen=x.m.op.listen->Ex s.1 x.m
 fin:∀(κ f τ:Nat) (ec ef e:fx) (oc o:fG),s.2.2[κ]?=some ec->ec.done=true->iY T ec=some oc->oc.kind=1->s.2.2[f]?=some ef->ef.qN=true->ef.zf=ec.zf->ef.op=ec.op->τ<f->s.2.2[τ]?=some e->e.done=true->e.answer.kind=10->iY T e=some o->o.listen=oc.listen->ec.answer.kind=5
def YL{N K:Nat}{T:List (List fG)}{s:Wor.iE}(gi:GI N K s.1 s.2.1)(di:DI T s)(p:Int)(hN:N<=100000000)(hK:K<=1099511627776):DI T (yV s p):=by
 rcases ye gi p hN hK with⟨_,e⟩|⟨t,x,o,r,hat,hx,ho,hsu,htm,hst,_,e,gi2⟩
 ·rw[e];exact di
 ·rw[e];obtain⟨v,g,en,su⟩:=yL hsu;have tl:=Fa su.done hst;have nt:=E7 o gi hx;have no:=CO gi hx ho;have eth:r.2.2.zf=(t:Int):=tl.2.2.trans nt;have hl:=(gm.1 hx).1;have kp:=Yp gi hx ho hN hK hst;have tr':=F3 (m:=r.2.1) (w:=r.1) di.tr hx eth
  have ox:iY T (yo r.2.2 x)=some o:=by
   unfold iY;have h1:(yo r.2.2 x).zf.toNat=t:=by show r.2.2.zf.toNat=t;rw[eth,toNat_cast]
   have h2:(yo r.2.2 x).op.toNat=x.done:=toNat_cast x.done;rw[h1,h2,<-di.ops,gz,hx];exact ho
  have oth:∀(e:fx) (oo:fG),e.zf=(t:Int)->e.op=x.done->iY T e=some oo->oo=o:=λe oo h1 h2 h3=>by
   unfold iY at h3;rw[h1,h2,toNat_cast,toNat_cast,<-di.ops,gz,hx]at h3;have h3:x.ops[x.done]?=some oo:=h3;rw[ho]at h3;exact(gF h3).symm
  have dr':∀(τ:Nat) (e:fx) (oo:fG),(s.2.2++[yo r.2.2 x])[τ]?=some e->e.done=true->e.answer.kind=10->iY T e=some oo->mT r.1 oo.listen:=λτ e oo h1 h2 h3 h4=>by
   rcases vr h1 with⟨_,h1⟩|⟨_,rfl⟩
   ·exact M6 kp (di.dr τ e oo h1 h2 h3 h4)
   ·rw[ox]at h4;cases h4
    have dn:r.2.1.done=true:=by rw[<-tl.1];exact h2
    have ea:(yo r.2.2 x).answer=r.2.1.answer:=tl.2.1 dn;rw[ea]at h3;obtain⟨q1,q2⟩:=U6 su hst dn h3 λa b=>(Ow gi hx a b).2
    rw[no]at q1 q2;unfold mT;rw[wR kp];exact⟨q1,q2⟩
  have lt:(jo x t o).op.kind=1->∀(f τ:Nat) (ef e:fx) (oo:fG),(s.2.2++[yo r.2.2 x])[f]?=some ef->ef.qN=true->ef.zf=(t:Int)->ef.op=x.done->τ<f->(s.2.2++[yo r.2.2 x])[τ]?=some e->e.done=true->e.answer.kind=10->iY T e=some oo->oo.listen=o.listen->Ex s.1 (jo x t o)/\mT s.1 o.listen:=λhk f τ ef e oo h1 h2 h3 h4 h5 h6 h7 h8 h9 h10=>by
   have fl:=(gm.1 h1).1
   have h6':s.2.2[τ]?=some e:=by
    rcases vr h6 with⟨_,h6⟩|⟨q,_⟩
    ·exact h6
    ·simp at fl;omega
   have dd:=di.dr τ e oo h6' h7 h8 h9;rw[h10]at dd;refine⟨?_,dd⟩;cases hon:x.on with
   |true=>
    have en2:jo x t o=x.m:=aW
    rcases vr h1 with⟨_,h1⟩|⟨_,rfl⟩
    ·rw[en2]at hk no ⊢;exact di.run t x hx hon hk f τ ef e oo h1 h2 h3 h4 h5 h6' h7 h8 h9 (by rw[no];exact h10)
    ·have:(!x.on)=true:=h2;rw[hon]at this;cases this
   |false=>
    have en2:jo x t o=Beg.xa t o x.given:=aW
    rw[no]at hk;rw[en2,wx aw];exact .inl (by show(0:Int)<=3;decide)
  have iv:(jo x t o).op.kind=1->z8 s.1 (jo x t o) v g en=some r:=λhk=>by
   rcases CH su hst with⟨_,h⟩|⟨k,_⟩|⟨k,_⟩|⟨k,_⟩|⟨k,_⟩|⟨k,_⟩
   ·exact h
   all_goals omega
  refine⟨tr',?_,dr',λt' x' h1 h2 h3 f τ ef e oo g1 g2 g3 g4 g5 g6 g7 g8 g9 g10=>?_,λκ f τ ec ef e oc oo h1 h2 h3 h4 g1 g2 g3 g4 g5 g6 g7 g8 g9 g10=>?_⟩
  ·dsimp only;rw[rH,NS,<-di.ops];exact yn _ _ (by rw[gz,hx];rfl)
  ·dsimp only at h1 g1 g6 ⊢;by_cases q:t=t'
   ·subst q;have gx:(s.2.1.set t (Wor.jk x r.2.1))[t]?=some (Wor.jk x r.2.1):=gD hl;rw[gx]at h1;cases h1
    have nd:r.2.1.done=false:=by
     cases z:r.2.1.done with
     |false=>rfl
     |true=>rw[Wor.DA z]at h2;cases h2
    rw[kn nd]at h3 g4 g10 ⊢;dsimp only at h3 g4 g10 ⊢;have ho2:(Wor.jk x r.2.1).ops[(Wor.jk x r.2.1).done]?=some o:=by rw[kn nd];exact ho
    have n2:=CO gi2 gx ho2;have e2:jo (Wor.jk x r.2.1) t o=r.2.1:=by rw[kn nd];rfl
    rw[e2]at n2;have hk:(jo x t o).op.kind=1:=by rw[no,<-n2];exact h3
    obtain⟨l1,l2⟩:=lt hk f τ ef e oo g1 g2 g3 g4 g5 g6 g7 g8 g9 (by rw[g10,n2]);have z:=(MR l1 (by rw[no];exact l2) (iv hk) su.done).1;unfold Ex;rw[wR kp,z.1];exact z.2
   ·rw[pq q]at h1;have fl:=(gm.1 g1).1
    have g1':s.2.2[f]?=some ef:=by
     rcases vr g1 with⟨_,g1⟩|⟨_,rfl⟩
     ·exact g1
     ·have:(t:Int)=t':=eth.symm.trans g3;omega
    have g6':s.2.2[τ]?=some e:=by
     rcases vr g6 with⟨_,g6⟩|⟨z,_⟩
     ·exact g6
     ·have:=(gm.1 g1').1;omega
    have z:=di.run t' x' h1 h2 h3 f τ ef e oo g1' g2 g3 g4 g5 g6' g7 g8 g9 g10;unfold Ex at z ⊢;rw[wR kp];exact z
  ·dsimp only at h1 g1 g6;rcases vr h1 with⟨l1,h1⟩|⟨l1,rfl⟩
   ·have g1':s.2.2[f]?=some ef:=by
     rcases vr g1 with⟨_,g1⟩|⟨lf,rfl⟩
     ·exact g1
     ·
      obtain⟨t',x',z1,z2,z3,z4⟩:=di.tr.th ec (gA h1);have tt:t'=t:=by have:r.2.2.zf=ec.zf:=g3;omega
      subst tt;rw[hx]at z2;cases z2
      have hoff:x.on=false:=by have:(!x.on)=true:=g2;simpa using this
      have zo:(x.done:Int)=ec.op:=g4;rcases z4 with z4|⟨_,z4⟩
      ·omega
      ·rw[hoff]at z4;cases z4
    have g6':s.2.2[τ]?=some e:=by
     rcases vr g6 with⟨_,g6⟩|⟨z,_⟩
     ·exact g6
     ·have:=(gm.1 g1').1;omega
    exact di.fin κ f τ ec ef e oc oo h1 h2 h3 h4 g1' g2 g3 g4 g5 g6' g7 g8 g9 g10
   ·have dn:r.2.1.done=true:=by rw[<-tl.1];exact h2
    have ea:(yo r.2.2 x).answer=r.2.1.answer:=tl.2.1 dn;rw[ea];rw[ox]at h3;cases h3
    have hk:(jo x t o).op.kind=1:=by rw[no];exact h4
    obtain⟨m1,m2⟩:=lt hk f τ ef e oo g1 g2 (g3.trans eth) g4 g5 g6 g7 g8 g9 g10;exact(MR m1 (by rw[no];exact m2) (iv hk) su.done).2 dn
def OQ{N K:Nat}{T:List (List fG)}{s:Wor.iE}(gi:GI N K s.1 s.2.1)(di:DI T s)(l:List Int):∀k,k<=l.length->N+k<=100000000->K+k<=1099511627776->DI T (iK s l k)
 |0,_,_,_=>di
 |k+1,hk,hN,hK=>by
  have ih:=OQ gi di l k aw aw aw;rw[ks (gp aw)];exact YL (BT gi l k aw aw aw) ih _ aw aw
def R7{s:fW}(ok:nG s)(h:(qo s).2.2=0)(hf:(Cal.fS (qo s).1).2=0):∀c∈(Cal.fS (qo s).1).1,∀d∈(Cal.fS (qo s).1).1,0<=c.iw->c.answer.kind=10->0<=d.iw->c.iw<d.from_->
  ∀(lc ld:List fG) (oc od:fG),s.threads[c.zf.toNat]?=some lc->lc[c.op.toNat]?=some oc->s.threads[d.zf.toNat]?=some ld->ld[d.op.toNat]?=some od->od.kind=1->oc.listen=od.listen->d.answer.kind=5:=by
 have hb:=Fz h;have e1:qo s=((yN s).2.2,(yN s).1,0):=by unfold qo;rw[gC hb]
 obtain⟨q,hn⟩:=xe hb;obtain⟨_,_,_,p4,_,_⟩:=xK q
 have d0:DI s.threads (iV s):=by
  refine⟨FD _ _,?_,λτ e o h1=>(by cases h1),λt x h1 h2=>?_,λκ f τ ec ef e oc o h1=>(by cases h1)⟩
  ·show(s.threads.map wW).map (·.ops)=s.threads;rw[rY];exact List.map_id _
  ·obtain⟨L,_,rfl⟩:=gU.1 ((gz ..).symm.trans (show(s.threads.map wW)[t]?=some x from h1));cases h2
 have di:DI s.threads (yN s):=OQ (CC ok hb) d0 s.zW s.zW.length (gJ _) aw aw;rw[e1]at hf ⊢;dsimp only at hf ⊢;intro c hc d hd hto hk hto2 ft lc ld oc od a1 a2 a3 a4 a5 a6;unfold Cal.fS at hf hc hd;cases hbk:Cal.yE (yN s).2.2 (yN s).2.2.length with
 |none=>rw[hbk]at hf;cases hf
 |some b=>
  rw[hbk]at hc hd;dsimp only at hc hd;obtain⟨_,lt1⟩:=Cal.DO _ hbk c hc;obtain⟨et,t1,t2,t3,t4,t5⟩:=lt1 hto;obtain⟨⟨f0,ef,l1,l2,l3,l4⟩,lt2⟩:=Cal.DO _ hbk d hd;obtain⟨ed,u1,u2,u3,u4,u5⟩:=lt2 hto2;have o1:iY s.threads et=some oc:=by unfold iY;rw[t3,t4,a1];exact a2
  have o2:iY s.threads ed=some od:=by unfold iY;rw[u3,u4,a3];exact a4
  rw[<-u5];exact di.fin _ _ _ ed ef et od oc u1 u2 o2 a5 l1 l2 (by rw[l3,u3]) (by rw[l4,u4]) (show c.iw.toNat<d.from_.toNat by omega) t1 t2 (by rw[t5];exact hk) o1 a6
def Dm(v:fB):List Int:=v.zm.map (·.zt)
structure TkK(w w':Wor):Prop where
 le:w.ze.length<=w'.ze.length
 at_:∀(i:Nat) v v',w.ze[i]?=some v->w'.ze[i]?=some v'->Dm v'=Dm v
 new:∀(i:Nat) v',w.ze.length<=i->w'.ze[i]?=some v'->∀t∈Dm v',t=0
def DN{α:Type}{l:List α}{i:Nat}{x:α}(h:l[i]?=some x):l.set i x=l:=by
 obtain⟨h1,h2⟩:=gm.1 h;rw[<-h2];exact eE h1
section
variable {w:Wor} {m:fq} {v:fB} {g:Gr} {e:En} {r:Wor×fq×fx}
end
def Kn(v:Nat)(e:fx):Bool:=e.cell == 6 && e.version == (v:Int)
structure TkI(s:Wor.iE):Prop where
 at_:∀(i:Nat) (v:fB) (t:Int),s.1.ze[i]?=some v->Dm v=[t]->t=(s.2.2.countP (Kn i):Nat)
 ev:∀(j:Nat) (e:fx),s.2.2[j]?=some e->e.cell=6->∃(i:Nat) (v:fB),e.version=(i:Int)/\s.1.ze[i]?=some v/\∀t,Dm v=[t]->e.value=((s.2.2.take j).countP (Kn i):Nat)
def CJ(w:Wor)(o:fG)(i j k:Int)(R:List Int):Prop:=(0<=i/\0<=j)/\∃v c,w.ze[i.toNat]?=some v/\v.snap.zk[j.toNat]?=some c/\(c.xb=1->R=[])/\
 (c.xb≠1->(xG c o.d0 o.d1).2.2=0/\∃a b,R=[a,b]/\k=if b<a then (xG c o.d0 o.d1).2.1 else (xG c o.d0 o.d1).1)
def GG(w:Wor)(m:fq):Prop:=∃v c,w.ze[m.version.toNat]?=some v/\v.snap.zk[m.zg.toNat]?=some c/\c.xb≠1/\(xG c m.op.d0 m.op.d1).2.2=0/\m.end_=(xG c m.op.d0 m.op.d1).1/\m.other=(xG c m.op.d0 m.op.d1).2.1
structure EL(w:Wor)(m:fq)(R:List Int):Prop where
 e5:m.pc<=5->R=[]
 e6:m.pc=6->R=[]/\∃v c,w.ze[m.version.toNat]?=some v/\v.snap.zk[m.zg.toNat]?=some c/\c.xb=1
 e7:m.pc=7->R=[]/\GG w m
 e8:m.pc=8->R=[m.i]/\GG w m
 e9:9<=m.pc/\m.pc<=12->CJ w m.op m.version m.zg m.end_ R
 PO:20<=m.pc->m.answer.kind=1->CJ w m.op m.answer.version m.answer.zg m.answer.end_ R
section
variable {w:Wor} {m:fq} {R:List Int}
end
def CJ.keep{w w':Wor}{p:Key->Nat}(kp:jL w w' p){o:fG}{i j k:Int}{R:List Int}(h:CJ w o i j k R):CJ w' o i j k R:=by
 obtain⟨hn,v,c,h1,h2,h3,h4⟩:=h;obtain⟨v',hv'⟩:∃v',w'.ze[i.toNat]?=some v':=⟨_,gp (by have:=(gm.1 h1).1;have:=kp.lu;omega)⟩;exact⟨hn,v',c,hv',by rw[(kp.fX _ v v' h1 hv').snap];exact h2,h3,h4⟩
def EL.keep{w w':Wor}{p:Key->Nat}(kp:jL w w' p){m:fq}{R:List Int}(h:EL w m R):EL w' m R:=by
 have at_:∀{i:Nat} {v:fB},w.ze[i]?=some v->∃v',w'.ze[i]?=some v'/\v'.snap=v.snap:=λ{i v} h1=>by
  obtain⟨v',hv'⟩:∃v',w'.ze[i]?=some v':=⟨_,gp (by have:=(gm.1 h1).1;have:=kp.lu;omega)⟩;exact⟨v',hv',(kp.fX _ v v' h1 hv').snap⟩
 have two:GG w m->GG w' m:=λ⟨v,c,h1,h2,h3⟩=>by
  obtain⟨v',a,b⟩:=at_ h1;exact⟨v',c,a,by rw[b];exact h2,h3⟩
 exact⟨h.e5,λz=>⟨(h.e6 z).1,by obtain⟨v,c,h1,h2,h3⟩:=(h.e6 z).2;obtain⟨v',a,b⟩:=at_ h1;exact⟨v',c,a,by rw[b];exact h2,h3⟩⟩,
  λz=>⟨(h.e7 z).1,two (h.e7 z).2⟩,λz=>⟨(h.e8 z).1,two (h.e8 z).2⟩,λz=>(h.e9 z).keep kp,λz k=>(h.PO z k).keep kp⟩
def P1(t:Int)(e:fx):Bool:=decide (e.zf=t) && (decide (e.cell=7) && decide (e.access=1))
def Kl(l:List fx)(t:Int)(f:Nat):List Int:=((l.drop f).filter (P1 t)).map (·.value)
structure LI(s:Wor.iE):Prop where
 tr:Tr s
 rd:∀(t:Nat) (x:fN),s.2.1[t]?=some x->x.on=true->x.m.op.kind=1->∃(f:Nat) (e:fx),s.2.2[f]?=some e/\e.qN=true/\e.zf=(t:Int)/\e.op=x.done/\EL s.1 x.m (Kl s.2.2 t f)
 fin:∀(τ:Nat) (e:fx),s.2.2[τ]?=some e->e.done=true->e.answer.kind=1->∃(f:Nat) (e0:fx) (t:Nat) (x:fN) (o:fG),f<=τ/\s.2.2[f]?=some e0/\e0.qN=true/\e0.zf=e.zf/\e0.op=e.op/\
  e.zf=(t:Int)/\s.2.1[t]?=some x/\0<=e.op/\x.ops[e.op.toNat]?=some o/\CJ s.1 o e.answer.version e.answer.zg e.answer.end_ (Kl (s.2.2.take (τ+1)) t f)
end Go.Run
