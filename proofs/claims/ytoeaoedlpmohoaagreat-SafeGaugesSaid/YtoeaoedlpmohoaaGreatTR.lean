import Derived.Test.YtoeaoedlpmohoaaGreatTQ
import Derived.Test.YtoeaoedlpmohoaaGreatT0
set_option linter.all false
set_option maxRecDepth 100000
set_option maxHeartbeats 4000000
namespace Go.Run
open Go.Ab Go.Proofs Tryz Go.Gat Go.Nam Go.Hos Go.Con Go.Sna Go.Pla Go.Ply Go.Wor
open Go.Hy hiding encI
def KD(k:Nat)(a:fA):Nat:=if 1<=a.kind/\a.kind<=5/\(k=0\/a.kind=k) then 1 else 0
def Qs(k:Nat)(m:fi):Nat:=if m.op.kind=1/\m.done=false/\(if k=0 then 22 else 21)<=m.pc then KD k m.answer else 0
def Qt(k:Nat)(x:fB):Nat:=if x.on=true then Qs k x.m else 0
def Qr(k:Nat)(e:fk):Nat:=if e.done=true then KD k e.answer else 0
def zzj(k:Nat)(l:List (List Int)):Int:=(l.map λr=>(r[k]?).getD 0).sum
def oN(e:fk):Prop:=e.cell=10/\e.access=3
def nQ(K:List Int)(w:Wor)(m:fi)(r:Wor×fi×fk):Prop:=r.1.counts=w.counts/\r.2.1.op=m.op/\(r.2.1.done=true->r.2.1.answer.kind∈K)/\¬oN r.2.2
def Eb{e:fk}(h:e.cell≠10):¬oN e:=λz=>h z.1
def CM{K:List Int}{α:Type}{w:Wor}{m:fi}{o:Option α}{f:α->Wor×fi×fk}{r:Wor×fi×fk}(h:o.map f=some r)(hf:∀x,nQ K w m (f x)):nQ K w m r:=by
 obtain⟨x,_,rfl⟩:=gM.1 h;exact hf x
def XG{K:List Int}{w:Wor}{m:fi}{f:fI->Wor×fi×fk}{r:Wor×fi×fk}(h:iU w m f=some r)(hf:∀x,nQ K w m (f x)):nQ K w m r:=by
 unfold iU at h;rcases zD h with h|h
 ·cases h
 ·exact CM h hf
def xw{K:List Int}{w w':Wor}{m m':fi}{e:fk}(h1:w'.counts=w.counts)(h2:m'.op=m.op)(h3:m'.done=false)(h4:e.cell≠10:=by exact gJ au):nQ K w m (w',m',e):=⟨h1,h2,λq=>absurd (q.symm.trans h3) ar,Eb h4⟩
def kN{K:List Int}{w w':Wor}{m m':fi}{e:fk}(h1:w'.counts=w.counts)(h2:m'.op=m.op)(h3:m'.answer.kind∈K)(h4:e.cell≠10:=by exact gJ au):nQ K w m (w',m',e):=⟨h1,h2,λ_=>h3,Eb h4⟩
def SL{w:Wor}{m:fi}{v:fp}{g:Gr}{e:En}{r:Wor×fi×fk}(hd:m.done=false)(h:j9 w m v g e=some r):nQ [6,7] w m r:=by
 unfold j9 at h;rcases zD h with h|h
 ·obtain rfl:=gp h;exact dy
 rcases zD h with h|h
 ·obtain rfl:=gp h;exact dy
 rcases zD h with h|h
 ·rcases zD h with h|h
  ·obtain rfl:=gp h;exact dy
  ·obtain rfl:=gp h;exact dy
 rcases zD h with h|h
 ·obtain rfl:=gp h;exact dy
 rcases zD h with h|h
 ·exact XG h λx=>kN J J (by exact gJ au)
 rcases zD h with h|h
 ·obtain rfl:=gp h;exact dA
 ·cases h
def Vg{w:Wor}{m:fi}{r:Wor×fi×fk}(hd:m.done=false)(h:wy w m=some r):nQ [8,9] w m r:=by
 unfold wy at h;rcases zD h with h|h
 ·rcases zD h with h|h
  ·obtain rfl:=gp h;exact dy
  ·obtain rfl:=gp h;exact dA
 rcases zD h with h|h
 ·obtain rfl:=gp h;exact dy
 rcases zD h with h|h
 ·rcases zD h with h|h
  ·cases h
  ·obtain rfl:=gp h;exact dA
 ·cases h
def T1{w:Wor}{m:fi}{r:Wor×fi×fk}(hd:m.done=false)(h:yX w m=some r):nQ [7,10] w m r:=by
 unfold yX at h;rcases zD h with h|h
 ·rcases zD h with h|h
  ·obtain rfl:=gp h;exact dA
  ·exact CM h λx=>kN J J (by exact gJ au)
 ·cases h
def OS(w:Wor)(m m0:fi)(hd:m.done=false)(ho:m.op=m0.op):nQ [11,12] w m0 (iX w m):=by
 unfold iX;split
 ·exact kN J ho (by exact gJ au)
 ·refine xw J ?_ ?_
  ·unfold BA;repeat' split
   all_goals exact ho
  ·unfold BA;repeat' split
   all_goals exact hd
def RP{w:Wor}{m:fi}{r:Wor×fi×fk}(hd:m.done=false)(h:jY w m=some r):nQ [11,12] w m r:=by
 unfold jY at h;rcases zD h with h|h
 ·obtain rfl:=gp h;split
  ·exact dy
  ·exact dA
 rcases zD h with h|h
 ·obtain rfl:=gp h;exact dy
 rcases zD h with h|h
 ·refine CM h λx=>xw J ?_ ?_
  ·unfold oY;repeat' split
   all_goals rfl
  ·unfold oY;repeat' split
   all_goals exact hd
 rcases zD h with h|h
 ·obtain rfl:=gp h;split
  ·exact dy
  ·exact dy
 rcases zD h with h|h
 ·obtain rfl:=gp h;split
  ·exact OS w (iI m 8 0) m hd J
  ·refine xw J ?_ ?_
   ·unfold Ax;repeat' split
    all_goals rfl
   ·unfold Ax;repeat' split
    all_goals exact hd
 rcases zD h with h|h
 ·obtain⟨v,_,h⟩:=gO.1 h;refine CM h λx=>xw J ?_ ?_
  ·unfold oq;repeat' split
   all_goals rfl
  ·unfold oq;repeat' split
   all_goals exact hd
 rcases zD h with h|h
 ·obtain⟨v,_,h⟩:=gO.1 h;obtain⟨x,_,h⟩:=gO.1 h;rcases zD h with h|h
  ·obtain rfl:=gp h;exact dy
  ·cases h
 rcases zD h with h|h
 ·obtain rfl:=gp h;exact OS w m m hd J
 rcases zD h with h|h
 ·refine CM h λx=>xw J ?_ ?_
  ·split <;> rfl
  ·split <;> exact hd
 rcases zD h with h|h
 ·obtain⟨v,_,h⟩:=gO.1 h;rcases zD h with h|h
  ·obtain rfl:=gp h;exact dy
  ·cases h
 ·cases h
def Np(w:Wor)(m:fi)(n:Int):(ju w m n).op=m.op/\((ju w m n).done=m.done\/(ju w m n).answer.kind=13):=by
 unfold ju;dsimp only;repeat' split
 all_goals exact⟨rfl,by first|exact .inl rfl|exact .inr J⟩
def T2{w:Wor}{m:fi}{r:Wor×fi×fk}(hd:m.done=false)(h:yF w m=some r):nQ [13] w m r:=by
 unfold yF at h;rcases zD h with h|h
 ·obtain⟨v,_,h⟩:=gO.1 h;refine CM h λx=>⟨rfl,(Np w m x).1,λq=>?_,λz=>absurd (show(1:Int)=3 from z.2) ar⟩
  dsimp only at q ⊢;rcases(Np w m x).2 with z|z
  ·exact absurd (hd.symm.trans (z.symm.trans q)) ar
  ·exact gX.2 z
 ·cases h
def zF{α:Type}{c:Prop}[Decidable c]{a b x:α}(h:(if c then a else b)=x):(c/\a=x)\/(¬c/\b=x):=by
 by_cases q:c
 ·rw[gh q]at h;exact .inl ⟨q,h⟩
 ·rw[dZ q]at h;exact .inr ⟨q,h⟩
def CB(w:Wor)(m:fi)(r:Wor×fi×fk):Prop:=
 (r.1.counts=w.counts/\m.pc<20/\r.2.1.pc<=20/\r.2.1.done=false/\¬oN r.2.2)\/
 (∃(k:Nat) (r0:List Int) (x:Int),w.counts[m.zf.toNat]?=some r0/\r0[k]?=some x/\r.1.counts=w.counts.set m.zf.toNat (r0.set k (IntKind.u64.wrap (x+1)))/\(oN r.2.2/\r.2.2.value=k)/\((m.pc=20/\k=(Ac m.answer.kind).toNat/\r.2.1={m with pc:=21})\/(m.pc=21/\k=0/\∃p,22<=p/\r.2.1={m with pc:=p})))\/
 (r.1.counts=w.counts/\22<=m.pc/\¬oN r.2.2/\(r.2.1={m with pc:=23}\/r.2.1={m with done:=true}))
def F5{α:Type}{w:Wor}{m:fi}{o:Option α}{f:α->Wor×fi×fk}{r:Wor×fi×fk}(h:o.map f=some r)(hf:∀x,CB w m (f x)):CB w m r:=by
 obtain⟨x,_,rfl⟩:=gM.1 h;exact hf x
def Ji{w:Wor}{m:fi}{f:fI->Wor×fi×fk}{r:Wor×fi×fk}(h:iU w m f=some r)(hf:∀x,CB w m (f x)):CB w m r:=by
 unfold iU at h;rcases zD h with h|h
 ·cases h
 ·exact F5 h hf
def vM{w w':Wor}{m m':fi}{e:fk}(h1:w'.counts=w.counts)(h2:m.pc<20)(h3:m'.pc<=20)(h4:m'.done=false)(h5:e.cell≠10:=by exact gJ au):CB w m (w',m',e):=.inl ⟨h1,h2,h3,h4,Eb h5⟩
def M7{w:Wor}{m:fi}{k p:Int}{r:Wor×fi×fk}(h:vH w m k p=some r):∃r0 x,w.counts[m.zf.toNat]?=some r0/\r0[k.toNat]?=some x/\r.1.counts=w.counts.set m.zf.toNat (r0.set k.toNat (IntKind.u64.wrap (x+1)))/\(oN r.2.2/\r.2.2.value=k)/\r.2.1={m with pc:=p}:=by
 unfold vH at h;split at h
 ·cases h
 ·rename_i r0 h0;split at h
  ·cases h
  ·rename_i x hx;obtain rfl:=gp h;exact⟨r0,x,h0,hx,rfl,⟨⟨rfl,rfl⟩,rfl⟩,rfl⟩
def TP{w:Wor}{m:fi}{v:fp}{g:Gr}{e:En}{r:Wor×fi×fk}(hd:m.done=false)(h:qj w m v g e=some r):CB w m r:=by
 have rt:m.pc<=20->(xd m v).pc<=20:=λh=>by
  unfold xd;repeat' split
  all_goals first|exact h|exact gJ au
 have rd:(xd m v).done=false:=by
  unfold xd;repeat' split
  all_goals exact hd
 unfold qj at h;rcases zF h with⟨p,h⟩|⟨p,h⟩
 ·unfold Bw at h;rcases zD h with h|h
  ·obtain rfl:=gp h;exact vM J aw (by show(1:Int)<=20;decide) hd
  rcases zD h with h|h
  ·obtain rfl:=gp h;exact vM J aw (by show(2:Int)<=20;decide) hd
  rcases zD h with h|h
  ·obtain rfl:=gp h;exact vM J aw (by dsimp only;split <;> decide) hd
  ·cases h
 rcases zF h with⟨p,h⟩|⟨_,h⟩
 ·obtain rfl:=gp h;refine vM J aw ?_ ?_
  ·split
   ·show(20:Int)<=20;decide
   ·show(4:Int)<=20;decide
  ·split <;> exact hd
 rcases zF h with⟨p,h⟩|⟨_,h⟩
 ·exact Ji h λx=>vM J aw (by show(5:Int)<=20;decide) hd
 rcases zF h with⟨p,h⟩|⟨_,h⟩
 ·refine Ji h λx=>vM J aw ?_ ?_ (by split <;> exact gJ au)
  ·split
   ·show(20:Int)<=20;decide
   ·exact rt aw
  ·split
   ·exact hd
   ·exact rd
 rcases zF h with⟨p,h⟩|⟨_,h⟩
 ·exact F5 h λx=>vM J aw (by show(9:Int)<=20;decide) hd
 rcases zF h with⟨p,h⟩|⟨_,h⟩
 ·obtain rfl:=gp h;exact vM J aw (by show(8:Int)<=20;decide) hd
 rcases zF h with⟨p,h⟩|⟨_,h⟩
 ·exact F5 h λx=>vM J aw (by show(9:Int)<=20;decide) hd
 rcases zF h with⟨p,h⟩|⟨_,h⟩
 ·obtain rfl:=gp h;refine vM J aw ?_ ?_
  ·split
   ·show(10:Int)<=20;decide
   ·show(20:Int)<=20;decide
  ·split <;> exact hd
 rcases zF h with⟨p,h⟩|⟨_,h⟩
 ·exact F5 h λx=>vM J aw (by show(11:Int)<=20;decide) hd
 rcases zF h with⟨p,h⟩|⟨_,h⟩
 ·rcases zD h with h|h
  ·obtain rfl:=gp h;exact vM J aw (by show(12:Int)<=20;decide) hd
  ·obtain rfl:=gp h;exact vM J aw (by show(9:Int)<=20;decide) hd
 rcases zF h with⟨p,h⟩|⟨_,h⟩
 ·obtain rfl:=gp h;exact vM J aw (by show(20:Int)<=20;decide) hd
 rcases zF h with⟨p,h⟩|⟨_,h⟩
 ·obtain⟨r0,x,a1,a2,a3,⟨a5,a6⟩,a4⟩:=M7 h;exact .inr (.inl ⟨_,r0,x,a1,a2,a3,⟨a5,by rw[a6];unfold Ac;split <;> omega⟩,.inl ⟨p,rfl,a4⟩⟩)
 rcases zF h with⟨p,h⟩|⟨_,h⟩
 ·obtain⟨r0,x,a1,a2,a3,a5,a4⟩:=M7 h;exact .inr (.inl ⟨0,r0,x,a1,a2,a3,a5,.inr ⟨p,rfl,_,by split <;> decide,a4⟩⟩)
 rcases zF h with⟨p,h⟩|⟨_,h⟩
 ·refine Ji h λx=>.inr (.inr ⟨rfl,aw,Eb (gJ au),.inl J⟩)
 rcases zF h with⟨p,h⟩|⟨_,h⟩
 ·obtain rfl:=gp h;exact .inr (.inr ⟨rfl,aw,Eb (gJ au),.inr J⟩)
 ·cases h
structure CI(N:Nat)(s:Wor.iu):Prop where
 col:∀k,k<6->zzj k s.1.counts=(((s.2.2.map (Qr k)).sum+(s.2.1.map (Qt k)).sum:Nat):Int)
 low:∀r∈s.1.counts,∀x∈r,0<=x/\x<=(N:Int)
 on:s.2.2.countP (·.q8)=s.2.2.countP (·.done)+s.2.1.countP (·.on)
def zxB{N K:Nat}{w:Wor}{X:List fB}{t:Nat}{x:fB}{o:fJ}(gi:GI N K w X)(hx:X[t]?=some x):(qv x t o).op.kind=1->20<=(qv x t o).pc->1<=(qv x t o).answer.kind/\(qv x t o).answer.kind<=5:=by
 cases hon:x.on with
 |false=>
  intro hk hp;have e:qv x t o=Beg.xA t o x.given:=aW
  rw[e]at hk hp;by_cases h:o.kind=2
  ·have:(Beg.xA t o x.given).op.kind=2:=by
    unfold Beg.xA;rw[gh h];unfold Beg.BF;repeat' split
    all_goals exact h
   omega
  ·rw[wP h]at hp;exact absurd (show(20:Int)<=0 from hp) ar
 |true=>
  have e:qv x t o=x.m:=aW
  rw[e];intro hk hp;obtain⟨os,hl,hti,_⟩:=gi.own;obtain⟨ow,ho⟩:∃o,os[t]?=some o:=⟨_,dX (by have:=(dW.1 hx).1;omega)⟩;obtain⟨L,_,_,h|⟨_,h⟩⟩:=(hti t x ow hx ho).open_
  ·have:=h.1;rw[hon]at this;cases this
  ·obtain⟨v,g,e,su,lc⟩:=h.lc;rcases lc with⟨_,lc⟩|⟨k,_⟩|⟨k,_⟩|⟨k,_⟩|⟨k,_⟩|⟨k,_⟩
   ·exact⟨(lc.mM hp).1,(lc.mM hp).2.1⟩
   all_goals omega
def ku{N K:Nat}{w:Wor}{X:List fB}{t:Nat}{x:fB}(o:fJ)(gi:GI N K w X)(hx:X[t]?=some x):(qv x t o).zf=t:=by
 cases hon:x.on with
 |false=>
  unfold qv Beg.xA;rw[hon,dZ ar];split
  ·unfold Beg.BF;repeat' split
   all_goals rfl
  ·rfl
 |true=>
  unfold qv;rw[hon,gh J];obtain⟨os,hl,hti,_⟩:=gi.own;obtain⟨ow,ho⟩:∃o,os[t]?=some o:=⟨_,dX (by have:=(dW.1 hx).1;omega)⟩;obtain⟨L,_,_,h|⟨_,h⟩⟩:=(hti t x ow hx ho).open_
  ·have:=h.1;rw[hon]at this;cases this
  ·exact h.th
structure Tr(s:Wor.iu):Prop where
 th:∀e∈s.2.2,∃(t:Nat) (x:fB),e.zf=(t:Int)/\s.2.1[t]?=some x/\0<=e.op/\(e.op<x.done\/(e.op=x.done/\x.on=true))
 uniq:∀(a b:Nat) (ea eb:fk),s.2.2[a]?=some ea->s.2.2[b]?=some eb->ea.q8=true->eb.q8=true->ea.zf=eb.zf->ea.op=eb.op->a=b
 on:∀(t:Nat) (x:fB),s.2.1[t]?=some x->x.on=true->∃(f:Nat) (e:fk),s.2.2[f]?=some e/\e.q8=true/\e.zf=(t:Int)/\e.op=x.done
def ve{α:Type}{l:List α}{y x:α}{a:Nat}(h:(l++[y])[a]?=some x):(a<l.length/\l[a]?=some x)\/(a=l.length/\x=y):=by
 rw[tt]at h;split at h
 ·exact .inl ⟨by assumption,h⟩
 ·rename_i q;have hl:a-l.length<1:=by simpa using (dW.1 h).1
  have e0:a-l.length=0:=aw
  rw[e0]at h;exact .inr ⟨aw,aq h.symm⟩
def vE{α:Type}{l:List α}(y:α){x:α}{a:Nat}(h:l[a]?=some x):(l++[y])[a]?=some x:=by
 rw[gy (dW.1 h).1];exact h
def CK{α:Type}(l:List α)(y:α):(l++[y])[l.length]?=some y:=by simp
def OI{s:Wor.iu}{t:Nat}{x:fB}{m:fi}{w:Wor}{e:fk}(tr:Tr s)(hx:s.2.1[t]?=some x)(he:e.zf=(t:Int)):Tr (w,s.2.1.set t (Wor.qn x m),s.2.2++[nW e x]):=by
 have hl:=(dW.1 hx).1
 have y:(Wor.qn x m).done=x.done+1/\(Wor.qn x m).on=false\/(Wor.qn x m).done=x.done/\(Wor.qn x m).on=true:=by
  unfold Wor.qn;by_cases q:m.done=true
  ·rw[gh q];exact .inl ⟨rfl,rfl⟩
  ·rw[dZ q];exact .inr ⟨rfl,rfl⟩
 refine⟨λe' h=>?_,λa b ea eb h1 h2 b1 b2 q1 q2=>?_,λt' x' h1 h2=>?_⟩
 ·dsimp only at h ⊢;rcases gY.1 h with h|h
  ·obtain⟨t',x',p1,p2,p3,p4⟩:=tr.th e' h;by_cases q:t=t'
   ·subst q;rw[hx]at p2;cases p2
    refine⟨t,_,p1,gk hl,p3,?_⟩;rcases y with⟨y1,y2⟩|⟨y1,y2⟩
    ·rw[y1];exact .inl aw
    ·rw[y1,y2];rcases p4 with p4|p4
     ·exact .inl p4
     ·exact .inr ⟨p4.1,rfl⟩
   ·exact⟨t',x',p1,by rw[gW q];exact p2,p3,p4⟩
  ·rw[gX]at h;subst h;refine⟨t,_,he,gk hl,by show(0:Int)<=(x.done:Int);omega,?_⟩;show(x.done:Int)<_\/(x.done:Int)=_/\_;rcases y with⟨y1,y2⟩|⟨y1,y2⟩
   ·rw[y1];exact .inl aw
   ·rw[y1,y2];exact .inr ⟨rfl,rfl⟩
 ·dsimp only at h1 h2
  have none_:∀ea∈s.2.2,x.on=false->ea.zf=(t:Int)->ea.op=(x.done:Int)->False:=λea hm hoff hth hop=>by
   obtain⟨t',x',p1,p2,p3,p4⟩:=tr.th ea hm;have:t'=t:=aw
   subst this;rw[hx]at p2;cases p2
   rcases p4 with p4|⟨_,p4⟩
   ·omega
   ·rw[hoff]at p4;cases p4
  rcases ve h1 with⟨l1,h1⟩|⟨l1,rfl⟩
  ·rcases ve h2 with⟨l2,h2⟩|⟨l2,rfl⟩
   ·exact tr.uniq a b ea eb h1 h2 b1 b2 q1 q2
   ·exact(none_ ea (dY h1) (by have:(!x.on)=true:=b2;simpa using this) (q1.trans he) q2).elim
  ·rcases ve h2 with⟨l2,h2⟩|⟨l2,rfl⟩
   ·exact(none_ eb (dY h2) (by have:(!x.on)=true:=b1;simpa using this) (q1.symm.trans he) q2.symm).elim
   ·omega
 ·dsimp only at h1 ⊢;by_cases q:t=t'
  ·subst q;rw[gk hl]at h1;cases h1
   rcases y with⟨y1,y2⟩|⟨y1,y2⟩
   ·rw[h2]at y2;cases y2
   ·rw[y1];cases hon:x.on with
    |true=>
     obtain⟨f,e1,p1,p2,p3,p4⟩:=tr.on t x hx hon;exact⟨f,e1,vE _ p1,p2,p3,p4⟩
    |false=>exact⟨s.2.2.length,_,CK _ _,by show(!x.on)=true;rw[hon];rfl,he,rfl⟩
  ·rw[gW q]at h1;obtain⟨f,e1,p1,p2,p3,p4⟩:=tr.on t' x' h1 h2;exact⟨f,e1,vE _ p1,p2,p3,p4⟩
def Oe(w:Wor)(T:List (List fJ)):Tr (w,T.map iV,[]):=by
 refine⟨λe h=>aR,λa b ea eb h1=>(by cases h1),λt x h1 h2=>?_⟩;obtain⟨L,_,rfl⟩:=gM.1 ((gf ..).symm.trans h1);cases h2
def isAdd(k:Nat)(e:fk):Bool:=e.cell == 10 && e.access == 3 && e.value == (k:Int)
def nB(i k:Nat)(e:fk):Bool:=isAdd k e && e.zf == (i:Int)
def nr(n k:Nat)(e:fk):Bool:=isAdd k e && decide (e.zf<(n:Int))
def wb(x:oa)(k:Nat):Int:=if k=0 then x.c0 else if k=1 then x.c1 else if k=2 then x.c2 else if k=3 then x.c3 else if k=4 then x.c4 else x.c5
def Xg{k:Nat}{e:fk}(h:¬oN e):isAdd k e=false:=by
 unfold isAdd;cases q:(e.cell == 10 && e.access == 3) with
 |false=>rfl
 |true=>
  simp only[gA,pF]at q;exact absurd q h
def VG{k kk:Nat}{e:fk}(h:oN e)(hv:e.value=(kk:Int)):isAdd k e=decide (k=kk):=by
 unfold isAdd;rw[h.1,h.2,hv];by_cases q:k=kk
 ·subst q;simp
 ·have:¬((kk:Int)=k):=by omega
  simp[q,this]
def lt_succ(n k:Nat):∀l:List fk,l.countP (nr (n+1) k)=l.countP (nr n k)+l.countP (nB n k)
 |[]=>rfl
 |e::l=>by
  have ih:=lt_succ n k l;rw[eX,eX,eX,ih]
  have:(if nr (n+1) k e=true then 1 else 0)=(if nr n k e=true then 1 else 0)+(if nB n k e=true then 1 else 0):=by
   unfold nr nB;cases isAdd k e with
   |false=>simp
   |true=>
    simp only[tY,pF,gH];by_cases q:e.zf<(n:Int)
    ·rw[gh aw,gh q,dZ aw]
    ·rw[dZ q];by_cases z:e.zf=(n:Int)
     ·rw[gh aw,gh z]
     ·rw[dZ aw,dZ z]
  omega
def YB(k:Nat){l:List fk}(h:∀e∈l,0<=e.zf):l.countP (nr 0 k)=0:=by
 rw[List.countP_eq_zero];intro e he;have:=h e he;unfold nr;simp;omega
def Pq(n k:Nat){l:List fk}(h:∀e∈l,e.zf<(n:Int)):l.countP (nr n k)=l.countP (isAdd k):=by
 refine List.countP_congr λe he=>?_
 have:=h e he;unfold nr;simp[this]
def my(m:fi)(k:Nat):Nat:=m.i.toNat+if (k:Int)<m.k then 1 else 0
def Bd(F L:List fk)(m:fi):Prop:=∀k,k<6->(F.countP (nr (my m k) k):Int)<=wb m.counts k/\wb m.counts k<=L.countP (nr (my m k) k)
def Bd.grow{F L:List fk}{m:fi}(e:fk)(h:Bd F L m):Bd F (L++[e]) m:=λk hk=>by
 have:=h k hk;rw[ug];omega
def Yh(x:oa)(a k:Nat)(n:Int)(ha:a<6)(hk:k<6)(h:0<=wb x a+n)(h2:wb x a+n<18446744073709551616):wb (wv x a n) k=wb x k+if k=a then n else 0:=by
 have w:∀z:Int,0<=z->z<18446744073709551616->IntKind.u64.wrap z=z:=λz h1 h2=>by
  show z%18446744073709551616=z;omega
 obtain⟨c0,c1,c2,c3,c4,c5⟩:=x;obtain rfl|rfl|rfl|rfl|rfl|rfl:a=0\/a=1\/a=2\/a=3\/a=4\/a=5:=aw
 all_goals
  obtain rfl|rfl|rfl|rfl|rfl|rfl:k=0\/k=1\/k=2\/k=3\/k=4\/k=5:=aw
 all_goals
  simp[wb,wv]at h h2 ⊢
 all_goals exact w _ h h2
def YF{F L:List fk}{w:Wor}{m:fi}{r:Wor×fi×fk}(b:Bd F L m)(hF:∀p:fk->Bool,F.countP p<=L.countP p)(h0:0<=m.i)(h1:0<=m.k)(hL:L.length<=1000000000000)
 (nK:∀(i k:Nat) (row:List Int) (n:Int),w.counts[i]?=some row->row[k]?=some n->n=L.countP (nB i k))(h:yF w m=some r)(hd:m.done=false)(hth:∀e∈L,e.zf<(w.counts.length:Int))(hthF:∀e∈F,e.zf<(w.counts.length:Int)):
  (r.2.1.done=false->Bd F L r.2.1)/\(r.2.1.done=true->∀k,k<6->(F.countP (isAdd k):Int)<=wb r.2.1.answer.counts k/\wb r.2.1.answer.counts k<=L.countP (isAdd k)):=by
 unfold yF at h;rcases zF h with⟨⟨p1,p2⟩,h⟩|⟨_,h⟩
 ·obtain⟨row,hrow,h⟩:=gO.1 h;obtain⟨n,hn,rfl⟩:=gM.1 h;have en:=nK _ _ row n hrow hn;obtain⟨kk,ek⟩:∃kk:Nat,m.k=kk:=⟨m.k.toNat,aw⟩;have kk6:kk<6:=by omega
  rw[ek,toNat_cast]at hn en;have le:∀p:fk->Bool,L.countP p<=L.length:=λp=>List.countP_le_length
  have rd0:my m kk=m.i.toNat:=by unfold my;rw[ek,dZ aw];rfl
  have bk:=b kk kk6;have sp:=lt_succ m.i.toNat kk L;have spF:=lt_succ m.i.toNat kk F;have hFb:=hF (nB m.i.toNat kk);have l1:=le (nr (m.i.toNat+1) kk);rw[rd0]at bk
  have key:∀k,k<6->(F.countP (nr (my m k+if k=kk then 1 else 0) k):Int)<=wb (wv m.counts m.k n) k/\wb (wv m.counts m.k n) k<=L.countP (nr (my m k+if k=kk then 1 else 0) k):=λk hk=>by
   rw[ek,Yh m.counts kk k n kk6 hk aw aw];by_cases q:k=kk
   ·subst q;rw[gh J,gh J,rd0];omega
   ·rw[dZ q,dZ q,sa];have:=b k hk;omega
  have hi:=(dW.1 hrow).1;dsimp only;by_cases q5:m.k+1=6
  ·have rdn:∀k,k<6->my m k+(if k=kk then 1 else 0)=m.i.toNat+1:=λk hk=>by
    unfold my;rw[ek];by_cases q:k=kk
    ·rw[gh q,dZ aw]
    ·rw[dZ q,gh aw]
   by_cases q6:m.i+1=w.counts.length
   ·have es:ju w m n={m with counts:=wv m.counts m.k n,k:=0,i:=m.i+1,done:=true,answer:=⟨13,0,0,0,0,0,0,wv m.counts m.k n⟩}:=by
     unfold ju;dsimp only;rw[gh q5,gh q6]
    rw[es];refine⟨λq=>absurd (show true=false from q) ar,λ_ k hk=>?_⟩;have a:=key k hk;rw[rdn k hk,show m.i.toNat+1=w.counts.length from aw]at a;rw[Pq _ _ hth]at a;rw[Pq _ _ hthF]at a;exact a
   ·have es:ju w m n={m with counts:=wv m.counts m.k n,k:=0,i:=m.i+1}:=by
     unfold ju;dsimp only;rw[gh q5,dZ q6]
    rw[es];refine⟨λ_ k hk=>?_,λq=>absurd (hd.symm.trans q) ar⟩;have a:=key k hk
    have e:my {m with counts:=wv m.counts m.k n,k:=0,i:=m.i+1} k=my m k+if k=kk then 1 else 0:=by
     rw[rdn k hk];unfold my;dsimp only;rw[dZ aw];omega
    rw[e];exact a
  ·have q7:¬(m.i=w.counts.length):=by omega
   have es:ju w m n={m with counts:=wv m.counts m.k n,k:=m.k+1}:=by
    unfold ju;dsimp only;rw[dZ q5,dZ q7]
   rw[es];refine⟨λ_ k hk=>?_,λq=>absurd (hd.symm.trans q) ar⟩;have a:=key k hk
   have e:my {m with counts:=wv m.counts m.k n,k:=m.k+1} k=my m k+if k=kk then 1 else 0:=by
    unfold my;dsimp only;rw[ek];by_cases q:k=kk
    ·rw[gh q,gh aw,dZ aw]
    ·rw[dZ q];by_cases z:(k:Int)<kk
     ·rw[gh aw,gh z]
     ·rw[dZ aw,dZ z]
   rw[e];exact a
 ·cases h
def SN{w:Wor}{m:fi}{v:fp}{g:Gr}{e:En}{r:Wor×fi×fk}(su:qS w m v g e)(h:vV w m=some r):
  ((r.1.counts=w.counts/\¬oN r.2.2)\/∃(kk:Nat) (r0:List Int) (x:Int),w.counts[m.zf.toNat]?=some r0/\r0[kk]?=some x/\r.1.counts=w.counts.set m.zf.toNat (r0.set kk (IntKind.u64.wrap (x+1)))/\oN r.2.2/\r.2.2.value=kk)/\
  (r.2.1.done=true->r.2.1.answer.kind=13->(m.op.kind=1->20<=m.pc->m.answer.kind<=5)->m.op.kind=6):=by
 have calm:∀{K:List Int},nQ K w m r->(∀z∈K,z≠13)->((r.1.counts=w.counts/\¬oN r.2.2)\/∃(kk:Nat) (r0:List Int) (x:Int),w.counts[m.zf.toNat]?=some r0/\r0[kk]?=some x/\r.1.counts=w.counts.set m.zf.toNat (r0.set kk (IntKind.u64.wrap (x+1)))/\oN r.2.2/\r.2.2.value=kk)/\
   (r.2.1.done=true->r.2.1.answer.kind=13->(m.op.kind=1->20<=m.pc->m.answer.kind<=5)->m.op.kind=6):=@λK ⟨c1,c2,c3,c4⟩ hh=>⟨.inl ⟨c1,c4⟩,λa b _=>absurd b (hh _ (c3 a))⟩
 unfold vV at h;rw[su.fN]at h;dsimp only at h;rw[su.fG]at h;dsimp only at h;rw[su.fP]at h;dsimp only at h;rcases zF h with⟨k1,h⟩|⟨k1,h⟩
 ·rcases TP su.done h with⟨c1,c2,c3,c4,c5⟩|⟨kk,r0,x,a1,a2,a3,a5,a4⟩|⟨c1,c2,c4,c3⟩
  ·exact⟨.inl ⟨c1,c5⟩,λa=>by rw[c4]at a;cases a⟩
  ·refine⟨.inr ⟨kk,r0,x,a1,a2,a3,a5.1,a5.2⟩,λa=>?_⟩;rcases a4 with⟨_,_,e⟩|⟨_,_,p,_,e⟩ <;> (rw[e]at a;exact absurd (su.done.symm.trans a) ar)
  ·refine⟨.inl ⟨c1,c4⟩,λa b c=>?_⟩;have:=c k1 aw;rcases c3 with e|e <;> (rw[e]at b;dsimp only at b;omega)
 rcases zF h with⟨k2,h⟩|⟨_,h⟩
 ·exact calm (SL su.done h) ar
 rcases zF h with⟨k2,h⟩|⟨_,h⟩
 ·exact calm (Vg su.done h) ar
 rcases zF h with⟨k2,h⟩|⟨_,h⟩
 ·exact calm (T1 su.done h) ar
 rcases zF h with⟨k2,h⟩|⟨_,h⟩
 ·exact calm (RP su.done h) ar
 rcases zF h with⟨k2,h⟩|⟨_,h⟩
 ·have c:=T2 su.done h;exact⟨.inl ⟨c.1,c.2.2.2⟩,λ_ _ _=>k2⟩
 ·cases h
def Ba{N K:Nat}{w:Wor}{X:List fB}{t:Nat}{x:fB}{o:fJ}(gi:GI N K w X)(hx:X[t]?=some x)(ho:x.ops[x.done]?=some o):(qv x t o).op=o:=by
 cases hon:x.on with
 |false=>
  unfold qv Beg.xA;rw[hon,dZ ar];split
  ·unfold Beg.BF;repeat' split
   all_goals rfl
  ·rfl
 |true=>
  unfold qv;rw[hon,gh J];obtain⟨os,hl,hti,_⟩:=gi.own;obtain⟨ow,ho2⟩:∃o,os[t]?=some o:=⟨_,dX (by have:=(dW.1 hx).1;omega)⟩;obtain⟨L,_,_,h|⟨_,h⟩⟩:=(hti t x ow hx ho2).open_
  ·have:=h.1;rw[hon]at this;cases this
  ·have:=h.at_;rw[ho]at this;exact(gp this).symm
structure SI(s:Wor.iu):Prop where
 tr:Tr s
 nK:∀(i k:Nat) (row:List Int) (n:Int),s.1.counts[i]?=some row->row[k]?=some n->n=(s.2.2.countP (nB i k):Nat)
 rd:∀(t:Nat) (x:fB),s.2.1[t]?=some x->x.on=true->x.m.op.kind=6->∃(f:Nat) (e:fk),s.2.2[f]?=some e/\e.q8=true/\e.zf=(t:Int)/\e.op=x.done/\Bd (s.2.2.take f) s.2.2 x.m
 fin:∀(τ:Nat) (e:fk),s.2.2[τ]?=some e->e.done=true->e.answer.kind=13->∃(f:Nat) (e0:fk),f<=τ/\s.2.2[f]?=some e0/\e0.q8=true/\e0.zf=e.zf/\e0.op=e.op/\
  ∀k,k<6->((s.2.2.take f).countP (isAdd k):Int)<=wb e.answer.counts k/\wb e.answer.counts k<=(s.2.2.take (τ+1)).countP (isAdd k)
def DX{α:Type}{l:List α}(y:α){n:Nat}(h:n<=l.length):(l++[y]).take n=l.take n:=by rw[sM h]
def ZI{N K:Nat}{s:Wor.iu}(gi:GI N K s.1 s.2.1)(si:SI s)(p:Int)(hN:N<=100000000)(hK:K<=1099511627776)(hL:s.2.2.length<=1000000000000):SI (yw s p):=by
 rcases xi gi p hN hK with⟨_,e⟩|⟨t,x,o,r,hat,hx,ho,hsu,htm,hst,_,e,gi2⟩
 ·rw[e];exact si
 ·rw[e];obtain⟨v,g,en,su⟩:=x5 hsu;have tl:=E9 su.done hst;have nt:=ku o gi hx;have no:=Ba gi hx ho;have eth:r.2.2.zf=(t:Int):=tl.2.2.trans nt;have hl:=(dW.1 hx).1;have gr:=qi.1 gi.st.ji.ground;have wl:s.1.counts.length=s.2.1.length:=gr.counts.1.trans gi.len;obtain⟨cc,c13⟩:=SN su hst
  have thr:∀e∈s.2.2,0<=e.zf/\e.zf<(s.1.counts.length:Int):=λe he=>by
   obtain⟨t',x',p1,p2,_⟩:=si.tr.th e he;have:=(dW.1 p2).1;omega
  have rdm:(qv x t o).op.kind=6->∃f,f<=s.2.2.length/\(∃e:fk,(s.2.2++[nW r.2.2 x])[f]?=some e/\e.q8=true/\e.zf=(t:Int)/\e.op=x.done)/\Bd (s.2.2.take f) s.2.2 (qv x t o):=λhk=>by
   cases hon:x.on with
   |true=>
    have en:qv x t o=x.m:=aW
    rw[en]at hk ⊢;obtain⟨f,e1,p1,p2,p3,p4,p5⟩:=si.rd t x hx hon hk;exact⟨f,Nat.le_of_lt (dW.1 p1).1,⟨e1,vE _ p1,p2,p3,p4⟩,p5⟩
   |false=>
    refine⟨s.2.2.length,gC _,⟨_,CK _ _,by show(!x.on)=true;rw[hon];rfl,eth,rfl⟩,?_⟩;have en:qv x t o=Beg.xA t o x.given:=aW
    rw[no]at hk;rw[en,wP aw,gZ];intro k hk6
    have rd0:my ⟨o,t,0,0,0, -1,0,0,0,0,0,0,0,0,0,false,Beg.yI,vq⟩ k=0:=by
     unfold my;dsimp only;rw[dZ aw]
     rfl
    have s0:wb vq k=0:=by
     unfold wb vq;repeat' split
     all_goals rfl
    dsimp only at rd0 ⊢;rw[rd0,YB k λe he=>(thr e he).1,s0];exact⟨gL _,gL _⟩
  have stp:∀f,(qv x t o).op.kind=6->Bd (s.2.2.take f) s.2.2 (qv x t o)->(r.2.1.done=false->Bd (s.2.2.take f) s.2.2 r.2.1)/\(r.2.1.done=true->∀k,k<6->((s.2.2.take f).countP (isAdd k):Int)<=wb r.2.1.answer.counts k/\wb r.2.1.answer.counts k<=s.2.2.countP (isAdd k)):=λf hk b=>by
   have h:=hst;unfold vV at h;rw[su.fN]at h;dsimp only at h;rw[su.fG]at h;dsimp only at h;rw[su.fP]at h;dsimp only at h;rw[dZ aw,dZ aw,dZ aw,dZ aw,dZ aw,gh hk]at h;exact YF b (λp=>(List.take_sublist f s.2.2).countP_le) su.i su.k hL si.nK h su.done (λe he=>(thr e he).2) λe he=>(thr e (rB he)).2
  refine⟨OI si.tr hx eth,λi k row n h1 h2=>?_,λt' x' h1 h2 h3=>?_,λτ e1 h1 h2 h3=>?_⟩
  ·dsimp only at h1 h2 ⊢
   have ad:nB i k (nW r.2.2 x)=(isAdd k r.2.2 && decide ((t:Int)=i)):=by
    show(isAdd k r.2.2 && (r.2.2.zf == (i:Int)))=_;rw[eth]
    rfl
   rw[ug,List.countP_singleton,ad];rcases cc with⟨c1,c2⟩|⟨kk,r0,x0,a1,a2,a3,a4,a5⟩
   ·rw[c1]at h1;rw[si.nK i k row n h1 h2,Xg c2];simp
   ·rw[a3,nt,toNat_cast]at h1;rw[nt,toNat_cast]at a1;have ex:=si.nK t kk r0 x0 a1 a2;have le:s.2.2.countP (nB t kk)<=s.2.2.length:=List.countP_le_length
    have wr:IntKind.u64.wrap (x0+1)=x0+1:=by
     show(x0+1)%18446744073709551616=x0+1;omega
    rw[VG a4 a5];rcases jy h1 with⟨rfl,rfl,_⟩|⟨hne,h1⟩
    ·rcases jy h2 with⟨rfl,rfl,_⟩|⟨hne,h2⟩
     ·rw[wr,ex];simp
     ·rw[si.nK t k r0 n a1 h2];have:¬(k=kk):=λz=>hne z.symm
      simp[this]
    ·rw[si.nK i k row n h1 h2];have:¬((t:Int)=i):=by omega
     simp[this]
  ·dsimp only at h1 ⊢;by_cases q:t=t'
   ·subst q;have gx:(s.2.1.set t (Wor.qn x r.2.1))[t]?=some (Wor.qn x r.2.1):=gk hl;rw[gx]at h1;cases h1
    have nd:r.2.1.done=false:=by
     cases z:r.2.1.done with
     |false=>rfl
     |true=>rw[Wor.DQ z]at h2;cases h2
    rw[xK nd]at h3 ⊢;dsimp only at h3 ⊢;have ho2:(Wor.qn x r.2.1).ops[(Wor.qn x r.2.1).done]?=some o:=by rw[xK nd];exact ho
    have n2:=Ba gi2 gx ho2;have e2:qv (Wor.qn x r.2.1) t o=r.2.1:=by rw[xK nd];rfl
    rw[e2]at n2;have hk:(qv x t o).op.kind=6:=by rw[no,<-n2];exact h3
    obtain⟨f,f1,⟨e3,q1,q2,q3,q4⟩,q5⟩:=rdm hk;refine⟨f,e3,q1,q2,q3,q4,?_⟩;rw[DX _ f1];exact((stp f hk q5).1 nd).grow _
   ·rw[gW q]at h1;obtain⟨f,e3,q1,q2,q3,q4,q5⟩:=si.rd t' x' h1 h2 h3;refine⟨f,e3,vE _ q1,q2,q3,q4,?_⟩;rw[DX _ (Nat.le_of_lt (dW.1 q1).1)];exact q5.grow _
  ·dsimp only at h1 ⊢;rcases ve h1 with⟨l1,h1⟩|⟨rfl,rfl⟩
   ·obtain⟨f,e0,q1,q2,q3,q4,q5,q6⟩:=si.fin τ e1 h1 h2 h3;refine⟨f,e0,q1,vE _ q2,q3,q4,q5,?_⟩;rw[DX _ aw,DX _ aw];exact q6
   ·have dn:r.2.1.done=true:=by rw[<-tl.1];exact h2
    have ea:(nW r.2.2 x).answer=r.2.1.answer:=tl.2.1 dn;rw[ea]at h3 ⊢;have hk:=c13 dn h3 λa b=>(zxB gi hx a b).2
    obtain⟨f,f1,⟨e3,q1,q2,q3,q4⟩,q5⟩:=rdm hk;refine⟨f,e3,f1,q1,q2,q3.trans eth.symm,q4,λk hk6=>?_⟩;have z:=(stp f hk q5).2 dn k hk6;rw[DX _ f1,r9 (l:=s.2.2++[nW r.2.2 x]) aj,ug];omega
def PW{N K:Nat}{s:Wor.iu}(gi:GI N K s.1 s.2.1)(si:SI s)(l:List Int)(h0:s.2.2.length=0):∀k,k<=l.length->N+k<=100000000->K+k<=1099511627776->SI (iv s l k)/\(iv s l k).2.2.length<=k
 |0,_,_,_=>⟨si,by show s.2.2.length<=0;omega⟩
 |k+1,hk,hN,hK=>by
  have ih:=PW gi si l h0 k aw aw aw;have g:=AB gi l k aw aw aw;rw[y8 (dX aw)];refine⟨ZI g ih.1 _ aw aw aw,?_⟩;rcases xi g l[k] aw aw with⟨_,e⟩|⟨t,x,o,r,hat,hx,ho,hsu,htm,hst,_,e,gi2⟩
  ·rw[e];omega
  ·rw[e];dsimp only;rw[pj];have:=ih.2;simp;omega
def Yp{s:Sna}{l:List ft}{n:Int}{w:Wor}(h:lx s l n=(w,0)):w.counts=List.replicate n.toNat [0,0,0,0,0,0]:=by
 unfold lx at h;split at h
 ·exact dz
 ·have hw:_=w:=rq Prod.fst h;rw[<-hw]
def XF{s:fR}(h:(qM s).2=0):SI (iH s):=by
 obtain⟨_,hn⟩:=xj h;have e:(iH s).1.counts=List.replicate (s.threads.length:Int).toNat [0,0,0,0,0,0]:=Yp hn;refine⟨Oe _ _,λi k row n h1 h2=>?_,λt x h1 h2=>?_,λτ e1 h1=>by cases h1⟩
 ·rw[e]at h1;rw[pB (dY h1)]at h2;have:=dY h2;have z:n=0:=by simpa using this
  rw[z]
  rfl
 ·obtain⟨L,_,rfl⟩:=gM.1 ((gf ..).symm.trans (show(s.threads.map iV)[t]?=some x from h1));cases h2
structure BI(X:List fB)(b:List Cal):Prop where
 own:∀(i:Nat) (c:Cal),b[i]?=some c->∃(t:Nat) (x:fB),c.zf=(t:Int)/\X[t]?=some x/\((c.op<x.done/\0<=c.fY)\/(c.op=x.done/\x.on=true/\c.fY<0))
 on:∀(t:Nat) (x:fB),X[t]?=some x->x.on=true->∃(i:Nat) (c:Cal),b[i]?=some c/\c.zf=(t:Int)/\c.op=x.done
 nd:∀(i j:Nat) (c d:Cal),b[i]?=some c->b[j]?=some d->c.zf=d.zf->c.op=d.op->i=j
def OR{X:List fB}{b:List Cal}{t:Nat}{x:fB}{m:fi}{e:fk}{k:Nat}(bi:BI X b)(hx:X[t]?=some x)(he:e.zf=(t:Int))(hop:e.op=x.done)(hbg:e.q8=!x.on)(hdn:e.done=m.done):
  ∃b',Cal.Bt b (k:Int) e=some b'/\BI (X.set t (Wor.qn x m)) b':=by
 have hl:=(dW.1 hx).1
 have y:(m.done=true/\(Wor.qn x m).done=x.done+1/\(Wor.qn x m).on=false)\/(m.done=false/\(Wor.qn x m).done=x.done/\(Wor.qn x m).on=true):=by
  unfold Wor.qn;by_cases q:m.done=true
  ·rw[gh q];exact .inl ⟨q,rfl,rfl⟩
  ·rw[dZ q];exact .inr ⟨aq q,rfl,rfl⟩
 have main:∀(N:List Cal) (n:Nat) (c0:Cal),N[n]?=some (Cal.qD e (k:Int) c0)->c0.zf=(t:Int)->c0.op=x.done->c0.fY<0->(∀(i:Nat) (c:Cal),N[i]?=some c->i≠n->b[i]?=some c/\¬(c.zf=(t:Int)/\c.op=x.done))->(∀(i:Nat) (c:Cal),b[i]?=some c->i≠n->N[i]?=some c)->(∀(i:Nat) (c:Cal),b[i]?=some c->i=n->c.zf=(t:Int)/\c.op=x.done)->
   BI (X.set t (Wor.qn x m)) N:=λN n c0 h1 h2 h3 h4 h5 h6 h7=>by
  have mt:=Cal.yN e (k:Int) c0;have mo:=Cal.D9 e (k:Int) c0;refine⟨λi c hc=>?_,λt' x' hx' hon=>?_,λi j c d hc hd q1 q2=>?_⟩
  ·by_cases q:i=n
   ·subst q;rw[h1]at hc;cases hc
    refine⟨t,_,mt.1.trans h2,gk hl,?_⟩;rw[mt.2,h3,mo,hdn];rcases y with⟨y0,y1,y2⟩|⟨y0,y1,y2⟩
    ·rw[y0,y1,gh J];exact .inl ⟨aw,aw⟩
    ·rw[y0,y1,y2,dZ ar];exact .inr ⟨rfl,rfl,h4⟩
   ·obtain⟨hb,nq⟩:=h5 i c hc q;obtain⟨t',x',p1,p2,p3⟩:=bi.own i c hb;by_cases z:t=t'
    ·subst z;rw[hx]at p2;cases p2
     refine⟨t,_,p1,gk hl,?_⟩;rcases p3 with⟨p3,p4⟩|⟨p3,_⟩
     ·rcases y with⟨_,y1,_⟩|⟨_,y1,_⟩ <;> (rw[y1];exact .inl ⟨aw,p4⟩)
     ·exact(nq ⟨p1,p3⟩).elim
    ·exact⟨t',x',p1,by rw[gW z];exact p2,p3⟩
  ·by_cases z:t=t'
   ·subst z;rw[gk hl]at hx';cases hx'
    rcases y with⟨_,_,y2⟩|⟨_,y1,_⟩
    ·rw[hon]at y2;cases y2
    ·exact⟨n,_,h1,mt.1.trans h2,by rw[mt.2,h3,y1]⟩
   ·rw[gW z]at hx';obtain⟨i,c,p1,p2,p3⟩:=bi.on t' x' hx' hon
    have ni:i≠n:=λq=>by
     have:=(h7 i c p1 q).1;omega
    exact⟨i,c,h6 i c p1 ni,p2,p3⟩
  ·by_cases z1:i=n
   ·by_cases z2:j=n
    ·omega
    ·subst z1;rw[h1]at hc;cases hc
     exact((h5 j d hd z2).2 ⟨by rw[<-q1,mt.1,h2],by rw[<-q2,mt.2,h3]⟩).elim
   ·by_cases z2:j=n
    ·subst z2;rw[h1]at hd;cases hd
     exact((h5 i c hc z1).2 ⟨by rw[q1,mt.1,h2],by rw[q2,mt.2,h3]⟩).elim
    ·exact bi.nd i j c d (h5 i c hc z1).1 (h5 j d hd z2).1 q1 q2
 unfold Cal.Bt;cases hon:x.on with
 |false=>
  rw[hbg,hon,gh ar]
  have free:∀(i:Nat) (c:Cal),b[i]?=some c->c.zf=(t:Int)->c.op<x.done/\0<=c.fY:=λi c hc hth=>by
   obtain⟨t',x',p1,p2,p3⟩:=bi.own i c hc;have:t'=t:=aw
   subst this;rw[hx]at p2;cases p2
   rcases p3 with p3|⟨_,p3,_⟩
   ·exact p3
   ·rw[hon]at p3;cases p3
  have n1:(Cal.zU b e.zf e.op).isSome=false:=by
   cases hp:Cal.zU b e.zf e.op with
   |none=>rfl
   |some n=>
    obtain⟨c,hc,p1,p2⟩:=Cal.DH hp;have:=free n c hc (p1.trans he);omega
  have n2:Cal.Bj b e.zf=false:=by
   unfold Cal.Bj;rw[pC];intro c hc;obtain⟨i,hi⟩:=gE.1 hc;by_cases q:c.zf=(t:Int)
   ·have:=free i c hi q;simp;omega
   ·simp;omega
  rw[n1,n2,dZ ar];refine⟨_,rfl,?_⟩;have ml:(b++[Cal.xh e (k:Int)])[b.length]?=some (Cal.xh e (k:Int)):=aj
  rw[Cal.ks ml];refine main _ b.length (Cal.xh e (k:Int)) ?_ he hop (by show(-1:Int)<0;decide) (λi c hc hne=>?_) (λi c hc hne=>?_) (λi c hc q=>?_)
  ·rw[gk (dW.1 ml).1]
  ·rw[gW (λz=>hne z.symm)]at hc;rcases ve hc with⟨_,hc⟩|⟨q,_⟩
   ·exact⟨hc,λ⟨z1,z2⟩=>by have:=free i c hc z1;omega⟩
   ·exact(hne q).elim
  ·rw[gW (λz=>hne z.symm)];exact vE (Cal.xh e (k:Int)) hc
  ·have:=(dW.1 hc).1;omega
 |true=>
  rw[hbg,hon,dZ ar];obtain⟨i0,c0,p1,p2,p3⟩:=bi.on t x hx hon;cases hp:Cal.zU b e.zf e.op with
  |none=>
   unfold Cal.zU at hp;rw[gS]at hp;have:=hp c0 (dY p1);simp[p2,p3,he,hop]at this
  |some n=>
   obtain⟨c,hc,r1,r2⟩:=Cal.DH hp;have r1:c.zf=(t:Int):=r1.trans he;have r2:c.op=x.done:=r2.trans hop
   have hto:c.fY<0:=by
    obtain⟨t',x',s1,s2,s3⟩:=bi.own n c hc;have:t'=t:=aw
    subst this;rw[hx]at s2;cases s2
    rcases s3 with⟨s3,_⟩|⟨_,_,s3⟩
    ·omega
    ·exact s3
   dsimp only;rw[hc,dZ aA];refine⟨_,rfl,?_⟩;rw[Cal.ks hc];refine main _ n c ?_ r1 r2 hto (λi d hd hne=>?_) (λi d hd hne=>?_) (λi d hd q=>?_)
   ·rw[gk (dW.1 hc).1]
   ·rw[gW (λz=>hne z.symm)]at hd;exact⟨hd,λ⟨z1,z2⟩=>hne (bi.nd i n d c hd hc (z1.trans r1.symm) (z2.trans r2.symm))⟩
   ·rw[gW (λz=>hne z.symm)];exact hd
   ·subst q;rw[hc]at hd;cases hd
    exact⟨r1,r2⟩
def I8(L:List fk)(e:fk):∀k,k<=L.length->Cal.nT (L++[e]) k=Cal.nT L k
 |0,_=>rfl
 |k+1,h=>by
  simp only[Cal.nT,I8 L e k aw];rw[gy aw]
structure RI(s:Wor.iu):Prop where
 tr:Tr s
 acc:∀e∈s.2.2,e.access≠0
 bk:∃b,Cal.nT s.2.2 s.2.2.length=some b/\BI s.2.1 b
def ZG{N K:Nat}{s:Wor.iu}(gi:GI N K s.1 s.2.1)(ri:RI s)(p:Int)(hN:N<=100000000)(hK:K<=1099511627776):RI (yw s p):=by
 rcases xi gi p hN hK with⟨_,e⟩|⟨t,x,o,r,hat,hx,ho,hsu,htm,hst,hacc,e,gi2⟩
 ·rw[e];exact ri
 ·rw[e];obtain⟨v,g,en,su⟩:=x5 hsu;have tl:=E9 su.done hst;have eth:r.2.2.zf=(t:Int):=tl.2.2.trans (ku o gi hx);obtain⟨b,h1,h2⟩:=ri.bk;obtain⟨b',h3,h4⟩:=OR (e:=nW r.2.2 x) (m:=r.2.1) (k:=s.2.2.length) h2 hx eth J J tl.1;refine⟨OI ri.tr hx eth,λe he=>?_,b',?_,h4⟩
  ·rcases gY.1 he with he|he
   ·exact ri.acc e he
   ·rw[gX.1 he];exact hacc
  ·dsimp only;rw[pj];show Cal.nT _ (s.2.2.length+1)=_;simp only[Cal.nT];rw[I8 _ _ _ (gC _),h1,CK];exact h3
def PU{N K:Nat}{s:Wor.iu}(gi:GI N K s.1 s.2.1)(ri:RI s)(l:List Int):∀k,k<=l.length->N+k<=100000000->K+k<=1099511627776->RI (iv s l k)
 |0,_,_,_=>ri
 |k+1,hk,hN,hK=>by
  have ih:=PU gi ri l k aw aw aw;rw[y8 (dX aw)];exact ZG (AB gi l k aw aw aw) ih _ aw aw
def Fw{s:fR}(ok:np s)(h:(zY s).2.2=0):(Cal.ib (zY s).1).2=0/\(zY s).1.length<=s.zQ.length/\jK (zY s).2.1/\mw 5000 (zY s).2.1/\
  ∀e∈(zY s).1,e.access≠0/\∃(t:Nat) (l:List fJ),e.zf=(t:Int)/\s.threads[t]?=some l/\0<=e.op/\e.op<l.length:=by
 have hb:=DS h;have e1:zY s=((xe s).2.2,(xe s).1,0):=by unfold zY;rw[gh hb]
 obtain⟨q,_⟩:=xj hb;obtain⟨_,_,_,p4,_,_⟩:=xE q;have f:=MZ ok hb (n:=s.zQ.length) (gC _);have gi:=Es ok hb s.zQ.length (gC _);have ao:=Jv ok hb s.zQ.length (gC _);have si:=PW (y9 ok hb) (XF hb) s.zQ J s.zQ.length (gC _) aw aw
 have r0:RI (iH s):=by
  refine⟨Oe _ _,λe he=>(by cases he),[],rfl,⟨λi c h=>aR,λt x hx hon=>?_,λi j c d h=>aR⟩⟩;obtain⟨L,_,rfl⟩:=gM.1 ((gf ..).symm.trans (show(s.threads.map iV)[t]?=some x from hx));cases hon
 have ri:RI (xe s):=PU (y9 ok hb) r0 s.zQ s.zQ.length (gC _) aw aw;have gd:=f.2.2.2;have e2:lX s s.zQ.length=s:=by unfold lX;rw[gZ]
 rw[e2,e1]at gd;rw[e1];dsimp only at gd ⊢;refine⟨?_,si.2,gd.1,gd.2.1,λe he=>⟨ri.acc e he,?_⟩⟩
 ·obtain⟨b,hb2,_⟩:=ri.bk;have:=(Cal.Ed (xe s).2.2 (xe s).2.2.length).1;rw[hb2]at this;unfold Cal.ib;cases z:Cal.vA (xe s).2.2 (xe s).2.2.length with
  |none=>rw[z]at this;cases this
  |some b2=>rfl
 ·obtain⟨t,x,t1,t2,t3,t4⟩:=ri.tr.th e he
  have tx:s.threads[t]?=some x.ops:=by
   rw[<-ao,gf];show((xe s).2.1[t]?).map _=_;rw[t2]
   rfl
  refine⟨t,x.ops,t1,tx,t3,?_⟩;have tk:=Oc gi t2;rcases t4 with t4|⟨t4,t5⟩
  ·omega
  ·obtain⟨os,hl,hti,_⟩:=gi.own;obtain⟨ow,ho⟩:∃o,os[t]?=some o:=⟨_,dX (by have:=(dW.1 t2).1;show t<os.length;rw[hl];exact this)⟩;obtain⟨L,_,_,hh|⟨_,hh⟩⟩:=(hti t x ow t2 ho).open_
   ·have:=hh.1;rw[t5]at this;cases this
   ·have:=(dW.1 hh.at_).1;omega
def zzk(n:Int)(e:fk):Int:=if e.cell=3/\e.access=6 then e.value else n
def Km(l:List fk):Int:=l.foldl zzk 0
def B6{w:Wor}{m:fi}{v:fp}{g:Gr}{e:En}{r:Wor×fi×fk}(su:qS w m v g e)(h:vV w m=some r):
  (m.op.kind=1/\qj w m v g e=some r)\/(m.op.kind=2/\j9 w m v g e=some r)\/(m.op.kind=3/\wy w m=some r)\/(m.op.kind=4/\yX w m=some r)\/(m.op.kind=5/\jY w m=some r)\/(m.op.kind=6/\yF w m=some r):=by
 unfold vV at h;rw[su.fN]at h;dsimp only at h;rw[su.fG]at h;dsimp only at h;rw[su.fP]at h;dsimp only at h;rcases zF h with⟨k,h⟩|⟨_,h⟩
 ·exact .inl ⟨k,h⟩
 rcases zF h with⟨k,h⟩|⟨_,h⟩
 ·exact .inr (.inl ⟨k,h⟩)
 rcases zF h with⟨k,h⟩|⟨_,h⟩
 ·exact .inr (.inr (.inl ⟨k,h⟩))
 rcases zF h with⟨k,h⟩|⟨_,h⟩
 ·exact .inr (.inr (.inr (.inl ⟨k,h⟩)))
 rcases zF h with⟨k,h⟩|⟨_,h⟩
 ·exact .inr (.inr (.inr (.inr (.inl ⟨k,h⟩))))
 rcases zF h with⟨k,h⟩|⟨_,h⟩
 ·exact .inr (.inr (.inr (.inr (.inr ⟨k,h⟩))))
 ·cases h
structure VI(s:Wor.iu):Prop where
 tr:Tr s
 cur:s.1.current=Km s.2.2
 run:∀(t:Nat) (x:fB),s.2.1[t]?=some x->x.on=true->x.m.op.kind=1->4<=x.m.pc->∃(f g:Nat) (e:fk),s.2.2[f]?=some e/\e.q8=true/\e.zf=(t:Int)/\e.op=x.done/\f<=g/\g<s.2.2.length/\Km (s.2.2.take g)=x.m.version
 fin:∀(τ:Nat) (e:fk),s.2.2[τ]?=some e->e.done=true->e.answer.kind=1->∃(f g:Nat) (e0:fk),f<=g/\g<=τ/\s.2.2[f]?=some e0/\e0.q8=true/\e0.zf=e.zf/\e0.op=e.op/\Km (s.2.2.take g)=e.answer.version
end Go.Run
