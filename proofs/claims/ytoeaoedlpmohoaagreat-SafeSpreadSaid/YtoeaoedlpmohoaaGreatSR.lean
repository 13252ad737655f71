import Derived.Test.YtoeaoedlpmohoaaGreatSQ
import Derived.Test.YtoeaoedlpmohoaaGreatS0
set_option linter.all false
set_option maxRecDepth 100000
set_option maxHeartbeats 4000000
namespace Go.Run
open Go.Ab Go.Proofs Tryz Go.Gat Go.Nam Go.Hos Go.Con Go.Sna Go.Pla Go.Ply Go.Wor
open Go.Hy hiding encI
def Qi(k:Nat)(a:lM):Nat:=if 1<=a.kind/\a.kind<=5/\(k=0\/a.kind=k) then 1 else 0
def W9(k:Nat)(m:lh):Nat:=if m.op.kind=1/\m.done=false/\(if k=0 then 22 else 21)<=m.pc then Qi k m.answer else 0
def Xa(k:Nat)(x:lW):Nat:=if x.on=true then W9 k x.m else 0
def W8(k:Nat)(e:lD):Nat:=if e.done=true then Qi k e.answer else 0
def zEm(k:Nat)(l:List (List Int)):Int:=(l.map λr=>(r[k]?).getD 0).sum
def CH(e:lD):Prop:=e.cell=10/\e.access=3
def BX(K:List Int)(w:Wor)(m:lh)(r:Wor×lh×lD):Prop:=r.1.counts=w.counts/\r.2.1.op=m.op/\(r.2.1.done=true->r.2.1.answer.kind∈K)/\¬CH r.2.2
def IB{e:lD}(h:e.cell≠10):¬CH e:=λz=>h z.1
def Gt{K:List Int}{α:Type}{w:Wor}{m:lh}{o:Option α}{f:α->Wor×lh×lD}{r:Wor×lh×lD}(h:o.map f=some r)(hf:∀x,BX K w m (f x)):BX K w m r:=by
 obtain⟨x,_,rfl⟩:=pS.1 h;exact hf x
def zwU{K:List Int}{w:Wor}{m:lh}{f:mj->Wor×lh×lD}{r:Wor×lh×lD}(h:vW w m f=some r)(hf:∀x,BX K w m (f x)):BX K w m r:=by
 unfold vW at h;rcases zq h with h|h
 ·cases h
 ·exact Gt h hf
def x5{K:List Int}{w w':Wor}{m m':lh}{e:lD}(h1:w'.counts=w.counts)(h2:m'.op=m.op)(h3:m'.done=false)(h4:e.cell≠10:=by exact pF au):BX K w m (w',m',e):=⟨h1,h2,λq=>absurd (q.symm.trans h3) ar,IB h4⟩
def JO{K:List Int}{w w':Wor}{m m':lh}{e:lD}(h1:w'.counts=w.counts)(h2:m'.op=m.op)(h3:m'.answer.kind∈K)(h4:e.cell≠10:=by exact pF au):BX K w m (w',m',e):=⟨h1,h2,λ_=>h3,IB h4⟩
def zoM{w:Wor}{m:lh}{v:lJ}{g:Gr}{e:En}{r:Wor×lh×lD}(hd:m.done=false)(h:jO w m v g e=some r):BX [6,7] w m r:=by
 unfold jO at h;rcases zq h with h|h
 ·obtain rfl:=pz h;exact gu
 rcases zq h with h|h
 ·obtain rfl:=pz h;exact gu
 rcases zq h with h|h
 ·rcases zq h with h|h
  ·obtain rfl:=pz h;exact gu
  ·obtain rfl:=pz h;exact gu
 rcases zq h with h|h
 ·obtain rfl:=pz h;exact gu
 rcases zq h with h|h
 ·exact zwU h λx=>JO O O (by exact pF au)
 rcases zq h with h|h
 ·obtain rfl:=pz h;exact gp
 ·cases h
def zuv{w:Wor}{m:lh}{r:Wor×lh×lD}(hd:m.done=false)(h:kU w m=some r):BX [8,9] w m r:=by
 unfold kU at h;rcases zq h with h|h
 ·rcases zq h with h|h
  ·obtain rfl:=pz h;exact gu
  ·obtain rfl:=pz h;exact gp
 rcases zq h with h|h
 ·obtain rfl:=pz h;exact gu
 rcases zq h with h|h
 ·rcases zq h with h|h
  ·cases h
  ·obtain rfl:=pz h;exact gp
 ·cases h
def zq6{w:Wor}{m:lh}{r:Wor×lh×lD}(hd:m.done=false)(h:yA w m=some r):BX [7,10] w m r:=by
 unfold yA at h;rcases zq h with h|h
 ·rcases zq h with h|h
  ·obtain rfl:=pz h;exact gp
  ·exact Gt h λx=>JO O O (by exact pF au)
 ·cases h
def Wg(w:Wor)(m m0:lh)(hd:m.done=false)(ho:m.op=m0.op):BX [11,12] w m0 (nM w m):=by
 unfold nM;split
 ·exact JO O ho (by exact pF au)
 ·refine x5 O ?_ ?_
  ·unfold Es;repeat' split
   all_goals exact ho
  ·unfold Es;repeat' split
   all_goals exact hd
def zmR{w:Wor}{m:lh}{r:Wor×lh×lD}(hd:m.done=false)(h:jA w m=some r):BX [11,12] w m r:=by
 unfold jA at h;rcases zq h with h|h
 ·obtain rfl:=pz h;split
  ·exact gu
  ·exact gp
 rcases zq h with h|h
 ·obtain rfl:=pz h;exact gu
 rcases zq h with h|h
 ·refine Gt h λx=>x5 O ?_ ?_
  ·unfold CW;repeat' split
   all_goals rfl
  ·unfold CW;repeat' split
   all_goals exact hd
 rcases zq h with h|h
 ·obtain rfl:=pz h;split
  ·exact gu
  ·exact gu
 rcases zq h with h|h
 ·obtain rfl:=pz h;split
  ·exact Wg w (nH m 8 0) m hd O
  ·refine x5 O ?_ ?_
   ·unfold Dq;repeat' split
    all_goals rfl
   ·unfold Dq;repeat' split
    all_goals exact hd
 rcases zq h with h|h
 ·obtain⟨v,_,h⟩:=pN.1 h;refine Gt h λx=>x5 O ?_ ?_
  ·unfold Cd;repeat' split
   all_goals rfl
  ·unfold Cd;repeat' split
   all_goals exact hd
 rcases zq h with h|h
 ·obtain⟨v,_,h⟩:=pN.1 h;obtain⟨x,_,h⟩:=pN.1 h;rcases zq h with h|h
  ·obtain rfl:=pz h;exact gu
  ·cases h
 rcases zq h with h|h
 ·obtain rfl:=pz h;exact Wg w m m hd O
 rcases zq h with h|h
 ·refine Gt h λx=>x5 O ?_ ?_
  ·split <;> rfl
  ·split <;> exact hd
 rcases zq h with h|h
 ·obtain⟨v,_,h⟩:=pN.1 h;rcases zq h with h|h
  ·obtain rfl:=pz h;exact gu
  ·cases h
 ·cases h
def Uq(w:Wor)(m:lh)(n:Int):(jT w m n).op=m.op/\((jT w m n).done=m.done\/(jT w m n).answer.kind=13):=by
 unfold jT;dsimp only;repeat' split
 all_goals exact⟨rfl,by first|exact .inl rfl|exact .inr O⟩
def zq7{w:Wor}{m:lh}{r:Wor×lh×lD}(hd:m.done=false)(h:xS w m=some r):BX [13] w m r:=by
 unfold xS at h;rcases zq h with h|h
 ·obtain⟨v,_,h⟩:=pN.1 h;refine Gt h λx=>⟨rfl,(Uq w m x).1,λq=>?_,λz=>absurd (show(1:Int)=3 from z.2) ar⟩
  dsimp only at q ⊢;rcases(Uq w m x).2 with z|z
  ·exact absurd (hd.symm.trans (z.symm.trans q)) ar
  ·exact pP.2 z
 ·cases h
def zA{α:Type}{c:Prop}[Decidable c]{a b x:α}(h:(if c then a else b)=x):(c/\a=x)\/(¬c/\b=x):=by
 by_cases q:c
 ·rw[pA q]at h;exact .inl ⟨q,h⟩
 ·rw[pw q]at h;exact .inr ⟨q,h⟩
def FV(w:Wor)(m:lh)(r:Wor×lh×lD):Prop:=
 (r.1.counts=w.counts/\m.pc<20/\r.2.1.pc<=20/\r.2.1.done=false/\¬CH r.2.2)\/
 (∃(k:Nat) (r0:List Int) (x:Int),w.counts[m.zg.toNat]?=some r0/\r0[k]?=some x/\r.1.counts=w.counts.set m.zg.toNat (r0.set k (IntKind.u64.wrap (x+1)))/\(CH r.2.2/\r.2.2.value=k)/\((m.pc=20/\k=(C8 m.answer.kind).toNat/\r.2.1={m with pc:=21})\/(m.pc=21/\k=0/\∃p,22<=p/\r.2.1={m with pc:=p})))\/
 (r.1.counts=w.counts/\22<=m.pc/\¬CH r.2.2/\(r.2.1={m with pc:=23}\/r.2.1={m with done:=true}))
def KV{α:Type}{w:Wor}{m:lh}{o:Option α}{f:α->Wor×lh×lD}{r:Wor×lh×lD}(h:o.map f=some r)(hf:∀x,FV w m (f x)):FV w m r:=by
 obtain⟨x,_,rfl⟩:=pS.1 h;exact hf x
def OY{w:Wor}{m:lh}{f:mj->Wor×lh×lD}{r:Wor×lh×lD}(h:vW w m f=some r)(hf:∀x,FV w m (f x)):FV w m r:=by
 unfold vW at h;rcases zq h with h|h
 ·cases h
 ·exact KV h hf
def wc{w w':Wor}{m m':lh}{e:lD}(h1:w'.counts=w.counts)(h2:m.pc<20)(h3:m'.pc<=20)(h4:m'.done=false)(h5:e.cell≠10:=by exact pF au):FV w m (w',m',e):=.inl ⟨h1,h2,h3,h4,IB h5⟩
def TJ{w:Wor}{m:lh}{k p:Int}{r:Wor×lh×lD}(h:xQ w m k p=some r):∃r0 x,w.counts[m.zg.toNat]?=some r0/\r0[k.toNat]?=some x/\r.1.counts=w.counts.set m.zg.toNat (r0.set k.toNat (IntKind.u64.wrap (x+1)))/\(CH r.2.2/\r.2.2.value=k)/\r.2.1={m with pc:=p}:=by
 unfold xQ at h;split at h
 ·cases h
 ·rename_i r0 h0;split at h
  ·cases h
  ·rename_i x hx;obtain rfl:=pz h;exact⟨r0,x,h0,hx,rfl,⟨⟨rfl,rfl⟩,rfl⟩,rfl⟩
def Tq{w:Wor}{m:lh}{v:lJ}{g:Gr}{e:En}{r:Wor×lh×lD}(hd:m.done=false)(h:zY w m v g e=some r):FV w m r:=by
 have rt:m.pc<=20->(xe m v).pc<=20:=λh=>by
  unfold xe;repeat' split
  all_goals first|exact h|exact pF au
 have rd:(xe m v).done=false:=by
  unfold xe;repeat' split
  all_goals exact hd
 unfold zY at h;rcases zA h with⟨p,h⟩|⟨p,h⟩
 ·unfold AN at h;rcases zq h with h|h
  ·obtain rfl:=pz h;exact wc O aw (by show(1:Int)<=20;decide) hd
  rcases zq h with h|h
  ·obtain rfl:=pz h;exact wc O aw (by show(2:Int)<=20;decide) hd
  rcases zq h with h|h
  ·obtain rfl:=pz h;exact wc O aw (by dsimp only;split <;> decide) hd
  ·cases h
 rcases zA h with⟨p,h⟩|⟨_,h⟩
 ·obtain rfl:=pz h;refine wc O aw ?_ ?_
  ·split
   ·show(20:Int)<=20;decide
   ·show(4:Int)<=20;decide
  ·split <;> exact hd
 rcases zA h with⟨p,h⟩|⟨_,h⟩
 ·exact OY h λx=>wc O aw (by show(5:Int)<=20;decide) hd
 rcases zA h with⟨p,h⟩|⟨_,h⟩
 ·refine OY h λx=>wc O aw ?_ ?_ cP
  ·split
   ·show(20:Int)<=20;decide
   ·exact rt aw
  ·split
   ·exact hd
   ·exact rd
 rcases zA h with⟨p,h⟩|⟨_,h⟩
 ·exact KV h λx=>wc O aw (by show(9:Int)<=20;decide) hd
 rcases zA h with⟨p,h⟩|⟨_,h⟩
 ·obtain rfl:=pz h;exact wc O aw (by show(8:Int)<=20;decide) hd
 rcases zA h with⟨p,h⟩|⟨_,h⟩
 ·exact KV h λx=>wc O aw (by show(9:Int)<=20;decide) hd
 rcases zA h with⟨p,h⟩|⟨_,h⟩
 ·obtain rfl:=pz h;refine wc O aw ?_ ?_
  ·split
   ·show(10:Int)<=20;decide
   ·show(20:Int)<=20;decide
  ·split <;> exact hd
 rcases zA h with⟨p,h⟩|⟨_,h⟩
 ·exact KV h λx=>wc O aw (by show(11:Int)<=20;decide) hd
 rcases zA h with⟨p,h⟩|⟨_,h⟩
 ·rcases zq h with h|h
  ·obtain rfl:=pz h;exact wc O aw (by show(12:Int)<=20;decide) hd
  ·obtain rfl:=pz h;exact wc O aw (by show(9:Int)<=20;decide) hd
 rcases zA h with⟨p,h⟩|⟨_,h⟩
 ·obtain rfl:=pz h;exact wc O aw cL hd
 rcases zA h with⟨p,h⟩|⟨_,h⟩
 ·obtain⟨r0,x,a1,a2,a3,⟨a5,a6⟩,a4⟩:=TJ h;exact .inr (.inl ⟨_,r0,x,a1,a2,a3,⟨a5,by rw[a6];unfold C8;split <;> omega⟩,.inl ⟨p,rfl,a4⟩⟩)
 rcases zA h with⟨p,h⟩|⟨_,h⟩
 ·obtain⟨r0,x,a1,a2,a3,a5,a4⟩:=TJ h;exact .inr (.inl ⟨0,r0,x,a1,a2,a3,a5,.inr ⟨p,rfl,_,by split <;> decide,a4⟩⟩)
 rcases zA h with⟨p,h⟩|⟨_,h⟩
 ·refine OY h λx=>.inr (.inr ⟨rfl,aw,IB (pF au),.inl O⟩)
 rcases zA h with⟨p,h⟩|⟨_,h⟩
 ·obtain rfl:=pz h;exact .inr (.inr ⟨rfl,aw,IB (pF au),.inr O⟩)
 ·cases h
structure CI(N:Nat)(s:Wor.mS):Prop where
 col:∀k,k<6->zEm k s.1.counts=(((s.2.2.map (W8 k)).sum+(s.2.1.map (Xa k)).sum:Nat):Int)
 low:∀r∈s.1.counts,∀x∈r,0<=x/\x<=(N:Int)
 on:s.2.2.countP (·.qY)=s.2.2.countP (·.done)+s.2.1.countP (·.on)
def Zw{N K:Nat}{w:Wor}{X:List lW}{t:Nat}{x:lW}{o:lX}(gi:GI N K w X)(hx:X[t]?=some x):(z8 x t o).op.kind=1->20<=(z8 x t o).pc->1<=(z8 x t o).answer.kind/\(z8 x t o).answer.kind<=5:=by
 cases hon:x.on with
 |false=>
  intro hk hp;have e:z8 x t o=Beg.xC t o x.given:=aX
  rw[e]at hk hp;by_cases h:o.kind=2
  ·have:(Beg.xC t o x.given).op.kind=2:=by
    unfold Beg.xC;rw[pA h];unfold Beg.EJ;repeat' split
    all_goals exact h
   omega
  ·rw[vX h]at hp;exact absurd (show(20:Int)<=0 from hp) ar
 |true=>
  have e:z8 x t o=x.m:=aX
  rw[e];intro hk hp;obtain⟨os,hl,hti,_⟩:=gi.own;obtain⟨ow,ho⟩:∃o,os[t]?=some o:=⟨_,pa (by have:=(gZ.1 hx).1;omega)⟩;obtain⟨L,_,_,h|⟨_,h⟩⟩:=(hti t x ow hx ho).open_
  ·have:=h.1;rw[hon]at this;cases this
  ·obtain⟨v,g,e,su,lc⟩:=h.lc;rcases lc with⟨_,lc⟩|⟨k,_⟩|⟨k,_⟩|⟨k,_⟩|⟨k,_⟩|⟨k,_⟩
   ·exact⟨(lc.AY hp).1,(lc.AY hp).2.1⟩
   all_goals omega
def vO{N K:Nat}{w:Wor}{X:List lW}{t:Nat}{x:lW}(o:lX)(gi:GI N K w X)(hx:X[t]?=some x):(z8 x t o).zg=t:=by
 cases hon:x.on with
 |false=>
  unfold z8 Beg.xC;rw[hon,pw ar];split
  ·unfold Beg.EJ;repeat' split
   all_goals rfl
  ·rfl
 |true=>
  unfold z8;rw[hon,pA O];obtain⟨os,hl,hti,_⟩:=gi.own;obtain⟨ow,ho⟩:∃o,os[t]?=some o:=⟨_,pa (by have:=(gZ.1 hx).1;omega)⟩;obtain⟨L,_,_,h|⟨_,h⟩⟩:=(hti t x ow hx ho).open_
  ·have:=h.1;rw[hon]at this;cases this
  ·exact h.th
structure Tr(s:Wor.mS):Prop where
 th:∀e∈s.2.2,∃(t:Nat) (x:lW),e.zg=(t:Int)/\s.2.1[t]?=some x/\0<=e.op/\(e.op<x.done\/(e.op=x.done/\x.on=true))
 uniq:∀(a b:Nat) (ea eb:lD),s.2.2[a]?=some ea->s.2.2[b]?=some eb->ea.qY=true->eb.qY=true->ea.zg=eb.zg->ea.op=eb.op->a=b
 on:∀(t:Nat) (x:lW),s.2.1[t]?=some x->x.on=true->∃(f:Nat) (e:lD),s.2.2[f]?=some e/\e.qY=true/\e.zg=(t:Int)/\e.op=x.done
def xB{α:Type}{l:List α}{y x:α}{a:Nat}(h:(l++[y])[a]?=some x):(a<l.length/\l[a]?=some x)\/(a=l.length/\x=y):=by
 rw[eP]at h;split at h
 ·exact .inl ⟨by assumption,h⟩
 ·rename_i q;have hl:a-l.length<1:=by simpa using (gZ.1 h).1
  have e0:a-l.length=0:=aw
  rw[e0]at h;exact .inr ⟨aw,aq h.symm⟩
def xx{α:Type}{l:List α}(y:α){x:α}{a:Nat}(h:l[a]?=some x):(l++[y])[a]?=some x:=by
 rw[pD (gZ.1 h).1];exact h
def yy{α:Type}(l:List α)(y:α):(l++[y])[l.length]?=some y:=by simp
def K5{s:Wor.mS}{t:Nat}{x:lW}{m:lh}{w:Wor}{e:lD}(tr:Tr s)(hx:s.2.1[t]?=some x)(he:e.zg=(t:Int)):Tr (w,s.2.1.set t (Wor.qq x m),s.2.2++[vq e x]):=by
 have hl:=(gZ.1 hx).1
 have y:(Wor.qq x m).done=x.done+1/\(Wor.qq x m).on=false\/(Wor.qq x m).done=x.done/\(Wor.qq x m).on=true:=by
  unfold Wor.qq;by_cases q:m.done=true
  ·rw[pA q];exact .inl ⟨rfl,rfl⟩
  ·rw[pw q];exact .inr ⟨rfl,rfl⟩
 refine⟨λe' h=>?_,λa b ea eb h1 h2 b1 b2 q1 q2=>?_,λt' x' h1 h2=>?_⟩
 ·dsimp only at h ⊢;rcases pV.1 h with h|h
  ·obtain⟨t',x',p1,p2,p3,p4⟩:=tr.th e' h;by_cases q:t=t'
   ·subst q;rw[hx]at p2;cases p2
    refine⟨t,_,p1,pC hl,p3,?_⟩;rcases y with⟨y1,y2⟩|⟨y1,y2⟩
    ·rw[y1];exact .inl aw
    ·rw[y1,y2];rcases p4 with p4|p4
     ·exact .inl p4
     ·exact .inr ⟨p4.1,rfl⟩
   ·exact⟨t',x',p1,by rw[pX q];exact p2,p3,p4⟩
  ·rw[pP]at h;subst h;refine⟨t,_,he,pC hl,by show(0:Int)<=(x.done:Int);omega,?_⟩;show(x.done:Int)<_\/(x.done:Int)=_/\_;rcases y with⟨y1,y2⟩|⟨y1,y2⟩
   ·rw[y1];exact .inl aw
   ·rw[y1,y2];exact .inr ⟨rfl,rfl⟩
 ·dsimp only at h1 h2
  have none_:∀ea∈s.2.2,x.on=false->ea.zg=(t:Int)->ea.op=(x.done:Int)->False:=λea hm hoff hth hop=>by
   obtain⟨t',x',p1,p2,p3,p4⟩:=tr.th ea hm;have:t'=t:=aw
   subst this;rw[hx]at p2;cases p2
   rcases p4 with p4|⟨_,p4⟩
   ·omega
   ·rw[hoff]at p4;cases p4
  rcases xB h1 with⟨l1,h1⟩|⟨l1,rfl⟩
  ·rcases xB h2 with⟨l2,h2⟩|⟨l2,rfl⟩
   ·exact tr.uniq a b ea eb h1 h2 b1 b2 q1 q2
   ·exact(none_ ea (pq h1) (by have:(!x.on)=true:=b2;simpa using this) (q1.trans he) q2).elim
  ·rcases xB h2 with⟨l2,h2⟩|⟨l2,rfl⟩
   ·exact(none_ eb (pq h2) (by have:(!x.on)=true:=b1;simpa using this) (q1.symm.trans he) q2.symm).elim
   ·omega
 ·dsimp only at h1 ⊢;by_cases q:t=t'
  ·subst q;rw[pC hl]at h1;cases h1
   rcases y with⟨y1,y2⟩|⟨y1,y2⟩
   ·rw[h2]at y2;cases y2
   ·rw[y1];cases hon:x.on with
    |true=>
     obtain⟨f,e1,p1,p2,p3,p4⟩:=tr.on t x hx hon;exact⟨f,e1,xx _ p1,p2,p3,p4⟩
    |false=>exact⟨s.2.2.length,_,yy _ _,cQ,he,rfl⟩
  ·rw[pX q]at h1;obtain⟨f,e1,p1,p2,p3,p4⟩:=tr.on t' x' h1 h2;exact⟨f,e1,xx _ p1,p2,p3,p4⟩
def Ku(w:Wor)(T:List (List lX)):Tr (w,T.map wA,[]):=by
 refine⟨λe h=>aS,λa b ea eb h1=>(by cases h1),λt x h1 h2=>?_⟩;obtain⟨L,_,rfl⟩:=pS.1 ((pj ..).symm.trans h1);cases h2
def isAdd(k:Nat)(e:lD):Bool:=e.cell == 10 && e.access == 3 && e.value == (k:Int)
def AR(i k:Nat)(e:lD):Bool:=isAdd k e && e.zg == (i:Int)
def BA(n k:Nat)(e:lD):Bool:=isAdd k e && decide (e.zg<(n:Int))
def Av(x:BR)(k:Nat):Int:=if k=0 then x.c0 else if k=1 then x.c1 else if k=2 then x.c2 else if k=3 then x.c3 else if k=4 then x.c4 else x.c5
def zxR{k:Nat}{e:lD}(h:¬CH e):isAdd k e=false:=by
 unfold isAdd;cases q:(e.cell == 10 && e.access == 3) with
 |false=>rfl
 |true=>
  simp only[pG,rJ]at q;exact absurd q h
def zvf{k kk:Nat}{e:lD}(h:CH e)(hv:e.value=(kk:Int)):isAdd k e=decide (k=kk):=by
 unfold isAdd;rw[h.1,h.2,hv];by_cases q:k=kk
 ·subst q;simp
 ·have:¬((kk:Int)=k):=by omega
  simp[q,this]
def lt_succ(n k:Nat):∀l:List lD,l.countP (BA (n+1) k)=l.countP (BA n k)+l.countP (AR n k)
 |[]=>rfl
 |e::l=>by
  have ih:=lt_succ n k l;rw[i5,i5,i5,ih]
  have:(if BA (n+1) k e=true then 1 else 0)=(if BA n k e=true then 1 else 0)+(if AR n k e=true then 1 else 0):=by
   unfold BA AR;cases isAdd k e with
   |false=>simp
   |true=>
    simp only[ui,rJ,pQ];by_cases q:e.zg<(n:Int)
    ·rw[pA aw,pA q,pw aw]
    ·rw[pw q];by_cases z:e.zg=(n:Int)
     ·rw[pA aw,pA z]
     ·rw[pw aw,pw z]
  omega
def Yq(k:Nat){l:List lD}(h:∀e∈l,0<=e.zg):l.countP (BA 0 k)=0:=by
 rw[fV];intro e he;have:=h e he;unfold BA;simp;omega
def Ws(n k:Nat){l:List lD}(h:∀e∈l,e.zg<(n:Int)):l.countP (BA n k)=l.countP (isAdd k):=by
 refine List.countP_congr λe he=>?_
 have:=h e he;unfold BA;simp[this]
def AF(m:lh)(k:Nat):Nat:=m.i.toNat+if (k:Int)<m.k then 1 else 0
def Bd(F L:List lD)(m:lh):Prop:=∀k,k<6->(F.countP (BA (AF m k) k):Int)<=Av m.counts k/\Av m.counts k<=L.countP (BA (AF m k) k)
def Bd.grow{F L:List lD}{m:lh}(e:lD)(h:Bd F L m):Bd F (L++[e]) m:=λk hk=>by
 have:=h k hk;rw[sP];omega
def zyP(x:BR)(a k:Nat)(n:Int)(ha:a<6)(hk:k<6)(h:0<=Av x a+n)(h2:Av x a+n<18446744073709551616):Av (AL x a n) k=Av x k+if k=a then n else 0:=by
 have w:∀z:Int,0<=z->z<18446744073709551616->IntKind.u64.wrap z=z:=λz h1 h2=>by
  show z%18446744073709551616=z;omega
 obtain⟨c0,c1,c2,c3,c4,c5⟩:=x;obtain rfl|rfl|rfl|rfl|rfl|rfl:a=0\/a=1\/a=2\/a=3\/a=4\/a=5:=aw
 all_goals
  obtain rfl|rfl|rfl|rfl|rfl|rfl:k=0\/k=1\/k=2\/k=3\/k=4\/k=5:=aw
 all_goals
  simp[Av,AL]at h h2 ⊢
 all_goals exact w _ h h2
def zzJ{F L:List lD}{w:Wor}{m:lh}{r:Wor×lh×lD}(b:Bd F L m)(hF:∀p:lD->Bool,F.countP p<=L.countP p)(h0:0<=m.i)(h1:0<=m.k)(hL:L.length<=1000000000000)
 (nW:∀(i k:Nat) (row:List Int) (n:Int),w.counts[i]?=some row->row[k]?=some n->n=L.countP (AR i k))(h:xS w m=some r)(hd:m.done=false)(hth:∀e∈L,e.zg<(w.counts.length:Int))(hthF:∀e∈F,e.zg<(w.counts.length:Int)):
  (r.2.1.done=false->Bd F L r.2.1)/\(r.2.1.done=true->∀k,k<6->(F.countP (isAdd k):Int)<=Av r.2.1.answer.counts k/\Av r.2.1.answer.counts k<=L.countP (isAdd k)):=by
 unfold xS at h;rcases zA h with⟨⟨p1,p2⟩,h⟩|⟨_,h⟩
 ·obtain⟨row,hrow,h⟩:=pN.1 h;obtain⟨n,hn,rfl⟩:=pS.1 h;have en:=nW _ _ row n hrow hn;obtain⟨kk,ek⟩:∃kk:Nat,m.k=kk:=⟨m.k.toNat,aw⟩;have kk6:kk<6:=by omega
  rw[ek,toNat_cast]at hn en;have le:∀p:lD->Bool,L.countP p<=L.length:=λp=>sW
  have rd0:AF m kk=m.i.toNat:=by unfold AF;rw[ek,pw aw];rfl
  have bk:=b kk kk6;have sp:=lt_succ m.i.toNat kk L;have spF:=lt_succ m.i.toNat kk F;have hFb:=hF (AR m.i.toNat kk);have l1:=le (BA (m.i.toNat+1) kk);rw[rd0]at bk
  have key:∀k,k<6->(F.countP (BA (AF m k+if k=kk then 1 else 0) k):Int)<=Av (AL m.counts m.k n) k/\Av (AL m.counts m.k n) k<=L.countP (BA (AF m k+if k=kk then 1 else 0) k):=λk hk=>by
   rw[ek,zyP m.counts kk k n kk6 hk aw aw];by_cases q:k=kk
   ·subst q;rw[pA O,pA O,rd0];omega
   ·rw[pw q,pw q,uk];have:=b k hk;omega
  have hi:=(gZ.1 hrow).1;dsimp only;by_cases q5:m.k+1=6
  ·have rdn:∀k,k<6->AF m k+(if k=kk then 1 else 0)=m.i.toNat+1:=λk hk=>by
    unfold AF;rw[ek];by_cases q:k=kk
    ·rw[pA q,pw aw]
    ·rw[pw q,pA aw]
   by_cases q6:m.i+1=w.counts.length
   ·have es:jT w m n={m with counts:=AL m.counts m.k n,k:=0,i:=m.i+1,done:=true,answer:=⟨13,0,0,0,0,0,0,AL m.counts m.k n⟩}:=by
     unfold jT;dsimp only;rw[pA q5,pA q6]
    rw[es];refine⟨λq=>absurd (show true=false from q) ar,λ_ k hk=>?_⟩;have a:=key k hk;rw[rdn k hk,show m.i.toNat+1=w.counts.length from aw]at a;rw[Ws _ _ hth]at a;rw[Ws _ _ hthF]at a;exact a
   ·have es:jT w m n={m with counts:=AL m.counts m.k n,k:=0,i:=m.i+1}:=by
     unfold jT;dsimp only;rw[pA q5,pw q6]
    rw[es];refine⟨λ_ k hk=>?_,λq=>absurd (hd.symm.trans q) ar⟩;have a:=key k hk
    have e:AF {m with counts:=AL m.counts m.k n,k:=0,i:=m.i+1} k=AF m k+if k=kk then 1 else 0:=by
     rw[rdn k hk];unfold AF;dsimp only;rw[pw aw];omega
    rw[e];exact a
  ·have q7:¬(m.i=w.counts.length):=by omega
   have es:jT w m n={m with counts:=AL m.counts m.k n,k:=m.k+1}:=by
    unfold jT;dsimp only;rw[pw q5,pw q7]
   rw[es];refine⟨λ_ k hk=>?_,λq=>absurd (hd.symm.trans q) ar⟩;have a:=key k hk
   have e:AF {m with counts:=AL m.counts m.k n,k:=m.k+1} k=AF m k+if k=kk then 1 else 0:=by
    unfold AF;dsimp only;rw[ek];by_cases q:k=kk
    ·rw[pA q,pA aw,pw aw]
    ·rw[pw q];by_cases z:(k:Int)<kk
     ·rw[pA aw,pA z]
     ·rw[pw aw,pw z]
   rw[e];exact a
 ·cases h
def zoS{w:Wor}{m:lh}{v:lJ}{g:Gr}{e:En}{r:Wor×lh×lD}(su:ja w m v g e)(h:yu w m=some r):
  ((r.1.counts=w.counts/\¬CH r.2.2)\/∃(kk:Nat) (r0:List Int) (x:Int),w.counts[m.zg.toNat]?=some r0/\r0[kk]?=some x/\r.1.counts=w.counts.set m.zg.toNat (r0.set kk (IntKind.u64.wrap (x+1)))/\CH r.2.2/\r.2.2.value=kk)/\
  (r.2.1.done=true->r.2.1.answer.kind=13->(m.op.kind=1->20<=m.pc->m.answer.kind<=5)->m.op.kind=6):=by
 have calm:∀{K:List Int},BX K w m r->(∀z∈K,z≠13)->((r.1.counts=w.counts/\¬CH r.2.2)\/∃(kk:Nat) (r0:List Int) (x:Int),w.counts[m.zg.toNat]?=some r0/\r0[kk]?=some x/\r.1.counts=w.counts.set m.zg.toNat (r0.set kk (IntKind.u64.wrap (x+1)))/\CH r.2.2/\r.2.2.value=kk)/\
   (r.2.1.done=true->r.2.1.answer.kind=13->(m.op.kind=1->20<=m.pc->m.answer.kind<=5)->m.op.kind=6):=@λK ⟨c1,c2,c3,c4⟩ hh=>⟨.inl ⟨c1,c4⟩,λa b _=>absurd b (hh _ (c3 a))⟩
 unfold yu at h;rw[su.mu]at h;dsimp only at h;rw[su.mn]at h;dsimp only at h;rw[su.mM]at h;dsimp only at h;rcases zA h with⟨k1,h⟩|⟨k1,h⟩
 ·rcases Tq su.done h with⟨c1,c2,c3,c4,c5⟩|⟨kk,r0,x,a1,a2,a3,a5,a4⟩|⟨c1,c2,c4,c3⟩
  ·exact⟨.inl ⟨c1,c5⟩,λa=>by rw[c4]at a;cases a⟩
  ·refine⟨.inr ⟨kk,r0,x,a1,a2,a3,a5.1,a5.2⟩,λa=>?_⟩;rcases a4 with⟨_,_,e⟩|⟨_,_,p,_,e⟩ <;> (rw[e]at a;exact absurd (su.done.symm.trans a) ar)
  ·refine⟨.inl ⟨c1,c4⟩,λa b c=>?_⟩;have:=c k1 aw;rcases c3 with e|e <;> (rw[e]at b;dsimp only at b;omega)
 rcases zA h with⟨k2,h⟩|⟨_,h⟩
 ·exact calm (zoM su.done h) ar
 rcases zA h with⟨k2,h⟩|⟨_,h⟩
 ·exact calm (zuv su.done h) ar
 rcases zA h with⟨k2,h⟩|⟨_,h⟩
 ·exact calm (zq6 su.done h) ar
 rcases zA h with⟨k2,h⟩|⟨_,h⟩
 ·exact calm (zmR su.done h) ar
 rcases zA h with⟨k2,h⟩|⟨_,h⟩
 ·have c:=zq7 su.done h;exact⟨.inl ⟨c.1,c.2.2.2⟩,λ_ _ _=>k2⟩
 ·cases h
def C4{N K:Nat}{w:Wor}{X:List lW}{t:Nat}{x:lW}{o:lX}(gi:GI N K w X)(hx:X[t]?=some x)(ho:x.ops[x.done]?=some o):(z8 x t o).op=o:=by
 cases hon:x.on with
 |false=>
  unfold z8 Beg.xC;rw[hon,pw ar];split
  ·unfold Beg.EJ;repeat' split
   all_goals rfl
  ·rfl
 |true=>
  unfold z8;rw[hon,pA O];obtain⟨os,hl,hti,_⟩:=gi.own;obtain⟨ow,ho2⟩:∃o,os[t]?=some o:=⟨_,pa (by have:=(gZ.1 hx).1;omega)⟩;obtain⟨L,_,_,h|⟨_,h⟩⟩:=(hti t x ow hx ho2).open_
  ·have:=h.1;rw[hon]at this;cases this
  ·have:=h.at_;rw[ho]at this;exact(pz this).symm
structure SI(s:Wor.mS):Prop where
 tr:Tr s
 nW:∀(i k:Nat) (row:List Int) (n:Int),s.1.counts[i]?=some row->row[k]?=some n->n=(s.2.2.countP (AR i k):Nat)
 rd:∀(t:Nat) (x:lW),s.2.1[t]?=some x->x.on=true->x.m.op.kind=6->∃(f:Nat) (e:lD),s.2.2[f]?=some e/\e.qY=true/\e.zg=(t:Int)/\e.op=x.done/\Bd (s.2.2.take f) s.2.2 x.m
 fin:∀(τ:Nat) (e:lD),s.2.2[τ]?=some e->e.done=true->e.answer.kind=13->∃(f:Nat) (e0:lD),f<=τ/\s.2.2[f]?=some e0/\e0.qY=true/\e0.zg=e.zg/\e0.op=e.op/\
  ∀k,k<6->((s.2.2.take f).countP (isAdd k):Int)<=Av e.answer.counts k/\Av e.answer.counts k<=(s.2.2.take (τ+1)).countP (isAdd k)
def vT{α:Type}{l:List α}(y:α){n:Nat}(h:n<=l.length):(l++[y]).take n=l.take n:=by rw[fm h]
def YN{N K:Nat}{s:Wor.mS}(gi:GI N K s.1 s.2.1)(si:SI s)(p:Int)(hN:N<=100000000)(hK:K<=1099511627776)(hL:s.2.2.length<=1000000000000):SI (yl s p):=by
 rcases jy gi p hN hK with⟨_,e⟩|⟨t,x,o,r,hat,hx,ho,hsu,htm,hst,_,e,gi2⟩
 ·rw[e];exact si
 ·rw[e];obtain⟨v,g,en,su⟩:=yh hsu;have tl:=w6 su.done hst;have nt:=vO o gi hx;have no:=C4 gi hx ho;have eth:r.2.2.zg=(t:Int):=tl.2.2.trans nt;have hl:=(gZ.1 hx).1;have gr:=qs.1 gi.st.jn.ground;have wl:s.1.counts.length=s.2.1.length:=gr.counts.1.trans gi.len;obtain⟨cc,c13⟩:=zoS su hst
  have Ew:∀e∈s.2.2,0<=e.zg/\e.zg<(s.1.counts.length:Int):=λe he=>by
   obtain⟨t',x',p1,p2,_⟩:=si.tr.th e he;have:=(gZ.1 p2).1;omega
  have rdm:(z8 x t o).op.kind=6->∃f,f<=s.2.2.length/\(∃e:lD,(s.2.2++[vq r.2.2 x])[f]?=some e/\e.qY=true/\e.zg=(t:Int)/\e.op=x.done)/\Bd (s.2.2.take f) s.2.2 (z8 x t o):=λhk=>by
   cases hon:x.on with
   |true=>
    have en:z8 x t o=x.m:=aX
    rw[en]at hk ⊢;obtain⟨f,e1,p1,p2,p3,p4,p5⟩:=si.rd t x hx hon hk;exact⟨f,eC (gZ.1 p1).1,⟨e1,xx _ p1,p2,p3,p4⟩,p5⟩
   |false=>
    refine⟨s.2.2.length,pI _,⟨_,yy _ _,cQ,eth,rfl⟩,?_⟩;have en:z8 x t o=Beg.xC t o x.given:=aX
    rw[no]at hk;rw[en,vX aw,rj];intro k hk6
    have rd0:AF ⟨o,t,0,0,0, -1,0,0,0,0,0,0,0,0,0,false,Beg.vG,kK⟩ k=0:=by
     unfold AF;dsimp only;rw[pw aw]
     rfl
    have s0:Av kK k=0:=by
     unfold Av kK;repeat' split
     all_goals rfl
    dsimp only at rd0 ⊢;rw[rd0,Yq k λe he=>(Ew e he).1,s0];exact⟨p8 _,p8 _⟩
  have stp:∀f,(z8 x t o).op.kind=6->Bd (s.2.2.take f) s.2.2 (z8 x t o)->(r.2.1.done=false->Bd (s.2.2.take f) s.2.2 r.2.1)/\(r.2.1.done=true->∀k,k<6->((s.2.2.take f).countP (isAdd k):Int)<=Av r.2.1.answer.counts k/\Av r.2.1.answer.counts k<=s.2.2.countP (isAdd k)):=λf hk b=>by
   have h:=hst;unfold yu at h;rw[su.mu]at h;dsimp only at h;rw[su.mn]at h;dsimp only at h;rw[su.mM]at h;dsimp only at h;rw[pw aw,pw aw,pw aw,pw aw,pw aw,pA hk]at h;exact zzJ b (λp=>(iU f s.2.2).countP_le) su.i su.k hL si.nW h su.done (λe he=>(Ew e he).2) λe he=>(Ew e (sT he)).2
  refine⟨K5 si.tr hx eth,λi k row n h1 h2=>?_,λt' x' h1 h2 h3=>?_,λτ e1 h1 h2 h3=>?_⟩
  ·dsimp only at h1 h2 ⊢
   have ad:AR i k (vq r.2.2 x)=(isAdd k r.2.2 && decide ((t:Int)=i)):=by
    show(isAdd k r.2.2 && (r.2.2.zg == (i:Int)))=_;rw[eth]
    rfl
   rw[sP,sQ,ad];rcases cc with⟨c1,c2⟩|⟨kk,r0,x0,a1,a2,a3,a4,a5⟩
   ·rw[c1]at h1;rw[si.nW i k row n h1 h2,zxR c2];simp
   ·rw[a3,nt,toNat_cast]at h1;rw[nt,toNat_cast]at a1;have ex:=si.nW t kk r0 x0 a1 a2;have le:s.2.2.countP (AR t kk)<=s.2.2.length:=sW
    have wr:IntKind.u64.wrap (x0+1)=x0+1:=by
     show(x0+1)%18446744073709551616=x0+1;omega
    rw[zvf a4 a5];rcases jG h1 with⟨rfl,rfl,_⟩|⟨hne,h1⟩
    ·rcases jG h2 with⟨rfl,rfl,_⟩|⟨hne,h2⟩
     ·rw[wr,ex];simp
     ·rw[si.nW t k r0 n a1 h2];have:¬(k=kk):=λz=>hne z.symm
      simp[this]
    ·rw[si.nW i k row n h1 h2];have:¬((t:Int)=i):=by omega
     simp[this]
  ·dsimp only at h1 ⊢;by_cases q:t=t'
   ·subst q;have gx:(s.2.1.set t (Wor.qq x r.2.1))[t]?=some (Wor.qq x r.2.1):=pC hl;rw[gx]at h1;cases h1
    have nd:r.2.1.done=false:=by
     cases z:r.2.1.done with
     |false=>rfl
     |true=>rw[Wor.yN z]at h2;cases h2
    rw[xI nd]at h3 ⊢;dsimp only at h3 ⊢;have ho2:(Wor.qq x r.2.1).ops[(Wor.qq x r.2.1).done]?=some o:=by rw[xI nd];exact ho
    have n2:=C4 gi2 gx ho2;have e2:z8 (Wor.qq x r.2.1) t o=r.2.1:=by rw[xI nd];rfl
    rw[e2]at n2;have hk:(z8 x t o).op.kind=6:=by rw[no,<-n2];exact h3
    obtain⟨f,f1,⟨e3,q1,q2,q3,q4⟩,q5⟩:=rdm hk;refine⟨f,e3,q1,q2,q3,q4,?_⟩;rw[vT _ f1];exact((stp f hk q5).1 nd).grow _
   ·rw[pX q]at h1;obtain⟨f,e3,q1,q2,q3,q4,q5⟩:=si.rd t' x' h1 h2 h3;refine⟨f,e3,xx _ q1,q2,q3,q4,?_⟩;rw[vT _ (eC (gZ.1 q1).1)];exact q5.grow _
  ·dsimp only at h1 ⊢;rcases xB h1 with⟨l1,h1⟩|⟨rfl,rfl⟩
   ·obtain⟨f,e0,q1,q2,q3,q4,q5,q6⟩:=si.fin τ e1 h1 h2 h3;refine⟨f,e0,q1,xx _ q2,q3,q4,q5,?_⟩;rw[vT _ aw,vT _ aw];exact q6
   ·have dn:r.2.1.done=true:=by rw[<-tl.1];exact h2
    have ea:(vq r.2.2 x).answer=r.2.1.answer:=tl.2.1 dn;rw[ea]at h3 ⊢;have hk:=c13 dn h3 λa b=>(Zw gi hx a b).2
    obtain⟨f,f1,⟨e3,q1,q2,q3,q4⟩,q5⟩:=rdm hk;refine⟨f,e3,f1,q1,q2,q3.trans eth.symm,q4,λk hk6=>?_⟩;have z:=(stp f hk q5).2 dn k hk6;rw[vT _ f1,um (l:=s.2.2++[vq r.2.2 x]) aj,sP];omega
def Qy{N K:Nat}{s:Wor.mS}(gi:GI N K s.1 s.2.1)(si:SI s)(l:List Int)(h0:s.2.2.length=0):∀k,k<=l.length->N+k<=100000000->K+k<=1099511627776->SI (mY s l k)/\(mY s l k).2.2.length<=k
 |0,_,_,_=>⟨si,by show s.2.2.length<=0;omega⟩
 |k+1,hk,hN,hK=>by
  have ih:=Qy gi si l h0 k aw aw aw;have g:=kB gi l k aw aw aw;rw[xX (pa aw)];refine⟨YN g ih.1 _ aw aw aw,?_⟩;rcases jy g l[k] aw aw with⟨_,e⟩|⟨t,x,o,r,hat,hx,ho,hsu,htm,hst,_,e,gi2⟩
  ·rw[e];omega
  ·rw[e];dsimp only;rw[pL];have:=ih.2;simp;omega
def zyb{s:Sna}{l:List lH}{n:Int}{w:Wor}(h:nZ s l n=(w,0)):w.counts=List.replicate n.toNat [0,0,0,0,0,0]:=by
 unfold nZ at h;split at h
 ·exact dH
 ·have hw:_=w:=sF Prod.fst h;rw[<-hw]
def zwR{s:mb}(h:(qT s).2=0):SI (nu s):=by
 obtain⟨_,hn⟩:=jQ h;have e:(nu s).1.counts=List.replicate (s.threads.length:Int).toNat [0,0,0,0,0,0]:=zyb hn;refine⟨Ku _ _,λi k row n h1 h2=>?_,λt x h1 h2=>?_,λτ e1 h1=>by cases h1⟩
 ·rw[e]at h1;rw[rM (pq h1)]at h2;have:=pq h2;have z:n=0:=by simpa using this
  rw[z]
  rfl
 ·obtain⟨L,_,rfl⟩:=pS.1 ((pj ..).symm.trans (show(s.threads.map wA)[t]?=some x from h1));cases h2
structure BI(X:List lW)(b:List Cal):Prop where
 own:∀(i:Nat) (c:Cal),b[i]?=some c->∃(t:Nat) (x:lW),c.zg=(t:Int)/\X[t]?=some x/\((c.op<x.done/\0<=c.mK)\/(c.op=x.done/\x.on=true/\c.mK<0))
 on:∀(t:Nat) (x:lW),X[t]?=some x->x.on=true->∃(i:Nat) (c:Cal),b[i]?=some c/\c.zg=(t:Int)/\c.op=x.done
 nd:∀(i j:Nat) (c d:Cal),b[i]?=some c->b[j]?=some d->c.zg=d.zg->c.op=d.op->i=j
def Wf{X:List lW}{b:List Cal}{t:Nat}{x:lW}{m:lh}{e:lD}{k:Nat}(bi:BI X b)(hx:X[t]?=some x)(he:e.zg=(t:Int))(hop:e.op=x.done)(hbg:e.qY=!x.on)(hdn:e.done=m.done):
  ∃b',Cal.CF b (k:Int) e=some b'/\BI (X.set t (Wor.qq x m)) b':=by
 have hl:=(gZ.1 hx).1
 have y:(m.done=true/\(Wor.qq x m).done=x.done+1/\(Wor.qq x m).on=false)\/(m.done=false/\(Wor.qq x m).done=x.done/\(Wor.qq x m).on=true):=by
  unfold Wor.qq;by_cases q:m.done=true
  ·rw[pA q];exact .inl ⟨q,rfl,rfl⟩
  ·rw[pw q];exact .inr ⟨aq q,rfl,rfl⟩
 have main:∀(N:List Cal) (n:Nat) (c0:Cal),N[n]?=some (Cal.qA e (k:Int) c0)->c0.zg=(t:Int)->c0.op=x.done->c0.mK<0->(∀(i:Nat) (c:Cal),N[i]?=some c->i≠n->b[i]?=some c/\¬(c.zg=(t:Int)/\c.op=x.done))->(∀(i:Nat) (c:Cal),b[i]?=some c->i≠n->N[i]?=some c)->(∀(i:Nat) (c:Cal),b[i]?=some c->i=n->c.zg=(t:Int)/\c.op=x.done)->
   BI (X.set t (Wor.qq x m)) N:=λN n c0 h1 h2 h3 h4 h5 h6 h7=>by
  have mt:=Cal.yj e (k:Int) c0;have mo:=Cal.Fq e (k:Int) c0;refine⟨λi c hc=>?_,λt' x' hx' hon=>?_,λi j c d hc hd q1 q2=>?_⟩
  ·by_cases q:i=n
   ·subst q;rw[h1]at hc;cases hc
    refine⟨t,_,mt.1.trans h2,pC hl,?_⟩;rw[mt.2,h3,mo,hdn];rcases y with⟨y0,y1,y2⟩|⟨y0,y1,y2⟩
    ·rw[y0,y1,pA O];exact .inl ⟨aw,aw⟩
    ·rw[y0,y1,y2,pw ar];exact .inr ⟨rfl,rfl,h4⟩
   ·obtain⟨hb,nq⟩:=h5 i c hc q;obtain⟨t',x',p1,p2,p3⟩:=bi.own i c hb;by_cases z:t=t'
    ·subst z;rw[hx]at p2;cases p2
     refine⟨t,_,p1,pC hl,?_⟩;rcases p3 with⟨p3,p4⟩|⟨p3,_⟩
     ·rcases y with⟨_,y1,_⟩|⟨_,y1,_⟩ <;> (rw[y1];exact .inl ⟨aw,p4⟩)
     ·exact(nq ⟨p1,p3⟩).elim
    ·exact⟨t',x',p1,by rw[pX z];exact p2,p3⟩
  ·by_cases z:t=t'
   ·subst z;rw[pC hl]at hx';cases hx'
    rcases y with⟨_,_,y2⟩|⟨_,y1,_⟩
    ·rw[hon]at y2;cases y2
    ·exact⟨n,_,h1,mt.1.trans h2,by rw[mt.2,h3,y1]⟩
   ·rw[pX z]at hx';obtain⟨i,c,p1,p2,p3⟩:=bi.on t' x' hx' hon
    have ni:i≠n:=λq=>by
     have:=(h7 i c p1 q).1;omega
    exact⟨i,c,h6 i c p1 ni,p2,p3⟩
  ·by_cases z1:i=n
   ·by_cases z2:j=n
    ·omega
    ·subst z1;rw[h1]at hc;cases hc
     exact((h5 j d hd z2).2 ⟨by rw[<-q1,mt.1,h2],by rw[<-q2,mt.2,h3]⟩).elim
   ·by_cases z2:j=n
    ·subst z2;rw[h1]at hd;cases hd
     exact((h5 i c hc z1).2 ⟨by rw[q1,mt.1,h2],by rw[q2,mt.2,h3]⟩).elim
    ·exact bi.nd i j c d (h5 i c hc z1).1 (h5 j d hd z2).1 q1 q2
 unfold Cal.CF;cases hon:x.on with
 |false=>
  rw[hbg,hon,pA ar]
  have free:∀(i:Nat) (c:Cal),b[i]?=some c->c.zg=(t:Int)->c.op<x.done/\0<=c.mK:=λi c hc hth=>by
   obtain⟨t',x',p1,p2,p3⟩:=bi.own i c hc;have:t'=t:=aw
   subst this;rw[hx]at p2;cases p2
   rcases p3 with p3|⟨_,p3,_⟩
   ·exact p3
   ·rw[hon]at p3;cases p3
  have n1:(Cal.zD b e.zg e.op).isSome=false:=by
   cases hp:Cal.zD b e.zg e.op with
   |none=>rfl
   |some n=>
    obtain⟨c,hc,p1,p2⟩:=Cal.kH hp;have:=free n c hc (p1.trans he);omega
  have n2:Cal.D8 b e.zg=false:=by
   unfold Cal.D8;rw[rI];intro c hc;obtain⟨i,hi⟩:=pJ.1 hc;by_cases q:c.zg=(t:Int)
   ·have:=free i c hi q;simp;omega
   ·simp;omega
  rw[n1,n2,pw ar];refine⟨_,rfl,?_⟩;have ml:(b++[Cal.jX e (k:Int)])[b.length]?=some (Cal.jX e (k:Int)):=aj
  rw[Cal.yG ml];refine main _ b.length (Cal.jX e (k:Int)) ?_ he hop aE (λi c hc hne=>?_) (λi c hc hne=>?_) (λi c hc q=>?_)
  ·rw[pC (gZ.1 ml).1]
  ·rw[pX (λz=>hne z.symm)]at hc;rcases xB hc with⟨_,hc⟩|⟨q,_⟩
   ·exact⟨hc,λ⟨z1,z2⟩=>by have:=free i c hc z1;omega⟩
   ·exact(hne q).elim
  ·rw[pX (λz=>hne z.symm)];exact xx (Cal.jX e (k:Int)) hc
  ·have:=(gZ.1 hc).1;omega
 |true=>
  rw[hbg,hon,pw ar];obtain⟨i0,c0,p1,p2,p3⟩:=bi.on t x hx hon;cases hp:Cal.zD b e.zg e.op with
  |none=>
   unfold Cal.zD at hp;rw[pW]at hp;have:=hp c0 (pq p1);simp[p2,p3,he,hop]at this
  |some n=>
   obtain⟨c,hc,r1,r2⟩:=Cal.kH hp;have r1:c.zg=(t:Int):=r1.trans he;have r2:c.op=x.done:=r2.trans hop
   have hto:c.mK<0:=by
    obtain⟨t',x',s1,s2,s3⟩:=bi.own n c hc;have:t'=t:=aw
    subst this;rw[hx]at s2;cases s2
    rcases s3 with⟨s3,_⟩|⟨_,_,s3⟩
    ·omega
    ·exact s3
   dsimp only;rw[hc,pw aA];refine⟨_,rfl,?_⟩;rw[Cal.yG hc];refine main _ n c ?_ r1 r2 hto (λi d hd hne=>?_) (λi d hd hne=>?_) (λi d hd q=>?_)
   ·rw[pC (gZ.1 hc).1]
   ·rw[pX (λz=>hne z.symm)]at hd;exact⟨hd,λ⟨z1,z2⟩=>hne (bi.nd i n d c hd hc (z1.trans r1.symm) (z2.trans r2.symm))⟩
   ·rw[pX (λz=>hne z.symm)];exact hd
   ·subst q;rw[hc]at hd;cases hd
    exact⟨r1,r2⟩
def OB(L:List lD)(e:lD):∀k,k<=L.length->Cal.AM (L++[e]) k=Cal.AM L k
 |0,_=>rfl
 |k+1,h=>by
  simp only[Cal.AM,OB L e k aw];rw[pD aw]
structure RI(s:Wor.mS):Prop where
 tr:Tr s
 acc:∀e∈s.2.2,e.access≠0
 bk:∃b,Cal.AM s.2.2 s.2.2.length=some b/\BI s.2.1 b
def YK{N K:Nat}{s:Wor.mS}(gi:GI N K s.1 s.2.1)(ri:RI s)(p:Int)(hN:N<=100000000)(hK:K<=1099511627776):RI (yl s p):=by
 rcases jy gi p hN hK with⟨_,e⟩|⟨t,x,o,r,hat,hx,ho,hsu,htm,hst,hacc,e,gi2⟩
 ·rw[e];exact ri
 ·rw[e];obtain⟨v,g,en,su⟩:=yh hsu;have tl:=w6 su.done hst;have eth:r.2.2.zg=(t:Int):=tl.2.2.trans (vO o gi hx);obtain⟨b,h1,h2⟩:=ri.bk;obtain⟨b',h3,h4⟩:=Wf (e:=vq r.2.2 x) (m:=r.2.1) (k:=s.2.2.length) h2 hx eth O O tl.1;refine⟨K5 ri.tr hx eth,λe he=>?_,b',?_,h4⟩
  ·rcases pV.1 he with he|he
   ·exact ri.acc e he
   ·rw[pP.1 he];exact hacc
  ·dsimp only;rw[pL];show Cal.AM _ (s.2.2.length+1)=_;simp only[Cal.AM];rw[OB _ _ _ (pI _),h1,yy];exact h3
def Qw{N K:Nat}{s:Wor.mS}(gi:GI N K s.1 s.2.1)(ri:RI s)(l:List Int):∀k,k<=l.length->N+k<=100000000->K+k<=1099511627776->RI (mY s l k)
 |0,_,_,_=>ri
 |k+1,hk,hN,hK=>by
  have ih:=Qw gi ri l k aw aw aw;rw[xX (pa aw)];exact YK (kB gi l k aw aw aw) ih _ aw aw
def Ge{s:mb}(ok:kL s)(h:(zK s).2.2=0):(Cal.l8 (zK s).1).2=0/\(zK s).1.length<=s.zP.length/\xa (zK s).2.1/\AE 5000 (zK s).2.1/\
  ∀e∈(zK s).1,e.access≠0/\∃(t:Nat) (l:List lX),e.zg=(t:Int)/\s.threads[t]?=some l/\0<=e.op/\e.op<l.length:=by
 have hb:=ku h;have e1:zK s=((qU s).2.2,(qU s).1,0):=cO
 obtain⟨q,_⟩:=jQ hb;obtain⟨_,_,_,p4,_,_⟩:=xg q;have f:=NQ ok hb (n:=s.zP.length) (pI _);have gi:=IX ok hb s.zP.length (pI _);have ao:=Ph ok hb s.zP.length (pI _);have si:=Qy (xY ok hb) (zwR hb) s.zP O s.zP.length (pI _) aw aw
 have r0:RI (nu s):=by
  refine⟨Ku _ _,λe he=>(by cases he),[],rfl,⟨λi c h=>aS,λt x hx hon=>?_,λi j c d h=>aS⟩⟩;obtain⟨L,_,rfl⟩:=pS.1 ((pj ..).symm.trans (show(s.threads.map wA)[t]?=some x from hx));cases hon
 have ri:RI (qU s):=Qw (xY ok hb) r0 s.zP s.zP.length (pI _) aw aw;have gd:=f.2.2.2;have e2:Ai s s.zP.length=s:=by unfold Ai;rw[rj]
 rw[e2,e1]at gd;rw[e1];dsimp only at gd ⊢;refine⟨?_,si.2,gd.1,gd.2.1,λe he=>⟨ri.acc e he,?_⟩⟩
 ·obtain⟨b,hb2,_⟩:=ri.bk;have:=(Cal.Fs (qU s).2.2 (qU s).2.2.length).1;rw[hb2]at this;unfold Cal.l8;cases z:Cal.vE (qU s).2.2 (qU s).2.2.length with
  |none=>rw[z]at this;cases this
  |some b2=>rfl
 ·obtain⟨t,x,t1,t2,t3,t4⟩:=ri.tr.th e he
  have tx:s.threads[t]?=some x.ops:=by
   rw[<-ao,pj];show((qU s).2.1[t]?).map _=_;rw[t2]
   rfl
  refine⟨t,x.ops,t1,tx,t3,?_⟩;have tk:=Vm gi t2;rcases t4 with t4|⟨t4,t5⟩
  ·omega
  ·obtain⟨os,hl,hti,_⟩:=gi.own;obtain⟨ow,ho⟩:∃o,os[t]?=some o:=⟨_,pa (by have:=(gZ.1 t2).1;show t<os.length;rw[hl];exact this)⟩;obtain⟨L,_,_,hh|⟨_,hh⟩⟩:=(hti t x ow t2 ho).open_
   ·have:=hh.1;rw[t5]at this;cases this
   ·have:=(gZ.1 hh.at_).1;omega
def wK(e:lD):Prop:=e.cell=3/\e.access=6
def zEn(n:Int)(e:lD):Int:=if e.cell=3/\e.access=6 then e.value else n
def Mx(l:List lD):Int:=l.foldl zEn 0
def CJ(w:Wor)(r:Wor×lh×lD):Prop:=r.1.current=w.current/\¬wK r.2.2
def qK{w w':Wor}{m':lh}{e:lD}(h1:w'.current=w.current)(h2:e.access≠6:=by exact pF au):CJ w (w',m',e):=⟨h1,λz=>h2 z.2⟩
def EE{α:Type}{w:Wor}{o:Option α}{f:α->Wor×lh×lD}{r:Wor×lh×lD}(h:o.map f=some r)(hf:∀x,CJ w (f x)):CJ w r:=by
 obtain⟨x,_,rfl⟩:=pS.1 h;exact hf x
def KQ{w:Wor}{m:lh}{f:mj->Wor×lh×lD}{r:Wor×lh×lD}(h:vW w m f=some r)(hf:∀x,CJ w (f x)):CJ w r:=by
 unfold vW at h;rcases zq h with h|h
 ·cases h
 ·exact EE h hf
def zzN{w:Wor}{m:lh}{r:Wor×lh×lD}(h:AN w m=some r):CJ w r:=by
 unfold AN at h;rcases zq h with h|h
 ·obtain rfl:=pz h;exact gJ
 rcases zq h with h|h
 ·obtain rfl:=pz h;exact gJ
 rcases zq h with h|h
 ·obtain rfl:=pz h;exact gJ
 ·cases h
def TV{w:Wor}{m:lh}{k p:Int}{r:Wor×lh×lD}(h:xQ w m k p=some r):CJ w r:=by
 unfold xQ at h;split at h
 ·cases h
 ·split at h
  ·cases h
  ·obtain rfl:=pz h;exact gJ
def zri{w:Wor}{m:lh}{v:lJ}{g:Gr}{e:En}{r:Wor×lh×lD}(h:zY w m v g e=some r):CJ w r:=by
 unfold zY at h;rcases zq h with h|h
 ·exact zzN h
 rcases zq h with h|h
 ·obtain rfl:=pz h;exact gJ
 rcases zq h with h|h
 ·exact KQ h λx=>qK O
 rcases zq h with h|h
 ·exact KQ h λx=>qK O cP
 rcases zq h with h|h
 ·exact EE h λx=>qK O
 rcases zq h with h|h
 ·obtain rfl:=pz h;exact gJ
 rcases zq h with h|h
 ·exact EE h λx=>qK O
 rcases zq h with h|h
 ·obtain rfl:=pz h;exact gJ
 rcases zq h with h|h
 ·exact EE h λx=>qK O
 rcases zq h with h|h
 ·rcases zq h with h|h
  ·obtain rfl:=pz h;exact gJ
  ·obtain rfl:=pz h;exact gJ
 rcases zq h with h|h
 ·obtain rfl:=pz h;exact gJ
 rcases zq h with h|h
 ·exact TV h
 rcases zq h with h|h
 ·exact TV h
 rcases zq h with h|h
 ·exact KQ h λx=>qK O
 rcases zq h with h|h
 ·obtain rfl:=pz h;exact gJ
 ·cases h
def zrh{w:Wor}{m:lh}{v:lJ}{g:Gr}{e:En}{r:Wor×lh×lD}(h:jO w m v g e=some r):CJ w r:=by
 unfold jO at h;rcases zq h with h|h
 ·obtain rfl:=pz h;exact gJ
 rcases zq h with h|h
 ·obtain rfl:=pz h;exact gJ
 rcases zq h with h|h
 ·rcases zq h with h|h
  ·obtain rfl:=pz h;exact gJ
  ·obtain rfl:=pz h;exact gJ
 rcases zq h with h|h
 ·obtain rfl:=pz h;exact gJ
 rcases zq h with h|h
 ·exact KQ h λx=>qK O
 rcases zq h with h|h
 ·obtain rfl:=pz h;exact gJ
 ·cases h
def Wm(w:Wor)(m:lh):CJ w (nM w m):=by
 unfold nM;split
 ·exact gJ
 ·exact gJ
def zoU{w:Wor}{m:lh}{r:Wor×lh×lD}(h:jA w m=some r):CJ w r:=by
 unfold jA at h;rcases zq h with h|h
 ·obtain rfl:=pz h;split
  ·exact gJ
  ·exact gJ
 rcases zq h with h|h
 ·obtain rfl:=pz h;exact gJ
 rcases zq h with h|h
 ·exact EE h λx=>qK O
 rcases zq h with h|h
 ·obtain rfl:=pz h;split
  ·exact gJ
  ·exact gJ
 rcases zq h with h|h
 ·obtain rfl:=pz h;split
  ·exact Wm w _
  ·exact gJ
 rcases zq h with h|h
 ·obtain⟨v,_,h⟩:=pN.1 h;exact EE h λx=>qK O
 rcases zq h with h|h
 ·obtain⟨v,_,h⟩:=pN.1 h;obtain⟨x,_,h⟩:=pN.1 h;rcases zq h with h|h
  ·obtain rfl:=pz h;exact gJ
  ·cases h
 rcases zq h with h|h
 ·obtain rfl:=pz h;exact Wm w m
 rcases zq h with h|h
 ·exact EE h λx=>qK O
 rcases zq h with h|h
 ·obtain⟨v,_,h⟩:=pN.1 h;rcases zq h with h|h
  ·obtain rfl:=pz h;exact gJ
  ·cases h
 ·cases h
def zuE{w:Wor}{m:lh}{r:Wor×lh×lD}(h:xS w m=some r):CJ w r:=by
 unfold xS at h;rcases zq h with h|h
 ·obtain⟨v,_,h⟩:=pN.1 h;exact EE h λx=>qK O (by show(1:Int)≠6;decide)
 ·cases h
def ky{w:Wor}{m:lh}{v:lJ}{g:Gr}{e:En}{r:Wor×lh×lD}(su:ja w m v g e)(h:yu w m=some r):
  (m.op.kind=1/\zY w m v g e=some r)\/(m.op.kind=2/\jO w m v g e=some r)\/(m.op.kind=3/\kU w m=some r)\/(m.op.kind=4/\yA w m=some r)\/(m.op.kind=5/\jA w m=some r)\/(m.op.kind=6/\xS w m=some r):=by
 unfold yu at h;rw[su.mu]at h;dsimp only at h;rw[su.mn]at h;dsimp only at h;rw[su.mM]at h;dsimp only at h;rcases zA h with⟨k,h⟩|⟨_,h⟩
 ·exact .inl ⟨k,h⟩
 rcases zA h with⟨k,h⟩|⟨_,h⟩
 ·exact .inr (.inl ⟨k,h⟩)
 rcases zA h with⟨k,h⟩|⟨_,h⟩
 ·exact .inr (.inr (.inl ⟨k,h⟩))
 rcases zA h with⟨k,h⟩|⟨_,h⟩
 ·exact .inr (.inr (.inr (.inl ⟨k,h⟩)))
 rcases zA h with⟨k,h⟩|⟨_,h⟩
 ·exact .inr (.inr (.inr (.inr (.inl ⟨k,h⟩))))
 rcases zA h with⟨k,h⟩|⟨_,h⟩
 ·exact .inr (.inr (.inr (.inr (.inr ⟨k,h⟩))))
 ·cases h
structure VI(s:Wor.mS):Prop where
 tr:Tr s
 cur:s.1.current=Mx s.2.2
 run:∀(t:Nat) (x:lW),s.2.1[t]?=some x->x.on=true->x.m.op.kind=1->4<=x.m.pc->∃(f g:Nat) (e:lD),s.2.2[f]?=some e/\e.qY=true/\e.zg=(t:Int)/\e.op=x.done/\f<=g/\g<s.2.2.length/\Mx (s.2.2.take g)=x.m.version
 fin:∀(τ:Nat) (e:lD),s.2.2[τ]?=some e->e.done=true->e.answer.kind=1->∃(f g:Nat) (e0:lD),f<=g/\g<=τ/\s.2.2[f]?=some e0/\e0.qY=true/\e0.zg=e.zg/\e0.op=e.op/\Mx (s.2.2.take g)=e.answer.version
end Go.Run
