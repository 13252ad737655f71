import Derived.Test.YtkbnjgogjccmfaaGreatTQ
import Derived.Test.YtkbnjgogjccmfaaGreatT0
set_option linter.all false
set_option maxRecDepth 100000
set_option maxHeartbeats 4000000
namespace Go.Run
open Go.Ab Go.Proofs Tryz Go.Gat Go.Nam Go.Hos Go.Con Go.Sna Go.Pla Go.Ply Go.Wor
open Go.Hy hiding encI
def HO (k:Nat) (a:ef):Nat:=if 1<=a.kind∧a.kind<=5∧(k=0∨a.kind=k) then 1 else 0
def MN (k:Nat) (m:uw):Nat:=if m.op.kind=1∧m.done=false∧(if k=0 then 22 else 21)<=m.pc then HO k m.answer else 0
def MO (k:Nat) (x:ej):Nat:=if x.on=true then MN k x.m else 0
def MM (k:Nat) (e:uz):Nat:=if e.done=true then HO k e.answer else 0
def WQ (k:Nat) (l:List (List Int)):Int:=(l.map fun r=>(r[k]?).getD 0).sum
def mF (e:uz):Prop:=e.cell=10∧e.access=3
def lW (K:List Int) (w:Wor) (m:uw) (r:Wor × uw × uz):Prop:=r.1.counts=w.counts∧r.2.1.op=m.op∧(r.2.1.done=true->r.2.1.answer.kind ∈ K)∧¬mF r.2.2
def Ca {e:uz} (h:e.cell≠10):¬mF e:=fun z=>h z.1
def AI {K:List Int} {α:Type} {w:Wor} {m:uw} {o:Option α} {f:α->Wor × uw × uz} {r:Wor × uw × uz} (h:o.map f=some r) (hf:∀ x,lW K w m (f x)):lW K w m r:=by
 obtain ⟨x,_,rfl⟩:=gD.1 h;exact hf x
def SL {K:List Int} {w:Wor} {m:uw} {f:eE->Wor × uw × uz} {r:Wor × uw × uz} (h:iy w m f=some r) (hf:∀ x,lW K w m (f x)):lW K w m r:=by
 unfold iy at h;rcases z8 h with h | h
 ·cases h
 ·exact AI h hf
def xf {K:List Int} {w w':Wor} {m m':uw} {e:uz} (h1:w'.counts=w.counts) (h2:m'.op=m.op) (h3:m'.done=false) (h4:e.cell≠10:=by exact gK au):lW K w m (w',m',e):=⟨h1,h2,fun q=>absurd (q.symm.trans h3) ar,Ca h4⟩
def vS {K:List Int} {w w':Wor} {m m':uw} {e:uz} (h1:w'.counts=w.counts) (h2:m'.op=m.op) (h3:m'.answer.kind ∈ K) (h4:e.cell≠10:=by exact gK au):lW K w m (w',m',e):=⟨h1,h2,fun _=>h3,Ca h4⟩
def OR {w:Wor} {m:uw} {v:u3} {g:Gr} {e:En} {r:Wor × uw × uz} (hd:m.done=false) (h:yp w m v g e=some r):lW [6,7] w m r:=by
 unfold yp at h;rcases z8 h with h | h
 ·obtain rfl:=dZ h;exact dm
 rcases z8 h with h | h
 ·obtain rfl:=dZ h;exact dm
 rcases z8 h with h | h
 ·rcases z8 h with h | h
  ·obtain rfl:=dZ h;exact dm
  ·obtain rfl:=dZ h;exact dm
 rcases z8 h with h | h
 ·obtain rfl:=dZ h;exact dm
 rcases z8 h with h | h
 ·exact SL h fun x=>vS rfl rfl (by exact gK au)
 rcases z8 h with h | h
 ·obtain rfl:=dZ h;exact dp
 ·cases h
def Rb {w:Wor} {m:uw} {r:Wor × uw × uz} (hd:m.done=false) (h:y5 w m=some r):lW [8,9] w m r:=by
 unfold y5 at h;rcases z8 h with h | h
 ·rcases z8 h with h | h
  ·obtain rfl:=dZ h;exact dm
  ·obtain rfl:=dZ h;exact dp
 rcases z8 h with h | h
 ·obtain rfl:=dZ h;exact dm
 rcases z8 h with h | h
 ·rcases z8 h with h | h
  ·cases h
  ·obtain rfl:=dZ h;exact dp
 ·cases h
def P6 {w:Wor} {m:uw} {r:Wor × uw × uz} (hd:m.done=false) (h:wa w m=some r):lW [7,10] w m r:=by
 unfold wa at h;rcases z8 h with h | h
 ·rcases z8 h with h | h
  ·obtain rfl:=dZ h;exact dp
  ·exact AI h fun x=>vS rfl rfl (by exact gK au)
 ·cases h
def Lt (w:Wor) (m m0:uw) (hd:m.done=false) (ho:m.op=m0.op):lW [11,12] w m0 (mq w m):=by
 unfold mq;split
 ·exact vS rfl ho (by exact gK au)
 ·refine xf rfl ?_ ?_
  ·unfold o6;repeat' split
   all_goals exact ho
  ·unfold o6;repeat' split
   all_goals exact hd
def Og {w:Wor} {m:uw} {r:Wor × uw × uz} (hd:m.done=false) (h:yu w m=some r):lW [11,12] w m r:=by
 unfold yu at h;rcases z8 h with h | h
 ·obtain rfl:=dZ h;split
  ·exact dm
  ·exact dp
 rcases z8 h with h | h
 ·obtain rfl:=dZ h;exact dm
 rcases z8 h with h | h
 ·refine AI h fun x=>xf rfl ?_ ?_
  ·unfold nR;repeat' split
   all_goals rfl
  ·unfold nR;repeat' split
   all_goals exact hd
 rcases z8 h with h | h
 ·obtain rfl:=dZ h;split
  ·exact dm
  ·exact dm
 rcases z8 h with h | h
 ·obtain rfl:=dZ h;split
  ·exact Lt w (fD m 8 0) m hd rfl
  ·refine xf rfl ?_ ?_
   ·unfold nQ;repeat' split
    all_goals rfl
   ·unfold nQ;repeat' split
    all_goals exact hd
 rcases z8 h with h | h
 ·obtain ⟨v,_,h⟩:=gM.1 h;refine AI h fun x=>xf rfl ?_ ?_
  ·unfold oC;repeat' split
   all_goals rfl
  ·unfold oC;repeat' split
   all_goals exact hd
 rcases z8 h with h | h
 ·obtain ⟨v,_,h⟩:=gM.1 h;obtain ⟨x,_,h⟩:=gM.1 h;rcases z8 h with h | h
  ·obtain rfl:=dZ h;exact dm
  ·cases h
 rcases z8 h with h | h
 ·obtain rfl:=dZ h;exact Lt w m m hd rfl
 rcases z8 h with h | h
 ·refine AI h fun x=>xf rfl ?_ ?_
  ·split <;> rfl
  ·split <;> exact hd
 rcases z8 h with h | h
 ·obtain ⟨v,_,h⟩:=gM.1 h;rcases z8 h with h | h
  ·obtain rfl:=dZ h;exact dm
  ·cases h
 ·cases h
def J2 (w:Wor) (m:uw) (n:Int):(jg w m n).op=m.op∧((jg w m n).done=m.done∨(jg w m n).answer.kind=13):=by
 unfold jg;dsimp only;repeat' split
 all_goals exact ⟨rfl,by first | exact .inl rfl | exact .inr rfl⟩
def P7 {w:Wor} {m:uw} {r:Wor × uw × uz} (hd:m.done=false) (h:vJ w m=some r):lW [13] w m r:=by
 unfold vJ at h;rcases z8 h with h | h
 ·obtain ⟨v,_,h⟩:=gM.1 h;refine AI h fun x=>⟨rfl,(J2 w m x).1,fun q=>?_,fun z=>absurd (show (1:Int)=3 from z.2) ar⟩
  dsimp only at q ⊢;rcases (J2 w m x).2 with z | z
  ·exact absurd (hd.symm.trans (z.symm.trans q)) ar
  ·exact gI.2 z
 ·cases h
def jO {α:Type} {c:Prop} [Decidable c] {a b x:α} (h:(if c then a else b)=x):(c∧a=x)∨(¬c∧b=x):=by
 by_cases q:c
 ·rw [dQ q] at h;exact .inl ⟨q,h⟩
 ·rw [dN q] at h;exact .inr ⟨q,h⟩
def Aw (w:Wor) (m:uw) (r:Wor × uw × uz):Prop:=
 (r.1.counts=w.counts∧m.pc < 20∧r.2.1.pc<=20∧r.2.1.done=false∧¬mF r.2.2)∨
 (∃ (k:Nat) (r0:List Int) (x:Int),w.counts[m.zf.toNat]?= some r0∧r0[k]?= some x∧r.1.counts=w.counts.set m.zf.toNat (r0.set k (IntKind.u64.wrap (x+1)))∧(mF r.2.2∧r.2.2.value=k)∧((m.pc=20∧k=(mW m.answer.kind).toNat∧r.2.1={ m with pc:=21 })∨(m.pc=21∧k=0∧∃ p,22<=p∧r.2.1={ m with pc:=p })))∨
 (r.1.counts=w.counts∧22<=m.pc∧¬mF r.2.2∧(r.2.1={ m with pc:=23 }∨r.2.1={ m with done:=true }))
def DC {α:Type} {w:Wor} {m:uw} {o:Option α} {f:α->Wor × uw × uz} {r:Wor × uw × uz} (h:o.map f=some r) (hf:∀ x,Aw w m (f x)):Aw w m r:=by
 obtain ⟨x,_,rfl⟩:=gD.1 h;exact hf x
def Gb {w:Wor} {m:uw} {f:eE->Wor × uw × uz} {r:Wor × uw × uz} (h:iy w m f=some r) (hf:∀ x,Aw w m (f x)):Aw w m r:=by
 unfold iy at h;rcases z8 h with h | h
 ·cases h
 ·exact DC h hf
def vd {w w':Wor} {m m':uw} {e:uz} (h1:w'.counts=w.counts) (h2:m.pc < 20) (h3:m'.pc<=20) (h4:m'.done=false) (h5:e.cell≠10:=by exact gK au):Aw w m (w',m',e):=.inl ⟨h1,h2,h3,h4,Ca h5⟩
def JN {w:Wor} {m:uw} {k p:Int} {r:Wor × uw × uz} (h:wW w m k p=some r):∃ r0 x,w.counts[m.zf.toNat]?= some r0∧r0[k.toNat]?= some x∧r.1.counts=w.counts.set m.zf.toNat (r0.set k.toNat (IntKind.u64.wrap (x+1)))∧(mF r.2.2∧r.2.2.value=k)∧r.2.1={ m with pc:=p }:=by
 unfold wW at h;split at h
 ·cases h
 ·rename_i r0 h0;split at h
  ·cases h
  ·rename_i x hx;obtain rfl:=dZ h;exact ⟨r0,x,h0,hx,rfl,⟨⟨rfl,rfl⟩,rfl⟩,rfl⟩
def PV {w:Wor} {m:uw} {v:u3} {g:Gr} {e:En} {r:Wor × uw × uz} (hd:m.done=false) (h:qf w m v g e=some r):Aw w m r:=by
 have rt:m.pc<=20->(xx m v).pc<=20:=fun h=>by
  unfold xx;repeat' split
  all_goals first | exact h | exact gK au
 have rd:(xx m v).done=false:=by
  unfold xx;repeat' split
  all_goals exact hd
 unfold qf at h;rcases jO h with ⟨p,h⟩ | ⟨p,h⟩
 ·unfold o3 at h;rcases z8 h with h | h
  ·obtain rfl:=dZ h;exact vd rfl aw (by show (1:Int)<=20;decide) hd
  rcases z8 h with h | h
  ·obtain rfl:=dZ h;exact vd rfl aw (by show (2:Int)<=20;decide) hd
  rcases z8 h with h | h
  ·obtain rfl:=dZ h;exact vd rfl aw (by dsimp only;split <;> decide) hd
  ·cases h
 rcases jO h with ⟨p,h⟩ | ⟨_,h⟩
 ·obtain rfl:=dZ h;refine vd rfl aw ?_ ?_
  ·split
   ·show (20:Int)<=20;decide
   ·show (4:Int)<=20;decide
  ·split <;> exact hd
 rcases jO h with ⟨p,h⟩ | ⟨_,h⟩
 ·exact Gb h fun x=>vd rfl aw (by show (5:Int)<=20;decide) hd
 rcases jO h with ⟨p,h⟩ | ⟨_,h⟩
 ·refine Gb h fun x=>vd rfl aw ?_ ?_ (by split <;> exact gK au)
  ·split
   ·show (20:Int)<=20;decide
   ·exact rt aw
  ·split
   ·exact hd
   ·exact rd
 rcases jO h with ⟨p,h⟩ | ⟨_,h⟩
 ·exact DC h fun x=>vd rfl aw (by show (9:Int)<=20;decide) hd
 rcases jO h with ⟨p,h⟩ | ⟨_,h⟩
 ·obtain rfl:=dZ h;exact vd rfl aw (by show (8:Int)<=20;decide) hd
 rcases jO h with ⟨p,h⟩ | ⟨_,h⟩
 ·exact DC h fun x=>vd rfl aw (by show (9:Int)<=20;decide) hd
 rcases jO h with ⟨p,h⟩ | ⟨_,h⟩
 ·obtain rfl:=dZ h;refine vd rfl aw ?_ ?_
  ·split
   ·show (10:Int)<=20;decide
   ·show (20:Int)<=20;decide
  ·split <;> exact hd
 rcases jO h with ⟨p,h⟩ | ⟨_,h⟩
 ·exact DC h fun x=>vd rfl aw (by show (11:Int)<=20;decide) hd
 rcases jO h with ⟨p,h⟩ | ⟨_,h⟩
 ·rcases z8 h with h | h
  ·obtain rfl:=dZ h;exact vd rfl aw (by show (12:Int)<=20;decide) hd
  ·obtain rfl:=dZ h;exact vd rfl aw (by show (9:Int)<=20;decide) hd
 rcases jO h with ⟨p,h⟩ | ⟨_,h⟩
 ·obtain rfl:=dZ h;exact vd rfl aw (by show (20:Int)<=20;decide) hd
 rcases jO h with ⟨p,h⟩ | ⟨_,h⟩
 ·obtain ⟨r0,x,a1,a2,a3,⟨a5,a6⟩,a4⟩:=JN h;exact .inr (.inl ⟨_,r0,x,a1,a2,a3,⟨a5,by rw [a6];unfold mW;split <;> omega⟩,.inl ⟨p,rfl,a4⟩⟩)
 rcases jO h with ⟨p,h⟩ | ⟨_,h⟩
 ·obtain ⟨r0,x,a1,a2,a3,a5,a4⟩:=JN h;exact .inr (.inl ⟨0,r0,x,a1,a2,a3,a5,.inr ⟨p,rfl,_,by split <;> decide,a4⟩⟩)
 rcases jO h with ⟨p,h⟩ | ⟨_,h⟩
 ·refine Gb h fun x=>.inr (.inr ⟨rfl,aw,Ca (gK au),.inl rfl⟩)
 rcases jO h with ⟨p,h⟩ | ⟨_,h⟩
 ·obtain rfl:=dZ h;exact .inr (.inr ⟨rfl,aw,Ca (gK au),.inr rfl⟩)
 ·cases h
structure CI (N:Nat) (s:Wor.fx):Prop where
 W2:∀ k,k < 6->WQ k s.1.counts=(((s.2.2.map (MM k)).sum+(s.2.1.map (MO k)).sum:Nat):Int)
 low:∀ r ∈ s.1.counts,∀ x ∈ r,0<=x∧x<=(N:Int)
 on:s.2.2.countP (·.jo)=s.2.2.countP (·.done)+s.2.1.countP (·.on)
def VU {N K:Nat} {w:Wor} {X:List ej} {t:Nat} {x:ej} {o:eD} (gi:GI N K w X) (hx:X[t]?= some x):(yA x t o).op.kind=1->20<=(yA x t o).pc->1<=(yA x t o).answer.kind∧(yA x t o).answer.kind<=5:=by
 cases hon:x.on with
 | false=>
  intro hk hp;have e:yA x t o=Beg.xb t o x.given:=aX
  rw [e] at hk hp;by_cases h:o.kind=2
  ·have:(Beg.xb t o x.given).op.kind=2:=by
    unfold Beg.xb;rw [dQ h];unfold Beg.wL;repeat' split
    all_goals exact h
   omega
  ·rw [Fi h] at hp;exact absurd (show (20:Int)<=0 from hp) ar
 | true=>
  have e:yA x t o=x.m:=aX
  rw [e];intro hk hp;obtain ⟨os,hl,hti,_⟩:=gi.own;obtain ⟨ow,ho⟩:∃ o,os[t]?= some o:=⟨_,dM (by have:=(dL.1 hx).1;omega)⟩;obtain ⟨L,_,_,h | ⟨_,h⟩⟩:=(hti t x ow hx ho).open_
  ·have:=h.1;rw [hon] at this;cases this
  ·obtain ⟨v,g,e,su,lc⟩:=h.lc;rcases lc with ⟨_,lc⟩ | ⟨k,_⟩ | ⟨k,_⟩ | ⟨k,_⟩ | ⟨k,_⟩ | ⟨k,_⟩
   ·exact ⟨(lc.iF hp).1,(lc.iF hp).2.1⟩
   all_goals omega
def Je {N K:Nat} {w:Wor} {X:List ej} {t:Nat} {x:ej} (o:eD) (gi:GI N K w X) (hx:X[t]?= some x):(yA x t o).zf=t:=by
 cases hon:x.on with
 | false=>
  unfold yA Beg.xb;rw [hon,dN ar];split
  ·unfold Beg.wL;repeat' split
   all_goals rfl
  ·rfl
 | true=>
  unfold yA;rw [hon,dQ rfl];obtain ⟨os,hl,hti,_⟩:=gi.own;obtain ⟨ow,ho⟩:∃ o,os[t]?= some o:=⟨_,dM (by have:=(dL.1 hx).1;omega)⟩;obtain ⟨L,_,_,h | ⟨_,h⟩⟩:=(hti t x ow hx ho).open_
  ·have:=h.1;rw [hon] at this;cases this
  ·exact h.th
structure Tr (s:Wor.fx):Prop where
 th:∀ e ∈ s.2.2,∃ (t:Nat) (x:ej),e.zf=(t:Int)∧s.2.1[t]?= some x∧0<=e.op∧(e.op < x.done∨(e.op=x.done∧x.on=true))
 uniq:∀ (a b:Nat) (ea eb:uz),s.2.2[a]?= some ea->s.2.2[b]?= some eb->ea.jo=true->eb.jo=true->ea.zf=eb.zf->ea.op=eb.op->a=b
 on:∀ (t:Nat) (x:ej),s.2.1[t]?= some x->x.on=true->∃ (f:Nat) (e:uz),s.2.2[f]?= some e∧e.jo=true∧e.zf=(t:Int)∧e.op=x.done
def AY {α:Type} {l:List α} {y x:α} {a:Nat} (h:(l++[y])[a]?= some x):(a < l.length∧l[a]?= some x)∨(a=l.length∧x=y):=by
 rw [List.getElem?_append] at h;split at h
 ·exact .inl ⟨by assumption,h⟩
 ·rename_i q;have hl:a - l.length < 1:=by simpa using (dL.1 h).1
  have e0:a - l.length=0:=aw
  rw [e0] at h;exact .inr ⟨aw,aq h.symm⟩
def AG {α:Type} {l:List α} (y:α) {x:α} {a:Nat} (h:l[a]?= some x):(l++[y])[a]?= some x:=by
 rw [dT (dL.1 h).1];exact h
def FM {α:Type} (l:List α) (y:α):(l++[y])[l.length]?= some y:=by simp
def Lo {s:Wor.fx} {t:Nat} {x:ej} {m:uw} {w:Wor} {e:uz} (tr:Tr s) (hx:s.2.1[t]?= some x) (he:e.zf=(t:Int)):Tr (w,s.2.1.set t (Wor.jw x m),s.2.2++[mC e x]):=by
 have hl:=(dL.1 hx).1
 have y:(Wor.jw x m).done=x.done+1∧(Wor.jw x m).on=false∨(Wor.jw x m).done=x.done∧(Wor.jw x m).on=true:=by
  unfold Wor.jw;by_cases q:m.done=true
  ·rw [dQ q];exact .inl ⟨rfl,rfl⟩
  ·rw [dN q];exact .inr ⟨rfl,rfl⟩
 refine ⟨fun e' h=>?_,fun a b ea eb h1 h2 b1 b2 q1 q2=>?_,fun t' x' h1 h2=>?_⟩
 ·dsimp only at h ⊢;rcases gH.1 h with h | h
  ·obtain ⟨t',x',p1,p2,p3,p4⟩:=tr.th e' h;by_cases q:t=t'
   ·subst q;rw [hx] at p2;cases p2
    refine ⟨t,_,p1,dS hl,p3,?_⟩;rcases y with ⟨y1,y2⟩ | ⟨y1,y2⟩
    ·rw [y1];exact .inl aw
    ·rw [y1,y2];rcases p4 with p4 | p4
     ·exact .inl p4
     ·exact .inr ⟨p4.1,rfl⟩
   ·exact ⟨t',x',p1,by rw [gJ q];exact p2,p3,p4⟩
  ·rw [gI] at h;subst h;refine ⟨t,_,he,dS hl,by show (0:Int)<=(x.done:Int);omega,?_⟩;show (x.done:Int) < _∨(x.done:Int)=_∧_;rcases y with ⟨y1,y2⟩ | ⟨y1,y2⟩
   ·rw [y1];exact .inl aw
   ·rw [y1,y2];exact .inr ⟨rfl,rfl⟩
 ·dsimp only at h1 h2
  have none_:∀ ea ∈ s.2.2,x.on=false->ea.zf=(t:Int)->ea.op=(x.done:Int)->False:=fun ea hm hoff hth hop=>by
   obtain ⟨t',x',p1,p2,p3,p4⟩:=tr.th ea hm;have:t'=t:=aw
   subst this;rw [hx] at p2;cases p2
   rcases p4 with p4 | ⟨_,p4⟩
   ·omega
   ·rw [hoff] at p4;cases p4
  rcases AY h1 with ⟨l1,h1⟩ | ⟨l1,rfl⟩
  ·rcases AY h2 with ⟨l2,h2⟩ | ⟨l2,rfl⟩
   ·exact tr.uniq a b ea eb h1 h2 b1 b2 q1 q2
   ·exact (none_ ea (dO h1) (by have:(!x.on)=true:=b2;simpa using this) (q1.trans he) q2).elim
  ·rcases AY h2 with ⟨l2,h2⟩ | ⟨l2,rfl⟩
   ·exact (none_ eb (dO h2) (by have:(!x.on)=true:=b1;simpa using this) (q1.symm.trans he) q2.symm).elim
   ·omega
 ·dsimp only at h1 ⊢;by_cases q:t=t'
  ·subst q;rw [dS hl] at h1;cases h1
   rcases y with ⟨y1,y2⟩ | ⟨y1,y2⟩
   ·rw [h2] at y2;cases y2
   ·rw [y1];cases hon:x.on with
    | true=>
     obtain ⟨f,e1,p1,p2,p3,p4⟩:=tr.on t x hx hon;exact ⟨f,e1,AG _ p1,p2,p3,p4⟩
    | false=>exact ⟨s.2.2.length,_,FM _ _,by show (!x.on)=true;rw [hon];rfl,he,rfl⟩
  ·rw [gJ q] at h1;obtain ⟨f,e1,p1,p2,p3,p4⟩:=tr.on t' x' h1 h2;exact ⟨f,e1,AG _ p1,p2,p3,p4⟩
def K4 (w:Wor) (T:List (List eD)):Tr (w,T.map fT,[]):=by
 refine ⟨fun e h=>aS,fun a b ea eb h1=>(by cases h1),fun t x h1 h2=>?_⟩;obtain ⟨L,_,rfl⟩:=gD.1 ((dP ..).symm.trans h1);cases h2
def isAdd (k:Nat) (e:uz):Bool:=e.cell == 10 && e.access == 3 && e.value == (k:Int)
def oX (i k:Nat) (e:uz):Bool:=isAdd k e && e.zf == (i:Int)
def wH (n k:Nat) (e:uz):Bool:=isAdd k e && decide (e.zf < (n:Int))
def kj (x:mi) (k:Nat):Int:=if k=0 then x.c0 else if k=1 then x.c1 else if k=2 then x.c2 else if k=3 then x.c3 else if k=4 then x.c4 else x.c5
def TS {k:Nat} {e:uz} (h:¬mF e):isAdd k e=false:=by
 unfold isAdd;cases q:(e.cell == 10 && e.access == 3) with
 | false=>rfl
 | true=>
  simp only [dU,gT] at q;exact absurd q h
def RC {k kk:Nat} {e:uz} (h:mF e) (hv:e.value=(kk:Int)):isAdd k e=decide (k=kk):=by
 unfold isAdd;rw [h.1,h.2,hv];by_cases q:k=kk
 ·subst q;simp
 ·have:¬((kk:Int)=k):=by omega
  simp [q,this]
def lt_succ (n k:Nat):∀ l:List uz,l.countP (wH (n+1) k)=l.countP (wH n k)+l.countP (oX n k)
 | []=>rfl
 | e::l=>by
  have ih:=lt_succ n k l;rw [uk,uk,uk,ih]
  have:(if wH (n+1) k e=true then 1 else 0)=(if wH n k e=true then 1 else 0)+(if oX n k e=true then 1 else 0):=by
   unfold wH oX;cases isAdd k e with
   | false=>simp
   | true=>
    simp only [sB,gT,gh];by_cases q:e.zf < (n:Int)
    ·rw [dQ aw,dQ q,dN aw]
    ·rw [dN q];by_cases z:e.zf=(n:Int)
     ·rw [dQ aw,dQ z]
     ·rw [dN aw,dN z]
  omega
def U3 (k:Nat) {l:List uz} (h:∀ e ∈ l,0<=e.zf):l.countP (wH 0 k)=0:=by
 rw [List.countP_eq_zero];intro e he;have:=h e he;unfold wH;simp;omega
def LS (n k:Nat) {l:List uz} (h:∀ e ∈ l,e.zf < (n:Int)):l.countP (wH n k)=l.countP (isAdd k):=by
 refine List.countP_congr fun e he=>?_
 have:=h e he;unfold wH;simp [this]
def iG (m:uw) (k:Nat):Nat:=m.i.toNat+if (k:Int) < m.k then 1 else 0
def Bd (F L:List uz) (m:uw):Prop:=∀ k,k < 6->(F.countP (wH (iG m k) k):Int)<=kj m.counts k∧kj m.counts k<=L.countP (wH (iG m k) k)
def Bd.grow {F L:List uz} {m:uw} (e:uz) (h:Bd F L m):Bd F (L++[e]) m:=fun k hk=>by
 have:=h k hk;rw [rH];omega
def Uv (x:mi) (a k:Nat) (n:Int) (ha:a < 6) (hk:k < 6) (h:0<=kj x a+n) (h2:kj x a+n < 18446744073709551616):kj (kA x a n) k=kj x k+if k=a then n else 0:=by
 have w:∀ z:Int,0<=z->z < 18446744073709551616->IntKind.u64.wrap z=z:=fun z h1 h2=>by
  show z % 18446744073709551616=z;omega
 obtain ⟨c0,c1,c2,c3,c4,c5⟩:=x;obtain rfl | rfl | rfl | rfl | rfl | rfl:a=0∨a=1∨a=2∨a=3∨a=4∨a=5:=aw
 all_goals
  obtain rfl | rfl | rfl | rfl | rfl | rfl:k=0∨k=1∨k=2∨k=3∨k=4∨k=5:=aw
 all_goals
  simp [kj,kA] at h h2 ⊢
 all_goals exact w _ h h2
def Ub {F L:List uz} {w:Wor} {m:uw} {r:Wor × uw × uz} (b:Bd F L m) (hF:∀ p:uz->Bool,F.countP p<=L.countP p) (h0:0<=m.i) (h1:0<=m.k) (hL:L.length<=1000000000000)
  (mQ:∀ (i k:Nat) (row:List Int) (n:Int),w.counts[i]?= some row->row[k]?= some n->n=L.countP (oX i k)) (h:vJ w m=some r) (hd:m.done=false) (hth:∀ e ∈ L,e.zf < (w.counts.length:Int)) (hthF:∀ e ∈ F,e.zf < (w.counts.length:Int)):
  (r.2.1.done=false->Bd F L r.2.1)∧(r.2.1.done=true->∀ k,k < 6->(F.countP (isAdd k):Int)<=kj r.2.1.answer.counts k∧kj r.2.1.answer.counts k<=L.countP (isAdd k)):=by
 unfold vJ at h;rcases jO h with ⟨⟨p1,p2⟩,h⟩ | ⟨_,h⟩
 ·obtain ⟨row,hrow,h⟩:=gM.1 h;obtain ⟨n,hn,rfl⟩:=gD.1 h;have en:=mQ _ _ row n hrow hn;obtain ⟨kk,ek⟩:∃ kk:Nat,m.k=kk:=⟨m.k.toNat,aw⟩;have kk6:kk < 6:=by omega
  rw [ek,toNat_cast] at hn en;have le:∀ p:uz->Bool,L.countP p<=L.length:=fun p=>sY
  have rd0:iG m kk=m.i.toNat:=by unfold iG;rw [ek,dN aw];rfl
  have bk:=b kk kk6;have sp:=lt_succ m.i.toNat kk L;have spF:=lt_succ m.i.toNat kk F;have hFb:=hF (oX m.i.toNat kk);have l1:=le (wH (m.i.toNat+1) kk);rw [rd0] at bk
  have key:∀ k,k < 6->(F.countP (wH (iG m k+if k=kk then 1 else 0) k):Int)<=kj (kA m.counts m.k n) k∧kj (kA m.counts m.k n) k<=L.countP (wH (iG m k+if k=kk then 1 else 0) k):=fun k hk=>by
   rw [ek,Uv m.counts kk k n kk6 hk aw aw];by_cases q:k=kk
   ·subst q;rw [dQ rfl,dQ rfl,rd0];omega
   ·rw [dN q,dN q,rB];have:=b k hk;omega
  have hi:=(dL.1 hrow).1;dsimp only;by_cases q5:m.k+1=6
  ·have rdn:∀ k,k < 6->iG m k+(if k=kk then 1 else 0)=m.i.toNat+1:=fun k hk=>by
    unfold iG;rw [ek];by_cases q:k=kk
    ·rw [dQ q,dN aw]
    ·rw [dN q,dQ aw]
   by_cases q6:m.i+1=w.counts.length
   ·have es:jg w m n={ m with counts:=kA m.counts m.k n,k:=0,i:=m.i+1,done:=true,answer:=⟨13,0,0,0,0,0,0,kA m.counts m.k n⟩ }:=by
     unfold jg;dsimp only;rw [dQ q5,dQ q6]
    rw [es];refine ⟨fun q=>absurd (show true=false from q) ar,fun _ k hk=>?_⟩;have a:=key k hk;rw [rdn k hk,show m.i.toNat+1=w.counts.length from aw] at a;rw [LS _ _ hth] at a;rw [LS _ _ hthF] at a;exact a
   ·have es:jg w m n={ m with counts:=kA m.counts m.k n,k:=0,i:=m.i+1 }:=by
     unfold jg;dsimp only;rw [dQ q5,dN q6]
    rw [es];refine ⟨fun _ k hk=>?_,fun q=>absurd (hd.symm.trans q) ar⟩;have a:=key k hk
    have e:iG { m with counts:=kA m.counts m.k n,k:=0,i:=m.i+1 } k=iG m k+if k=kk then 1 else 0:=by
     rw [rdn k hk];unfold iG;dsimp only;rw [dN aw];omega
    rw [e];exact a
  ·have q7:¬(m.i=w.counts.length):=by omega
   have es:jg w m n={ m with counts:=kA m.counts m.k n,k:=m.k+1 }:=by
    unfold jg;dsimp only;rw [dN q5,dN q7]
   rw [es];refine ⟨fun _ k hk=>?_,fun q=>absurd (hd.symm.trans q) ar⟩;have a:=key k hk
   have e:iG { m with counts:=kA m.counts m.k n,k:=m.k+1 } k=iG m k+if k=kk then 1 else 0:=by
    unfold iG;dsimp only;rw [ek];by_cases q:k=kk
    ·rw [dQ q,dQ aw,dN aw]
    ·rw [dN q];by_cases z:(k:Int) < kk
     ·rw [dQ aw,dQ z]
     ·rw [dN aw,dN z]
   rw [e];exact a
 ·cases h
def Oy {w:Wor} {m:uw} {v:u3} {g:Gr} {e:En} {r:Wor × uw × uz} (su:qF w m v g e) (h:kC w m=some r):
  ((r.1.counts=w.counts∧¬mF r.2.2)∨∃ (kk:Nat) (r0:List Int) (x:Int),w.counts[m.zf.toNat]?= some r0∧r0[kk]?= some x∧r.1.counts=w.counts.set m.zf.toNat (r0.set kk (IntKind.u64.wrap (x+1)))∧mF r.2.2∧r.2.2.value=kk)∧
  (r.2.1.done=true->r.2.1.answer.kind=13->(m.op.kind=1->20<=m.pc->m.answer.kind<=5)->m.op.kind=6):=by
 have calm:∀ {K:List Int},lW K w m r->(∀ z ∈ K,z≠13)->((r.1.counts=w.counts∧¬mF r.2.2)∨∃ (kk:Nat) (r0:List Int) (x:Int),w.counts[m.zf.toNat]?= some r0∧r0[kk]?= some x∧r.1.counts=w.counts.set m.zf.toNat (r0.set kk (IntKind.u64.wrap (x+1)))∧mF r.2.2∧r.2.2.value=kk)∧
   (r.2.1.done=true->r.2.1.answer.kind=13->(m.op.kind=1->20<=m.pc->m.answer.kind<=5)->m.op.kind=6):=@fun K ⟨c1,c2,c3,c4⟩ hh=>⟨.inl ⟨c1,c4⟩,fun a b _=>absurd b (hh _ (c3 a))⟩
 unfold kC at h;rw [su.eQ] at h;dsimp only at h;rw [su.ey] at h;dsimp only at h;rw [su.eL] at h;dsimp only at h;rcases jO h with ⟨k1,h⟩ | ⟨k1,h⟩
 ·rcases PV su.done h with ⟨c1,c2,c3,c4,c5⟩ | ⟨kk,r0,x,a1,a2,a3,a5,a4⟩ | ⟨c1,c2,c4,c3⟩
  ·exact ⟨.inl ⟨c1,c5⟩,fun a=>by rw [c4] at a;cases a⟩
  ·refine ⟨.inr ⟨kk,r0,x,a1,a2,a3,a5.1,a5.2⟩,fun a=>?_⟩;rcases a4 with ⟨_,_,e⟩ | ⟨_,_,p,_,e⟩ <;> (rw [e] at a;exact absurd (su.done.symm.trans a) ar)
  ·refine ⟨.inl ⟨c1,c4⟩,fun a b c=>?_⟩;have:=c k1 aw;rcases c3 with e | e <;> (rw [e] at b;dsimp only at b;omega)
 rcases jO h with ⟨k2,h⟩ | ⟨_,h⟩
 ·exact calm (OR su.done h) ar
 rcases jO h with ⟨k2,h⟩ | ⟨_,h⟩
 ·exact calm (Rb su.done h) ar
 rcases jO h with ⟨k2,h⟩ | ⟨_,h⟩
 ·exact calm (P6 su.done h) ar
 rcases jO h with ⟨k2,h⟩ | ⟨_,h⟩
 ·exact calm (Og su.done h) ar
 rcases jO h with ⟨k2,h⟩ | ⟨_,h⟩
 ·have c:=P7 su.done h;exact ⟨.inl ⟨c.1,c.2.2.2⟩,fun _ _ _=>k2⟩
 ·cases h
def LV {N K:Nat} {w:Wor} {X:List ej} {t:Nat} {x:ej} {o:eD} (gi:GI N K w X) (hx:X[t]?= some x) (ho:x.ops[x.done]?= some o):(yA x t o).op=o:=by
 cases hon:x.on with
 | false=>
  unfold yA Beg.xb;rw [hon,dN ar];split
  ·unfold Beg.wL;repeat' split
   all_goals rfl
  ·rfl
 | true=>
  unfold yA;rw [hon,dQ rfl];obtain ⟨os,hl,hti,_⟩:=gi.own;obtain ⟨ow,ho2⟩:∃ o,os[t]?= some o:=⟨_,dM (by have:=(dL.1 hx).1;omega)⟩;obtain ⟨L,_,_,h | ⟨_,h⟩⟩:=(hti t x ow hx ho2).open_
  ·have:=h.1;rw [hon] at this;cases this
  ·have:=h.at_;rw [ho] at this;exact (dZ this).symm
structure SI (s:Wor.fx):Prop where
 tr:Tr s
 mQ:∀ (i k:Nat) (row:List Int) (n:Int),s.1.counts[i]?= some row->row[k]?= some n->n=(s.2.2.countP (oX i k):Nat)
 rd:∀ (t:Nat) (x:ej),s.2.1[t]?= some x->x.on=true->x.m.op.kind=6->∃ (f:Nat) (e:uz),s.2.2[f]?= some e∧e.jo=true∧e.zf=(t:Int)∧e.op=x.done∧Bd (s.2.2.take f) s.2.2 x.m
 fin:∀ (τ:Nat) (e:uz),s.2.2[τ]?= some e->e.done=true->e.answer.kind=13->∃ (f:Nat) (e0:uz),f<=τ∧s.2.2[f]?= some e0∧e0.jo=true∧e0.zf=e.zf∧e0.op=e.op∧
  ∀ k,k < 6->((s.2.2.take f).countP (isAdd k):Int)<=kj e.answer.counts k∧kj e.answer.counts k<=(s.2.2.take (τ+1)).countP (isAdd k)
def BS {α:Type} {l:List α} (y:α) {n:Nat} (h:n<=l.length):(l++[y]).take n=l.take n:=by rw [rZ h]
def UW {N K:Nat} {s:Wor.fx} (gi:GI N K s.1 s.2.1) (si:SI s) (p:Int) (hN:N<=100000000) (hK:K<=1099511627776) (hL:s.2.2.length<=1000000000000):SI (yL s p):=by
 rcases yB gi p hN hK with ⟨_,e⟩ | ⟨t,x,o,r,hat,hx,ho,hsu,htm,hst,_,e,gi2⟩
 ·rw [e];exact si
 ·rw [e];obtain ⟨v,g,en,su⟩:=y3 hsu;have tl:=Fe su.done hst;have nt:=Je o gi hx;have no:=LV gi hx ho;have eth:r.2.2.zf=(t:Int):=tl.2.2.trans nt;have hl:=(dL.1 hx).1;have gr:=qa.1 gi.st.jq.ground;have wl:s.1.counts.length=s.2.1.length:=gr.counts.1.trans gi.len;obtain ⟨cc,c13⟩:=Oy su hst
  have thr:∀ e ∈ s.2.2,0<=e.zf∧e.zf < (s.1.counts.length:Int):=fun e he=>by
   obtain ⟨t',x',p1,p2,_⟩:=si.tr.th e he;have:=(dL.1 p2).1;omega
  have rdm:(yA x t o).op.kind=6->∃ f,f<=s.2.2.length∧(∃ e:uz,(s.2.2++[mC r.2.2 x])[f]?= some e∧e.jo=true∧e.zf=(t:Int)∧e.op=x.done)∧Bd (s.2.2.take f) s.2.2 (yA x t o):=fun hk=>by
   cases hon:x.on with
   | true=>
    have en:yA x t o=x.m:=aX
    rw [en] at hk ⊢;obtain ⟨f,e1,p1,p2,p3,p4,p5⟩:=si.rd t x hx hon hk;exact ⟨f,Nat.le_of_lt (dL.1 p1).1,⟨e1,AG _ p1,p2,p3,p4⟩,p5⟩
   | false=>
    refine ⟨s.2.2.length,dW _,⟨_,FM _ _,by show (!x.on)=true;rw [hon];rfl,eth,rfl⟩,?_⟩;have en:yA x t o=Beg.xb t o x.given:=aX
    rw [no] at hk;rw [en,Fi aw,gO];intro k hk6
    have rd0:iG ⟨o,t,0,0,0, -1,0,0,0,0,0,0,0,0,0,false,Beg.ko,fY⟩ k=0:=by
     unfold iG;dsimp only;rw [dN aw]
     rfl
    have s0:kj fY k=0:=by
     unfold kj fY;repeat' split
     all_goals rfl
    dsimp only at rd0 ⊢;rw [rd0,U3 k fun e he=>(thr e he).1,s0];exact ⟨gk _,gk _⟩
  have stp:∀ f,(yA x t o).op.kind=6->Bd (s.2.2.take f) s.2.2 (yA x t o)->(r.2.1.done=false->Bd (s.2.2.take f) s.2.2 r.2.1)∧(r.2.1.done=true->∀ k,k < 6->((s.2.2.take f).countP (isAdd k):Int)<=kj r.2.1.answer.counts k∧kj r.2.1.answer.counts k<=s.2.2.countP (isAdd k)):=fun f hk b=>by
   have h:=hst;unfold kC at h;rw [su.eQ] at h;dsimp only at h;rw [su.ey] at h;dsimp only at h;rw [su.eL] at h;dsimp only at h;rw [dN aw,dN aw,dN aw,dN aw,dN aw,dQ hk] at h;exact Ub b (fun p=>(List.take_sublist f s.2.2).countP_le) su.i su.k hL si.mQ h su.done (fun e he=>(thr e he).2) fun e he=>(thr e (pJ he)).2
  refine ⟨Lo si.tr hx eth,fun i k row n h1 h2=>?_,fun t' x' h1 h2 h3=>?_,fun τ e1 h1 h2 h3=>?_⟩
  ·dsimp only at h1 h2 ⊢
   have ad:oX i k (mC r.2.2 x)=(isAdd k r.2.2 && decide ((t:Int)=i)):=by
    show (isAdd k r.2.2 && (r.2.2.zf == (i:Int)))=_;rw [eth]
    rfl
   rw [rH,r5,ad];rcases cc with ⟨c1,c2⟩ | ⟨kk,r0,x0,a1,a2,a3,a4,a5⟩
   ·rw [c1] at h1;rw [si.mQ i k row n h1 h2,TS c2];simp
   ·rw [a3,nt,toNat_cast] at h1;rw [nt,toNat_cast] at a1;have ex:=si.mQ t kk r0 x0 a1 a2;have le:s.2.2.countP (oX t kk)<=s.2.2.length:=sY
    have wr:IntKind.u64.wrap (x0+1)=x0+1:=by
     show (x0+1) % 18446744073709551616=x0+1;omega
    rw [RC a4 a5];rcases xW h1 with ⟨rfl,rfl,_⟩ | ⟨hne,h1⟩
    ·rcases xW h2 with ⟨rfl,rfl,_⟩ | ⟨hne,h2⟩
     ·rw [wr,ex];simp
     ·rw [si.mQ t k r0 n a1 h2];have:¬(k=kk):=fun z=>hne z.symm
      simp [this]
    ·rw [si.mQ i k row n h1 h2];have:¬((t:Int)=i):=by omega
     simp [this]
  ·dsimp only at h1 ⊢;by_cases q:t=t'
   ·subst q;have gx:(s.2.1.set t (Wor.jw x r.2.1))[t]?= some (Wor.jw x r.2.1):=dS hl;rw [gx] at h1;cases h1
    have nd:r.2.1.done=false:=by
     cases z:r.2.1.done with
     | false=>rfl
     | true=>rw [Wor.Di z] at h2;cases h2
    rw [DI nd] at h3 ⊢;dsimp only at h3 ⊢;have ho2:(Wor.jw x r.2.1).ops[(Wor.jw x r.2.1).done]?= some o:=by rw [DI nd];exact ho
    have n2:=LV gi2 gx ho2;have e2:yA (Wor.jw x r.2.1) t o=r.2.1:=by rw [DI nd];rfl
    rw [e2] at n2;have hk:(yA x t o).op.kind=6:=by rw [no,<- n2];exact h3
    obtain ⟨f,f1,⟨e3,q1,q2,q3,q4⟩,q5⟩:=rdm hk;refine ⟨f,e3,q1,q2,q3,q4,?_⟩;rw [BS _ f1];exact ((stp f hk q5).1 nd).grow _
   ·rw [gJ q] at h1;obtain ⟨f,e3,q1,q2,q3,q4,q5⟩:=si.rd t' x' h1 h2 h3;refine ⟨f,e3,AG _ q1,q2,q3,q4,?_⟩;rw [BS _ (Nat.le_of_lt (dL.1 q1).1)];exact q5.grow _
  ·dsimp only at h1 ⊢;rcases AY h1 with ⟨l1,h1⟩ | ⟨rfl,rfl⟩
   ·obtain ⟨f,e0,q1,q2,q3,q4,q5,q6⟩:=si.fin τ e1 h1 h2 h3;refine ⟨f,e0,q1,AG _ q2,q3,q4,q5,?_⟩;rw [BS _ aw,BS _ aw];exact q6
   ·have dn:r.2.1.done=true:=by rw [<- tl.1];exact h2
    have ea:(mC r.2.2 x).answer=r.2.1.answer:=tl.2.1 dn;rw [ea] at h3 ⊢;have hk:=c13 dn h3 fun a b=>(VU gi hx a b).2
    obtain ⟨f,f1,⟨e3,q1,q2,q3,q4⟩,q5⟩:=rdm hk;refine ⟨f,e3,f1,q1,q2,q3.trans eth.symm,q4,fun k hk6=>?_⟩;have z:=(stp f hk q5).2 dn k hk6;rw [BS _ f1,rG (l:=s.2.2++[mC r.2.2 x]) aj,rH];omega
def Mo {N K:Nat} {s:Wor.fx} (gi:GI N K s.1 s.2.1) (si:SI s) (l:List Int) (h0:s.2.2.length=0):∀ k,k<=l.length->N+k<=100000000->K+k<=1099511627776->SI (fp s l k)∧(fp s l k).2.2.length<=k
 | 0,_,_,_=>⟨si,by show s.2.2.length<=0;omega⟩
 | k+1,hk,hN,hK=>by
  have ih:=Mo gi si l h0 k aw aw aw;have g:=AZ gi l k aw aw aw;rw [k8 (dM aw)];refine ⟨UW g ih.1 _ aw aw aw,?_⟩;rcases yB g l[k] aw aw with ⟨_,e⟩ | ⟨t,x,o,r,hat,hx,ho,hsu,htm,hst,_,e,gi2⟩
  ·rw [e];omega
  ·rw [e];dsimp only;rw [gR];have:=ih.2;simp;omega
def Ti {s:Sna} {l:List u4} {n:Int} {w:Wor} (h:ir s l n=(w,0)):w.counts=List.replicate n.toNat [0,0,0,0,0,0]:=by
 unfold ir at h;split at h
 ·have:=pW Prod.snd h;exact absurd (show (1:Int)=0 from this) ar
 ·have hw:_=w:=pW Prod.fst h;rw [<- hw]
def SK {s:eF} (h:(qj s).2=0):SI (fC s):=by
 obtain ⟨_,hn⟩:=jZ h;have e:(fC s).1.counts=List.replicate (s.threads.length:Int).toNat [0,0,0,0,0,0]:=Ti hn;refine ⟨K4 _ _,fun i k row n h1 h2=>?_,fun t x h1 h2=>?_,fun τ e1 h1=>by cases h1⟩
 ·rw [e] at h1;rw [gS (dO h1)] at h2;have:=dO h2;have z:n=0:=by simpa using this
  rw [z]
  rfl
 ·obtain ⟨L,_,rfl⟩:=gD.1 ((dP ..).symm.trans (show (s.threads.map fT)[t]?= some x from h1));cases h2
def Dy {c:eP} (ok:c.ok):xB c:=by
 obtain ⟨⟨a1,b1⟩,⟨a2,b2⟩,⟨a3,b3⟩⟩:=ok;unfold reachBytes at b1 b2 b3;refine ⟨⟨aw,fun s hs=>?_⟩,⟨aw,fun r hr=>?_⟩,⟨aw,fun x hx=>?_⟩⟩
 ·have:=a1 s hs;unfold Bj reachBytes at this;omega
 ·have:=a2 r hr;unfold lb.ok reachBytes at this;omega
 ·have:=a3 x hx;unfold eM.ok reachBytes at this;omega
def UU {s:eF} (ok:s.lK):kZ s:=by
 have w:=D3 ok;have b:=ok.2.2.2;unfold reachBytes at b;refine ⟨⟨Dy ok.1,w.threads,w.ops,aw⟩,fun h=>vO (Dy ok.1) (by unfold yT at h;simpa using h),fun l hl o ho=>Dy ((ok.2.1.1 l hl).1 o ho).1.2.2.2,I1 ok,fun l hl o ho=>?_,ok.2.2.1⟩;have b:=(ok.2.1.1 l hl).1 o ho;have h1:=b.1.2.1;have h2:=b.1.2.2.1;unfold Bj reachBytes at h1 h2;exact ⟨aw,aw,b.2.1,b.2.2,fun _=>Dy b.1.2.2.2⟩
def Dp {α β:Type} {f:β->α->β} {P:β->Prop}:∀ (l:List α) (b:β),(∀ y ∈ l,∀ b,P b->P (f b y))->P b->P (l.foldl f b)
 | [],_,_,h=>h
 | y::l,b,hf,h=>Dp l (f b y) (fun z hz=>hf z (pj _ hz)) (hf y (pz ..) b h)
def CL (l:List u4):Prop:=∀ (i:Nat) (x:u4),l[i]?= some x->xh x=true∧x ∉ l.take i
def VF {l:List u4} {n:u4} (h:CL l) (hn:xh n=true):CL (y7 l n):=by
 unfold y7;split
 ·exact h
 ·rename_i q;intro i x hx;rcases AY hx with ⟨hi,hx⟩ | ⟨rfl,rfl⟩
  ·rw [rZ aw];exact h i x hx
  ·refine ⟨hn,fun m=>?_⟩;rw [rZ (dW _),gO] at m;exact q (pH.2 ⟨x,m,aj⟩)
def Pn {c:eP} (h:yT c=true):∀ x ∈ c.zd,xh x=true:=by
 have h:(qN c).1=0:=by simpa [yT] using h
 unfold qN at h;split at h
 ·contradiction
 split at h
 ·contradiction
 rename_i h2;intro x hx;obtain ⟨i,hi,rfl⟩:=pa.1 hx;have h5:=Ck (f:=m9 c.zd) (n:=c.zd.length) (Decidable.of_not_not h2) i hi;unfold m9 at h5;rw [dM hi] at h5;dsimp only at h5;split at h5
 ·cases h5
 ·rename_i q;simpa using q
def VG {s:eF} (h:fF s=true):CL (xd s):=by
 obtain ⟨p1,_,_,_,_,_⟩:=xn h;have cfg:∀ (c:eP) (o:List u4),yT c=true->CL o->CL (kE o c):=fun c o hc ho=>Dp c.zd o (fun y hy b hb=>VF hb (Pn hc y hy)) ho
 refine Dp s.threads _ (fun l _ b hb=>Dp l b (fun p _ b hb=>?_) hb) (cfg s.first [] p1 fun i x hx=>by cases hx);unfold fZ;split
 ·rename_i q;unfold o4 at q;simp only [dU] at q;exact cfg p.config b q.2 hb
 ·exact hb
def P2 {s:eF} (h:fF s=true):(qj s).2=0:=by
 obtain ⟨p1,p2,p3,_,_,_⟩:=xn h;have hc:(qN s.first).1=0:=by simpa [yT] using p1
 have nk:kG (xd s)=true:=by
  unfold kG;rw [dV];intro i hi;unfold Ae;cases q:(xd s)[i]? with
  | none=>rfl
  | some x=>
   obtain ⟨z1,z2⟩:=VG h i x q;dsimp only;rw [z1,sB,gh];unfold zS
   have:(((xd s).take i).map vr).findIdx? (fun r=>r.name == x)=none:=by
    rw [gC];intro r hr;obtain ⟨y,hy,rfl⟩:=gG.1 hr;have:¬y=x:=fun e=>z2 (e ▸ hy)
    simp [vr,this]
   rw [this]
   decide
 unfold qj;rw [dQ h];unfold ir;rw [dN];rintro (z | z | z | z)
 ·rw [C4 hc] at z;cases z
 ·omega
 ·omega
 ·rw [nk] at z;cases z
def Tt {s:eF}:(fF s=true->(qb s).2.2=0)∧(fF s=false->(qb s).2.2≠0):=by
 refine ⟨fun h=>?_,fun h=>?_⟩
 ·unfold qb;rw [dQ (P2 h)]
 ·have e:(qj s).2=1:=by unfold qj;rw [dN aH]
  unfold qb;rw [dN (by rw [e];decide),e]
  decide
structure BI (X:List ej) (b:List Cal):Prop where
 own:∀ (i:Nat) (c:Cal),b[i]?= some c->∃ (t:Nat) (x:ej),c.zf=(t:Int)∧X[t]?= some x∧((c.op < x.done∧0<=c.fj)∨(c.op=x.done∧x.on=true∧c.fj < 0))
 on:∀ (t:Nat) (x:ej),X[t]?= some x->x.on=true->∃ (i:Nat) (c:Cal),b[i]?= some c∧c.zf=(t:Int)∧c.op=x.done
 nd:∀ (i j:Nat) (c d:Cal),b[i]?= some c->b[j]?= some d->c.zf=d.zf->c.op=d.op->i=j
def Uc {X:List ej} {b:List Cal} {t:Nat} {x:ej} {m:uw} {e:uz} {k:Nat} (bi:BI X b) (hx:X[t]?= some x) (he:e.zf=(t:Int)) (hop:e.op=x.done) (hbg:e.jo=!x.on) (hdn:e.done=m.done):
  ∃ b',Cal.Bu b (k:Int) e=some b'∧BI (X.set t (Wor.jw x m)) b':=by
 have hl:=(dL.1 hx).1
 have y:(m.done=true∧(Wor.jw x m).done=x.done+1∧(Wor.jw x m).on=false)∨(m.done=false∧(Wor.jw x m).done=x.done∧(Wor.jw x m).on=true):=by
  unfold Wor.jw;by_cases q:m.done=true
  ·rw [dQ q];exact .inl ⟨q,rfl,rfl⟩
  ·rw [dN q];exact .inr ⟨aq q,rfl,rfl⟩
 have main:∀ (N:List Cal) (n:Nat) (c0:Cal),N[n]?= some (Cal.qS e (k:Int) c0)->c0.zf=(t:Int)->c0.op=x.done->c0.fj < 0->(∀ (i:Nat) (c:Cal),N[i]?= some c->i≠n->b[i]?= some c∧¬(c.zf=(t:Int)∧c.op=x.done))->(∀ (i:Nat) (c:Cal),b[i]?= some c->i≠n->N[i]?= some c)->(∀ (i:Nat) (c:Cal),b[i]?= some c->i=n->c.zf=(t:Int)∧c.op=x.done)->
   BI (X.set t (Wor.jw x m)) N:=fun N n c0 h1 h2 h3 h4 h5 h6 h7=>by
  have mt:=Cal.v7 e (k:Int) c0;have mo:=Cal.Gf e (k:Int) c0;refine ⟨fun i c hc=>?_,fun t' x' hx' hon=>?_,fun i j c d hc hd q1 q2=>?_⟩
  ·by_cases q:i=n
   ·subst q;rw [h1] at hc;cases hc
    refine ⟨t,_,mt.1.trans h2,dS hl,?_⟩;rw [mt.2,h3,mo,hdn];rcases y with ⟨y0,y1,y2⟩ | ⟨y0,y1,y2⟩
    ·rw [y0,y1,dQ rfl];exact .inl ⟨aw,aw⟩
    ·rw [y0,y1,y2,dN ar];exact .inr ⟨rfl,rfl,h4⟩
   ·obtain ⟨hb,nq⟩:=h5 i c hc q;obtain ⟨t',x',p1,p2,p3⟩:=bi.own i c hb;by_cases z:t=t'
    ·subst z;rw [hx] at p2;cases p2
     refine ⟨t,_,p1,dS hl,?_⟩;rcases p3 with ⟨p3,p4⟩ | ⟨p3,_⟩
     ·rcases y with ⟨_,y1,_⟩ | ⟨_,y1,_⟩ <;> (rw [y1];exact .inl ⟨aw,p4⟩)
     ·exact (nq ⟨p1,p3⟩).elim
    ·exact ⟨t',x',p1,by rw [gJ z];exact p2,p3⟩
  ·by_cases z:t=t'
   ·subst z;rw [dS hl] at hx';cases hx'
    rcases y with ⟨_,_,y2⟩ | ⟨_,y1,_⟩
    ·rw [hon] at y2;cases y2
    ·exact ⟨n,_,h1,mt.1.trans h2,by rw [mt.2,h3,y1]⟩
   ·rw [gJ z] at hx';obtain ⟨i,c,p1,p2,p3⟩:=bi.on t' x' hx' hon
    have ni:i≠n:=fun q=>by
     have:=(h7 i c p1 q).1;omega
    exact ⟨i,c,h6 i c p1 ni,p2,p3⟩
  ·by_cases z1:i=n
   ·by_cases z2:j=n
    ·omega
    ·subst z1;rw [h1] at hc;cases hc
     exact ((h5 j d hd z2).2 ⟨by rw [<- q1,mt.1,h2],by rw [<- q2,mt.2,h3]⟩).elim
   ·by_cases z2:j=n
    ·subst z2;rw [h1] at hd;cases hd
     exact ((h5 i c hc z1).2 ⟨by rw [q1,mt.1,h2],by rw [q2,mt.2,h3]⟩).elim
    ·exact bi.nd i j c d (h5 i c hc z1).1 (h5 j d hd z2).1 q1 q2
 unfold Cal.Bu;cases hon:x.on with
 | false=>
  rw [hbg,hon,dQ ar]
  have free:∀ (i:Nat) (c:Cal),b[i]?= some c->c.zf=(t:Int)->c.op < x.done∧0<=c.fj:=fun i c hc hth=>by
   obtain ⟨t',x',p1,p2,p3⟩:=bi.own i c hc;have:t'=t:=aw
   subst this;rw [hx] at p2;cases p2
   rcases p3 with p3 | ⟨_,p3,_⟩
   ·exact p3
   ·rw [hon] at p3;cases p3
  have n1:(Cal.zS b e.zf e.op).isSome=false:=by
   cases hp:Cal.zS b e.zf e.op with
   | none=>rfl
   | some n=>
    obtain ⟨c,hc,p1,p2⟩:=Cal.C2 hp;have:=free n c hc (p1.trans he);omega
  have n2:Cal.og b e.zf=false:=by
   unfold Cal.og;rw [gP];intro c hc;obtain ⟨i,hi⟩:=gm.1 hc;by_cases q:c.zf=(t:Int)
   ·have:=free i c hi q;simp;omega
   ·simp;omega
  rw [n1,n2,dN ar];refine ⟨_,rfl,?_⟩;have ml:(b++[Cal.yz e (k:Int)])[b.length]?= some (Cal.yz e (k:Int)):=aj
  rw [Cal.BR ml];refine main _ b.length (Cal.yz e (k:Int)) ?_ he hop (by show (-1:Int) < 0;decide) (fun i c hc hne=>?_) (fun i c hc hne=>?_) (fun i c hc q=>?_)
  ·rw [dS (dL.1 ml).1]
  ·rw [gJ (fun z=>hne z.symm)] at hc;rcases AY hc with ⟨_,hc⟩ | ⟨q,_⟩
   ·exact ⟨hc,fun ⟨z1,z2⟩=>by have:=free i c hc z1;omega⟩
   ·exact (hne q).elim
  ·rw [gJ (fun z=>hne z.symm)];exact AG (Cal.yz e (k:Int)) hc
  ·have:=(dL.1 hc).1;omega
 | true=>
  rw [hbg,hon,dN ar];obtain ⟨i0,c0,p1,p2,p3⟩:=bi.on t x hx hon;cases hp:Cal.zS b e.zf e.op with
  | none=>
   unfold Cal.zS at hp;rw [gC] at hp;have:=hp c0 (dO p1);simp [p2,p3,he,hop] at this
  | some n=>
   obtain ⟨c,hc,r1,r2⟩:=Cal.C2 hp;have r1:c.zf=(t:Int):=r1.trans he;have r2:c.op=x.done:=r2.trans hop
   have hto:c.fj < 0:=by
    obtain ⟨t',x',s1,s2,s3⟩:=bi.own n c hc;have:t'=t:=aw
    subst this;rw [hx] at s2;cases s2
    rcases s3 with ⟨s3,_⟩ | ⟨_,_,s3⟩
    ·omega
    ·exact s3
   dsimp only;rw [hc,dN aA];refine ⟨_,rfl,?_⟩;rw [Cal.BR hc];refine main _ n c ?_ r1 r2 hto (fun i d hd hne=>?_) (fun i d hd hne=>?_) (fun i d hd q=>?_)
   ·rw [dS (dL.1 hc).1]
   ·rw [gJ (fun z=>hne z.symm)] at hd;exact ⟨hd,fun ⟨z1,z2⟩=>hne (bi.nd i n d c hd hc (z1.trans r1.symm) (z2.trans r2.symm))⟩
   ·rw [gJ (fun z=>hne z.symm)];exact hd
   ·subst q;rw [hc] at hd;cases hd
    exact ⟨r1,r2⟩
def Ll (L:List uz) (e:uz):∀ k,k<=L.length->Cal.n9 (L++[e]) k=Cal.n9 L k
 | 0,_=>rfl
 | k+1,h=>by
  simp only [Cal.n9,Ll L e k aw];rw [dT aw]
structure RI (s:Wor.fx):Prop where
 tr:Tr s
 acc:∀ e ∈ s.2.2,e.access≠0
 bk:∃ b,Cal.n9 s.2.2 s.2.2.length=some b∧BI s.2.1 b
def UT {N K:Nat} {s:Wor.fx} (gi:GI N K s.1 s.2.1) (ri:RI s) (p:Int) (hN:N<=100000000) (hK:K<=1099511627776):RI (yL s p):=by
 rcases yB gi p hN hK with ⟨_,e⟩ | ⟨t,x,o,r,hat,hx,ho,hsu,htm,hst,hacc,e,gi2⟩
 ·rw [e];exact ri
 ·rw [e];obtain ⟨v,g,en,su⟩:=y3 hsu;have tl:=Fe su.done hst;have eth:r.2.2.zf=(t:Int):=tl.2.2.trans (Je o gi hx);obtain ⟨b,h1,h2⟩:=ri.bk;obtain ⟨b',h3,h4⟩:=Uc (e:=mC r.2.2 x) (m:=r.2.1) (k:=s.2.2.length) h2 hx eth rfl rfl tl.1;refine ⟨Lo ri.tr hx eth,fun e he=>?_,b',?_,h4⟩
  ·rcases gH.1 he with he | he
   ·exact ri.acc e he
   ·rw [gI.1 he];exact hacc
  ·dsimp only;rw [gR];show Cal.n9 _ (s.2.2.length+1)=_;simp only [Cal.n9];rw [Ll _ _ _ (dW _),h1,FM];exact h3
def Mn {N K:Nat} {s:Wor.fx} (gi:GI N K s.1 s.2.1) (ri:RI s) (l:List Int):∀ k,k<=l.length->N+k<=100000000->K+k<=1099511627776->RI (fp s l k)
 | 0,_,_,_=>ri
 | k+1,hk,hN,hK=>by
  have ih:=Mn gi ri l k aw aw aw;rw [k8 (dM aw)];exact UT (AZ gi l k aw aw aw) ih _ aw aw
def SR {s:eF} (ok:kZ s) (h:(qb s).2.2=0):(Cal.fK (qb s).1).2=0∧(qb s).1.length<=s.zT.length∧jC (qb s).2.1∧ig 5000 (qb s).2.1∧
  ∀ e ∈ (qb s).1,e.access≠0∧∃ (t:Nat) (l:List eD),e.zf=(t:Int)∧s.threads[t]?= some l∧0<=e.op∧e.op < l.length:=by
 have hb:=B2 h;have e1:qb s=((xP s).2.2,(xP s).1,0):=by unfold qb;rw [dQ hb]
 obtain ⟨q,_⟩:=jZ hb;obtain ⟨_,_,_,p4,_,_⟩:=xn q;have f:=Fh ok hb (n:=s.zT.length) (dW _);have gi:=Bl ok hb s.zT.length (dW _);have ao:=DX ok hb s.zT.length (dW _);have si:=Mo (AH ok hb) (SK hb) s.zT rfl s.zT.length (dW _) aw aw
 have r0:RI (fC s):=by
  refine ⟨K4 _ _,fun e he=>(by cases he),[],rfl,⟨fun i c h=>aS,fun t x hx hon=>?_,fun i j c d h=>aS⟩⟩;obtain ⟨L,_,rfl⟩:=gD.1 ((dP ..).symm.trans (show (s.threads.map fT)[t]?= some x from hx));cases hon
 have ri:RI (xP s):=Mn (AH ok hb) r0 s.zT s.zT.length (dW _) aw aw;have gd:=f.2.2.2;have e2:il s s.zT.length=s:=by unfold il;rw [gO]
 rw [e2,e1] at gd;rw [e1];dsimp only at gd ⊢;refine ⟨?_,si.2,gd.1,gd.2.1,fun e he=>⟨ri.acc e he,?_⟩⟩
 ·obtain ⟨b,hb2,_⟩:=ri.bk;have:=(Cal.DM (xP s).2.2 (xP s).2.2.length).1;rw [hb2] at this;unfold Cal.fK;cases z:Cal.vp (xP s).2.2 (xP s).2.2.length with
  | none=>rw [z] at this;cases this
  | some b2=>rfl
 ·obtain ⟨t,x,t1,t2,t3,t4⟩:=ri.tr.th e he
  have tx:s.threads[t]?= some x.ops:=by
   rw [<- ao,dP];show ((xP s).2.1[t]?).map _=_;rw [t2]
   rfl
  refine ⟨t,x.ops,t1,tx,t3,?_⟩;have tk:=FQ gi t2;rcases t4 with t4 | ⟨t4,t5⟩
  ·omega
  ·obtain ⟨os,hl,hti,_⟩:=gi.own;obtain ⟨ow,ho⟩:∃ o,os[t]?= some o:=⟨_,dM (by have:=(dL.1 t2).1;show t < os.length;rw [hl];exact this)⟩;obtain ⟨L,_,_,hh | ⟨_,hh⟩⟩:=(hti t x ow t2 ho).open_
   ·have:=hh.1;rw [t5] at this;cases this
   ·have:=(dL.1 hh.at_).1;omega
def right_sound (s:eF) (hs:s.lK):tn 3 [] [.agg (qv s)] (Bo true) []:=by
 have m1:(s.zT.map Go.Hy.encI).length=s.zT.length:=dR ..;have m3:(s.threads.map xi).length=s.threads.length:=dR ..;have ok:=UU hs;have key:=SR ok;have hbig:=Jo s (D3 hs);have his:=H7 s ok.wk;have pe:=Tt (s:=s);have hp:=wv s ok;have bl:=Lb ok;have none:=K8 (s:=s);have mQ:=IB (l:=(qb s).1);generalize iW s=bg at *;generalize fF s=isv at *;have ho:=Cal.FT (qb s).1 aw;generalize qb s=p at *;obtain ⟨l,w,e⟩:=p;dsimp only at *;generalize Cal.fK l=oc at *;obtain ⟨cs,f⟩:=oc;dsimp only at *;have ml:(l.map zR).length=l.length:=dR ..;have mc:(cs.map jV).length=cs.length:=dR ..;refine ab func3 ?_;refine ah hp ?_;cases bg with
 | true=>
  refine ah hbig ?_;refine tc ?_
  refine ah j9 ?_;refine tc ?_
  refine ah hbig ?_;refine tc ?_
  exact uI
 | false=>
  refine ah hbig ?_;refine tc ?_
  rw [m1];refine ⟨fun h1=>?_,fun h1=>?_⟩
  ·refine dd ?_;refine tc ?_
   refine ah j9 ?_;refine tc ?_
   refine ah hbig ?_;refine tc ?_
   rw [m1];refine ⟨fun _=>dd ?_,fun h=>absurd (h.symm.trans h1) ar⟩;refine tc ?_
   exact uI
  have b1:s.zT.length<=1000:=b9
  refine dd ?_;refine tc ?_
  cases isv with
  | false=>
   have e0:e≠0:=pe.2 rfl;have l0:l=[]:=(none e0).1;subst l0;refine ⟨fun _=>dd ?_,fun h=>absurd h (aq e0)⟩;refine tc ?_
   refine ah j9 ?_;refine tc ?_
   refine ah hbig ?_;refine tc ?_
   rw [m1];refine ⟨fun h=>absurd (h.symm.trans h1) ar,fun _=>dd ?_⟩;refine tc ?_
   refine ah his ?_;refine tc ?_
   exact uI
  | true=>
   have e0:e=0:=pe.1 rfl;subst e0;obtain ⟨f0,k2,k3,k4,k5⟩:=key rfl;subst f0;obtain ⟨n1,n2⟩:=mQ rfl;refine dd ?_;refine tc ?_
   refine zZ.seq l.length (fun k=>(.agg (qv s):: .ref 0 [] 5 0 0::Bo false::fV l:: .ref 1 [] 8 0 0::I 0::I k:: .za::.za::.za::.za::.za::.za::.za::tZ (tZ (tZ (tZ (tZ (tZ (tZ (tZ (tZ (tZ (tZ (tZ (tZ (tZ (tZ ([]))))))))))))))))) (fun k=>[⟨1,30,5,[qv s],0⟩,⟨1,37,8,[zJ w],0⟩]) (fun k=>True) ?_ trivial (fun k hk hr=>?_) (fun hr=>?_)
   ·exact cE 2
   ·obtain ⟨e,hx⟩:∃ e,e=l[k]:=⟨_,rfl⟩;have hg:(l.map zR)[k]?= some (zR e):=by rw [dP,dM hk,hx];rfl
    obtain ⟨a0,t,tl,a1,a2,a3,a4⟩:=k5 e tD;have htt:(s.threads.map xi)[t]?= some (xi tl):=by rw [dP,a2];rfl
    have mt:(tl.map vb).length=tl.length:=dR ..;have tlt:=(dL.1 a2).1;obtain ⟨e1,e2,e3,e4,e5,e6,e7,e8,e9,e10,e11⟩:=e;dsimp only at a0 a1 a3 a4;subst a1;conv=>whnf
    rw [ml];refine uF ?_;refine uE ?_;(refine td hg ?_)
    refine ⟨fun h=>absurd h (aq a0),fun _=>dd ?_⟩;(refine td hg ?_)
    refine ⟨fun h=>absurd h aj,fun _=>dd ?_⟩;(refine td hg ?_)
    rw [m3];refine ⟨fun h=>absurd h aA,fun _=>dd ?_⟩;(refine td hg ?_)
    refine ⟨fun h=>absurd h aA,fun _=>dd ?_⟩;(refine td hg ?_)
    (refine td hg ?_)
    refine ⟨sL t,_,(show (s.threads.map xi)[((t:Nat):Int).toNat]?= some (xi tl) by rw [toNat_cast];exact htt),dd ?_⟩;rw [mt];refine ⟨fun h=>absurd h aA,fun _=>dd ?_⟩;exact c7
   ·conv=>whnf
    rw [ml];refine ⟨fun h=>absurd h aj,fun _=>dd ?_⟩;refine ⟨aj,uH ?_⟩;have ho:tn 11 [] [fV l] (.u1 [At cs,I 0]) []:=ho;refine ah ho ?_;refine ah j9 ?_;refine tc ?_
    refine ah (Ii w (n8 k3 k4 ar)) ?_;rw [qh.2 k3];refine ⟨fun _=>dd ?_,fun h=>absurd h aj⟩;rw [ml,m1];refine ⟨fun _=>dd ?_,fun h=>absurd h aA⟩;rw [mc,ml];refine ⟨fun _=>dd ?_,fun h=>absurd h aA⟩;refine tc ?_
    exact uI
end Go.Run
