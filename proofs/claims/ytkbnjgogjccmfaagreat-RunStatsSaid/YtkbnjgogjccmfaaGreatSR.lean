import Derived.Test.YtkbnjgogjccmfaaGreatSQ
import Derived.Test.YtkbnjgogjccmfaaGreatS0
set_option linter.all false
set_option maxRecDepth 100000
set_option maxHeartbeats 4000000
namespace Go.Run
open Go.Ab Go.Proofs Tryz Go.Gat Go.Nam Go.Hos Go.Con Go.Sna Go.Pla Go.Ply Go.Wor
open Go.Hy hiding encI
def fC (k:Nat) (a:eC):Nat:=if 1<=a.kind∧a.kind<=5∧(k=0∨a.kind=k) then 1 else 0
def fW (k:Nat) (m:u3):Nat:=if m.op.kind=1∧m.done=false∧(if k=0 then 22 else 21)<=m.pc then fC k m.answer else 0
def nA (k:Nat) (x:eE):Nat:=if x.on=true then fW k x.m else 0
def Ag (k:Nat) (e:u6):Nat:=if e.done=true then fC k e.answer else 0
def kz (k:Nat) (l:List (List Int)):Int:=(l.map fun r=>(r[k]?).getD 0).sum
def Vl {k:Nat} {a:eC} (h:6<=a.kind):fC k a=0:=by unfold fC;rw [dR aw]
def K2 {k:Nat} {m:u3} (h:m.done=true):fW k m=0:=by unfold fW;rw [dR aH]
def Gj {k:Nat} {m:u3} (h:m.pc<=20):fW k m=0:=by unfold fW;rw [dR (fun z=>by have:=z.2.2;split at this <;> omega)]
def K3 {k:Nat} {m:u3} (h:m.op.kind≠1):fW k m=0:=by unfold fW;rw [dR (fun z=>h z.1)]
def mQ (e:u6):Prop:=e.cell=10∧e.access=3
def wL (hi:Int) (w:Wor) (m:u3) (r:Wor × u3 × u6):Prop:=r.1.counts=w.counts∧r.2.1.op=m.op∧(r.2.1.done=true->6<=r.2.1.answer.kind∧r.2.1.answer.kind<=hi)∧¬mQ r.2.2
def Cp {e:u6} (h:e.cell≠10):¬mQ e:=fun z=>h z.1
def AV {hi:Int} {α:Type} {w:Wor} {m:u3} {o:Option α} {f:α->Wor × u3 × u6} {r:Wor × u3 × u6} (h:o.map f=some r) (hf:∀ x,wL hi w m (f x)):wL hi w m r:=by
 obtain ⟨x,_,rfl⟩:=gK.1 h;exact hf x
def TR {hi:Int} {w:Wor} {m:u3} {f:eL->Wor × u3 × u6} {r:Wor × u3 × u6} (h:iI w m f=some r) (hf:∀ x,wL hi w m (f x)):wL hi w m r:=by
 unfold iI at h;rcases qc h with h | h
 ·cases h
 ·exact AV h hf
def xi {hi:Int} {w w':Wor} {m m':u3} {e:u6} (h1:w'.counts=w.counts) (h2:m'.op=m.op) (h3:m'.done=false) (h4:e.cell≠10:=by exact gd au):wL hi w m (w',m',e):=⟨h1,h2,fun q=>absurd (q.symm.trans h3) ar,Cp h4⟩
def vW {hi:Int} {w w':Wor} {m m':u3} {e:u6} (h1:w'.counts=w.counts) (h2:m'.op=m.op) (h3:6<=m'.answer.kind∧m'.answer.kind<=hi) (h4:e.cell≠10:=by exact gd au):wL hi w m (w',m',e):=⟨h1,h2,fun _=>h3,Cp h4⟩
def IN {w:Wor} {m:u3} {v:u9} {g:Gr} {e:En} {r:Wor × u3 × u6} (hd:m.done=false) (h:yv w m v g e=some r):wL 12 w m r:=by
 unfold yv at h;rcases qc h with h | h
 ·obtain rfl:=gk h;exact du
 rcases qc h with h | h
 ·obtain rfl:=gk h;exact du
 rcases qc h with h | h
 ·rcases qc h with h | h
  ·obtain rfl:=gk h;exact du
  ·obtain rfl:=gk h;exact du
 rcases qc h with h | h
 ·obtain rfl:=gk h;exact du
 rcases qc h with h | h
 ·exact TR h fun x=>vW rfl rfl uY
 rcases qc h with h | h
 ·obtain rfl:=gk h;exact vW rfl rfl uY
 ·cases h
def KB {w:Wor} {m:u3} {r:Wor × u3 × u6} (hd:m.done=false) (h:va w m=some r):wL 12 w m r:=by
 unfold va at h;rcases qc h with h | h
 ·rcases qc h with h | h
  ·obtain rfl:=gk h;exact du
  ·obtain rfl:=gk h;exact vW rfl rfl uY
 rcases qc h with h | h
 ·obtain rfl:=gk h;exact du
 rcases qc h with h | h
 ·rcases qc h with h | h
  ·cases h
  ·obtain rfl:=gk h;exact vW rfl rfl uY
 ·cases h
def JF {w:Wor} {m:u3} {r:Wor × u3 × u6} (hd:m.done=false) (h:wh w m=some r):wL 12 w m r:=by
 unfold wh at h;rcases qc h with h | h
 ·rcases qc h with h | h
  ·obtain rfl:=gk h;exact vW rfl rfl uY
  ·exact AV h fun x=>vW rfl rfl uY
 ·cases h
def Ma (w:Wor) (m m0:u3) (hd:m.done=false) (ho:m.op=m0.op):wL 12 w m0 (mE w m):=by
 unfold mE;split
 ·exact vW rfl ho uY
 ·refine xi rfl ?_ ?_
  ·unfold Ah;repeat' split
   all_goals exact ho
  ·unfold Ah;repeat' split
   all_goals exact hd
def IK {w:Wor} {m:u3} {r:Wor × u3 × u6} (hd:m.done=false) (h:yA w m=some r):wL 12 w m r:=by
 unfold yA at h;rcases qc h with h | h
 ·obtain rfl:=gk h;split
  ·exact du
  ·exact vW rfl rfl uY
 rcases qc h with h | h
 ·obtain rfl:=gk h;exact du
 rcases qc h with h | h
 ·refine AV h fun x=>xi rfl ?_ ?_
  ·unfold n6;repeat' split
   all_goals rfl
  ·unfold n6;repeat' split
   all_goals exact hd
 rcases qc h with h | h
 ·obtain rfl:=gk h;split
  ·exact du
  ·exact du
 rcases qc h with h | h
 ·obtain rfl:=gk h;split
  ·exact Ma w (fM m 8 0) m hd rfl
  ·refine xi rfl ?_ ?_
   ·unfold n5;repeat' split
    all_goals rfl
   ·unfold n5;repeat' split
    all_goals exact hd
 rcases qc h with h | h
 ·obtain ⟨v,_,h⟩:=gP.1 h;refine AV h fun x=>xi rfl ?_ ?_
  ·unfold oN;repeat' split
   all_goals rfl
  ·unfold oN;repeat' split
   all_goals exact hd
 rcases qc h with h | h
 ·obtain ⟨v,_,h⟩:=gP.1 h;obtain ⟨x,_,h⟩:=gP.1 h;rcases qc h with h | h
  ·obtain rfl:=gk h;exact du
  ·cases h
 rcases qc h with h | h
 ·obtain rfl:=gk h;exact Ma w m m hd rfl
 rcases qc h with h | h
 ·refine AV h fun x=>xi rfl ?_ ?_
  ·split <;> rfl
  ·split <;> exact hd
 rcases qc h with h | h
 ·obtain ⟨v,_,h⟩:=gP.1 h;rcases qc h with h | h
  ·obtain rfl:=gk h;exact du
  ·cases h
 ·cases h
def J1 (w:Wor) (m:u3) (n:Int):(jm w m n).op=m.op∧((jm w m n).done=m.done∨(jm w m n).answer.kind=13):=by
 unfold jm;dsimp only;repeat' split
 all_goals exact ⟨rfl,by first | exact .inl rfl | exact .inr rfl⟩
def JG {w:Wor} {m:u3} {r:Wor × u3 × u6} (hd:m.done=false) (h:vN w m=some r):wL 13 w m r:=by
 unfold vN at h;rcases qc h with h | h
 ·obtain ⟨v,_,h⟩:=gP.1 h;refine AV h fun x=>⟨rfl,(J1 w m x).1,fun q=>?_,fun z=>absurd (show (1:Int)=3 from z.2) ar⟩
  dsimp only at q ⊢;rcases (J1 w m x).2 with z | z
  ·exact absurd (hd.symm.trans (z.symm.trans q)) ar
  ·omega
 ·cases h
def q9 {α:Type} {c:Prop} [Decidable c] {a b x:α} (h:(if c then a else b)=x):(c∧a=x)∨(¬c∧b=x):=by
 by_cases q:c
 ·rw [dU q] at h;exact .inl ⟨q,h⟩
 ·rw [dR q] at h;exact .inr ⟨q,h⟩
def AH (w:Wor) (m:u3) (r:Wor × u3 × u6):Prop:=
 (r.1.counts=w.counts∧m.pc < 20∧r.2.1.pc<=20∧r.2.1.done=false∧¬mQ r.2.2)∨
 (∃ (k:Nat) (r0:List Int) (x:Int),w.counts[m.zg.toNat]?= some r0∧r0[k]?= some x∧r.1.counts=w.counts.set m.zg.toNat (r0.set k (IntKind.u64.wrap (x+1)))∧(mQ r.2.2∧r.2.2.value=k)∧((m.pc=20∧k=(mI m.answer.kind).toNat∧r.2.1={ m with pc:=21 })∨(m.pc=21∧k=0∧∃ p,22<=p∧r.2.1={ m with pc:=p })))∨
 (r.1.counts=w.counts∧22<=m.pc∧¬mQ r.2.2∧(r.2.1={ m with pc:=23 }∨r.2.1={ m with done:=true }))
def DR {α:Type} {w:Wor} {m:u3} {o:Option α} {f:α->Wor × u3 × u6} {r:Wor × u3 × u6} (h:o.map f=some r) (hf:∀ x,AH w m (f x)):AH w m r:=by
 obtain ⟨x,_,rfl⟩:=gK.1 h;exact hf x
def Gt {w:Wor} {m:u3} {f:eL->Wor × u3 × u6} {r:Wor × u3 × u6} (h:iI w m f=some r) (hf:∀ x,AH w m (f x)):AH w m r:=by
 unfold iI at h;rcases qc h with h | h
 ·cases h
 ·exact DR h hf
def vg {w w':Wor} {m m':u3} {e:u6} (h1:w'.counts=w.counts) (h2:m.pc < 20) (h3:m'.pc<=20) (h4:m'.done=false) (h5:e.cell≠10:=by exact gd au):AH w m (w',m',e):=.inl ⟨h1,h2,h3,h4,Cp h5⟩
def Ke {w:Wor} {m:u3} {k p:Int} {r:Wor × u3 × u6} (h:nC w m k p=some r):∃ r0 x,w.counts[m.zg.toNat]?= some r0∧r0[k.toNat]?= some x∧r.1.counts=w.counts.set m.zg.toNat (r0.set k.toNat (IntKind.u64.wrap (x+1)))∧(mQ r.2.2∧r.2.2.value=k)∧r.2.1={ m with pc:=p }:=by
 unfold nC at h;split at h
 ·cases h
 ·rename_i r0 h0;split at h
  ·cases h
  ·rename_i x hx;obtain rfl:=gk h;exact ⟨r0,x,h0,hx,rfl,⟨⟨rfl,rfl⟩,rfl⟩,rfl⟩
def JC {w:Wor} {m:u3} {v:u9} {g:Gr} {e:En} {r:Wor × u3 × u6} (hd:m.done=false) (h:qg w m v g e=some r):AH w m r:=by
 have rt:m.pc<=20->(xz m v).pc<=20:=fun h=>by
  unfold xz;repeat' split
  all_goals first | exact h | exact gd au
 have rd:(xz m v).done=false:=by
  unfold xz;repeat' split
  all_goals exact hd
 unfold qg at h;rcases q9 h with ⟨p,h⟩ | ⟨p,h⟩
 ·unfold Ae at h;rcases qc h with h | h
  ·obtain rfl:=gk h;exact vg rfl aw (by show (1:Int)<=20;decide) hd
  rcases qc h with h | h
  ·obtain rfl:=gk h;exact vg rfl aw (by show (2:Int)<=20;decide) hd
  rcases qc h with h | h
  ·obtain rfl:=gk h;exact vg rfl aw (by dsimp only;split <;> decide) hd
  ·cases h
 rcases q9 h with ⟨p,h⟩ | ⟨_,h⟩
 ·obtain rfl:=gk h;refine vg rfl aw ?_ ?_
  ·split
   ·show (20:Int)<=20;decide
   ·show (4:Int)<=20;decide
  ·split <;> exact hd
 rcases q9 h with ⟨p,h⟩ | ⟨_,h⟩
 ·exact Gt h fun x=>vg rfl aw (by show (5:Int)<=20;decide) hd
 rcases q9 h with ⟨p,h⟩ | ⟨_,h⟩
 ·refine Gt h fun x=>vg rfl aw ?_ ?_ (by split <;> exact gd au)
  ·split
   ·show (20:Int)<=20;decide
   ·exact rt aw
  ·split
   ·exact hd
   ·exact rd
 rcases q9 h with ⟨p,h⟩ | ⟨_,h⟩
 ·exact DR h fun x=>vg rfl aw (by show (9:Int)<=20;decide) hd
 rcases q9 h with ⟨p,h⟩ | ⟨_,h⟩
 ·obtain rfl:=gk h;exact vg rfl aw (by show (8:Int)<=20;decide) hd
 rcases q9 h with ⟨p,h⟩ | ⟨_,h⟩
 ·exact DR h fun x=>vg rfl aw (by show (9:Int)<=20;decide) hd
 rcases q9 h with ⟨p,h⟩ | ⟨_,h⟩
 ·obtain rfl:=gk h;refine vg rfl aw ?_ ?_
  ·split
   ·show (10:Int)<=20;decide
   ·show (20:Int)<=20;decide
  ·split <;> exact hd
 rcases q9 h with ⟨p,h⟩ | ⟨_,h⟩
 ·exact DR h fun x=>vg rfl aw (by show (11:Int)<=20;decide) hd
 rcases q9 h with ⟨p,h⟩ | ⟨_,h⟩
 ·rcases qc h with h | h
  ·obtain rfl:=gk h;exact vg rfl aw (by show (12:Int)<=20;decide) hd
  ·obtain rfl:=gk h;exact vg rfl aw (by show (9:Int)<=20;decide) hd
 rcases q9 h with ⟨p,h⟩ | ⟨_,h⟩
 ·obtain rfl:=gk h;exact vg rfl aw (by show (20:Int)<=20;decide) hd
 rcases q9 h with ⟨p,h⟩ | ⟨_,h⟩
 ·obtain ⟨r0,x,a1,a2,a3,⟨a5,a6⟩,a4⟩:=Ke h;exact .inr (.inl ⟨_,r0,x,a1,a2,a3,⟨a5,by rw [a6];unfold mI;split <;> omega⟩,.inl ⟨p,rfl,a4⟩⟩)
 rcases q9 h with ⟨p,h⟩ | ⟨_,h⟩
 ·obtain ⟨r0,x,a1,a2,a3,a5,a4⟩:=Ke h;exact .inr (.inl ⟨0,r0,x,a1,a2,a3,a5,.inr ⟨p,rfl,_,by split <;> decide,a4⟩⟩)
 rcases q9 h with ⟨p,h⟩ | ⟨_,h⟩
 ·refine Gt h fun x=>.inr (.inr ⟨rfl,aw,Cp (gd au),.inl rfl⟩)
 rcases q9 h with ⟨p,h⟩ | ⟨_,h⟩
 ·obtain rfl:=gk h;exact .inr (.inr ⟨rfl,aw,Cp (gd au),.inr rfl⟩)
 ·cases h
def Ln:∀ {l:List Int} {t:Nat} {a b:Int},l[t]?= some a->(l.set t b).sum+a=l.sum+b
 | [],t,a,b,h=>by cases h
 | y::l,0,a,b,h=>by
  have:y=a:=aq h
  subst this;simp only [rO,pG];omega
 | y::l,t+1,a,b,h=>by
  have:=Ln (l:=l) (t:=t) (a:=a) (b:=b) tX;simp only [sK,pG];omega
def Vk {l:List (List Int)} {t:Nat} {r r':List Int} (k:Nat) (h:l[t]?= some r):kz k (l.set t r')+(r[k]?).getD 0=kz k l+(r'[k]?).getD 0:=by
 unfold kz;rw [pL];exact Ln (by rw [dT,h];rfl)
def Up {α:Type} (f:α->Nat) {l:List α} {t:Nat} {a b:α} (h:l[t]?= some a):((l.set t b).map f).sum+f a=(l.map f).sum+f b:=by
 rw [pL];exact Cy (by rw [dT,h];rfl)
def TW {N:Nat} {w:Wor} {m:u3} {v:u9} {g:Gr} {e:En} {r:Wor × u3 × u6} (su:qG w m v g e) (ha:m.op.kind=1->20<=m.pc->1<=m.answer.kind∧m.answer.kind<=5) (h6:∀ r ∈ w.counts,r.length=6)
  (low:∀ r ∈ w.counts,∀ x ∈ r,0<=x∧x<=N) (hN:N<=1000000000000) (h:vz w m=some r):
  (∀ k,k < 6->kz k r.1.counts+(fW k m:Int)=kz k w.counts+((Ag k r.2.2+fW k r.2.1:Nat):Int))∧(∀ r' ∈ r.1.counts,∀ x ∈ r',0<=x∧x<=((N+1:Nat):Int)):=by
 have tl:=Dh su.done h
 have ev:∀ k,Ag k r.2.2=if r.2.1.done=true then fC k r.2.1.answer else 0:=fun k=>by
  unfold Ag;rw [tl.1];by_cases q:r.2.1.done=true
  ·rw [dU q,dU q,tl.2.1 q]
  ·rw [dR q,dR q]
 have low':∀ r' ∈ w.counts,∀ x ∈ r',0<=x∧x<=((N+1:Nat):Int):=fun r' hr x hx=>by have:=low r' hr x hx;omega
 have other:∀ {hi:Int},wL hi w m r->m.op.kind≠1->(∀ k,k < 6->kz k r.1.counts+(fW k m:Int)=kz k w.counts+((Ag k r.2.2+fW k r.2.1:Nat):Int))∧(∀ r' ∈ r.1.counts,∀ x ∈ r',0<=x∧x<=((N+1:Nat):Int)):=@fun hi ⟨c1,c2,c3,_⟩ hk=>by
  rw [c1];refine ⟨fun k _=>?_,low'⟩;rw [ev,K3 hk,K3 (by rw [c2];exact hk)];by_cases q:r.2.1.done=true
  ·rw [dU q,Vl (c3 q).1]
  ·rw [dR q]
 unfold vz at h;rw [su.eX] at h;dsimp only at h;rw [su.eG] at h;dsimp only at h;rw [su.eS] at h;dsimp only at h;rcases q9 h with ⟨k1,h⟩ | ⟨k1,h⟩
 ·rcases JC su.done h with ⟨c1,c2,c3,c4,_⟩ | ⟨kk,r0,x,a1,a2,a3,_,a4⟩ | ⟨c1,c2,_,c3⟩
  ·rw [c1];refine ⟨fun k _=>?_,low'⟩;rw [ev,Gj aw,Gj c3,dR (by simp [c4])]
  ·have lw:=low r0 (dS a1) x (dS a2)
   have wr:IntKind.u64.wrap (x+1)=x+1:=by
    show (x+1) % 18446744073709551616=x+1;omega
   rw [wr] at a3;have l6:=h6 r0 (dS a1);have k6:=(dP.1 a2).1
   have tail:∀ r' ∈ r.1.counts,∀ y ∈ r',0<=y∧y<=((N+1:Nat):Int):=fun r' hr y hy=>by
    rw [a3] at hr;rcases gV hr with hr | rfl
    ·exact low' r' hr y hy
    ·rcases gV hy with hy | rfl
     ·exact low' r0 (dS a1) y hy
     ·omega
   refine ⟨fun k hk=>?_,tail⟩;have cs:=Vk (r':=r0.set kk (x+1)) k a1;rw [<- a3] at cs;have hx:r0[kk]'k6=x:=(dP.1 a2).2
   have dn:r.2.1.done=false∧r.2.1.op=m.op∧r.2.1.answer=m.answer:=by
    rcases a4 with ⟨_,_,e⟩ | ⟨_,_,p,_,e⟩ <;> rw [e] <;> exact ⟨su.done,rfl,rfl⟩
   rw [ev,dR (by simp [dn.1])]
   have am:fW k m=if (if k=0 then 22 else 21)<=m.pc then fC k m.answer else 0:=by
    unfold fW;by_cases q:(if k=0 then (22:Int) else 21)<=m.pc
    ·rw [dU ⟨k1,su.done,q⟩,dU q]
    ·rw [dR (fun z=>q z.2.2),dR q]
   have am':fW k r.2.1=if (if k=0 then 22 else 21)<=r.2.1.pc then fC k m.answer else 0:=by
    unfold fW;rw [dn.2.2];by_cases q:(if k=0 then (22:Int) else 21)<=r.2.1.pc
    ·rw [dU ⟨by rw [dn.2.1];exact k1,dn.1,q⟩,dU q]
    ·rw [dR (fun z=>q z.2.2),dR q]
   rw [am,am'];have an:=ha k1 (by rcases a4 with ⟨p,_⟩ | ⟨p,_⟩ <;> omega)
   have g0:(r0[k]?).getD 0=if k=kk then x else (r0[k]?).getD 0:=by
    by_cases q:k=kk
    ·rw [dU q,q,a2];rfl
    ·rw [dR q]
   have g1:((r0.set kk (x+1))[k]?).getD 0=if k=kk then x+1 else (r0[k]?).getD 0:=by
    by_cases q:k=kk
    ·rw [dU q,q,dW aw];rfl
    ·rw [dR q,gZ (fun z=>q z.symm)]
   rw [g1] at cs;rw [g0] at cs;rcases a4 with ⟨p1,p2,e⟩ | ⟨p1,p2,p,p3,e⟩
   ·have pc':r.2.1.pc=21:=by rw [e]
    rw [pc',p1];have kv:kk=m.answer.kind.toNat:=by rw [p2];unfold mI;rw [dR aw]
    have t0:∀ p:Int,(if (if k=0 then (22:Int) else 21)<=p then fC k m.answer else 0)=if (k=0∧22<=p)∨(k≠0∧21<=p) then fC k m.answer else 0:=fun p=>by
     by_cases z:k=0
     ·simp [z]
     ·simp [z]
    rw [t0,t0];by_cases z:k=0
    ·rw [dR aw,dR aw];rw [dR aw,dR aw] at cs;omega
    ·rw [dR aw,dU aw];by_cases q:k=kk
     ·rw [dU q,dU q] at cs;have c:fC k m.answer=1:=dU ⟨an.1,an.2,.inr aw⟩;rw [c];omega
     ·rw [dR q,dR q] at cs;have c:fC k m.answer=0:=dR aw;rw [c];omega
   ·have pc':r.2.1.pc=p:=by rw [e]
    rw [pc',p1];subst p2
    have t0:∀ p:Int,(if (if k=0 then (22:Int) else 21)<=p then fC k m.answer else 0)=if (k=0∧22<=p)∨(k≠0∧21<=p) then fC k m.answer else 0:=fun p=>by
     by_cases z:k=0
     ·simp [z]
     ·simp [z]
    rw [t0,t0];by_cases z:k=0
    ·rw [dR aw,dU aw];rw [dU z,dU z] at cs;have c:fC k m.answer=1:=dU ⟨an.1,an.2,.inl z⟩;rw [c];omega
    ·rw [dU aw,dU aw];rw [dR z,dR z] at cs;omega
  ·rw [c1];refine ⟨fun k _=>?_,low'⟩
   have am:fW k m=fC k m.answer:=by
    unfold fW;rw [dU ⟨k1,su.done,by split <;> omega⟩]
   rw [ev,am];rcases c3 with e | e
   ·rw [e,dR (by simp [su.done])]
    have:fW k { m with pc:=23 }=fC k m.answer:=by
     unfold fW;rw [dU ⟨k1,su.done,by show _<=(23:Int);split <;> omega⟩]
    rw [this];omega
   ·rw [e,dU rfl,K2 rfl]
    rfl
 rcases q9 h with ⟨k2,h⟩ | ⟨_,h⟩
 ·exact other (IN su.done h) k1
 rcases q9 h with ⟨k2,h⟩ | ⟨_,h⟩
 ·exact other (KB su.done h) k1
 rcases q9 h with ⟨k2,h⟩ | ⟨_,h⟩
 ·exact other (JF su.done h) k1
 rcases q9 h with ⟨k2,h⟩ | ⟨_,h⟩
 ·exact other (IK su.done h) k1
 rcases q9 h with ⟨k2,h⟩ | ⟨_,h⟩
 ·exact other (JG su.done h) k1
 ·cases h
structure CI (N:Nat) (s:Wor.fJ):Prop where
 EM:∀ k,k < 6->kz k s.1.counts=(((s.2.2.map (Ag k)).sum+(s.2.1.map (nA k)).sum:Nat):Int)
 low:∀ r ∈ s.1.counts,∀ x ∈ r,0<=x∧x<=(N:Int)
 on:s.2.2.countP (·.jf)=s.2.2.countP (·.done)+s.2.1.countP (·.on)
def SK (t:Int) (o:eK) (l:List eC):(Beg.j7 t o l).pc<=20:=by
 by_cases h:o.kind=2
 ·unfold Beg.j7;rw [dU h];unfold Beg.kK;repeat' split
  all_goals exact gd au
 ·rw [Dp h];show (0:Int)<=20
  decide
def VT (k:Nat) (x:eE) (t:Int) (o:eK):nA k x=fW k (yr x t o):=by
 unfold nA yr;cases x.on with
 | true=>rfl
 | false=>rw [dR ar,dR ar,Gj (SK ..)]
def VU (k:Nat) (x:eE) (m:u3):nA k (Wor.jE x m)=fW k m:=by
 unfold Wor.jE;by_cases h:m.done=true
 ·rw [dU h,K2 h];rfl
 ·rw [dR h];rfl
def Me {N K:Nat} {w:Wor} {X:List eE} {t:Nat} {x:eE} {o:eK} (gi:GI N K w X) (hx:X[t]?= some x):(yr x t o).op.kind=1->20<=(yr x t o).pc->1<=(yr x t o).answer.kind∧(yr x t o).answer.kind<=5:=by
 cases hon:x.on with
 | false=>
  intro hk hp;have e:yr x t o=Beg.j7 t o x.given:=aW
  rw [e] at hk hp;by_cases h:o.kind=2
  ·have:(Beg.j7 t o x.given).op.kind=2:=by
    unfold Beg.j7;rw [dU h];unfold Beg.kK;repeat' split
    all_goals exact h
   omega
  ·rw [Dp h] at hp;exact absurd (show (20:Int)<=0 from hp) ar
 | true=>
  have e:yr x t o=x.m:=aW
  rw [e];intro hk hp;obtain ⟨os,hl,hti,_⟩:=gi.own;obtain ⟨ow,ho⟩:∃ o,os[t]?= some o:=⟨_,dQ (by have:=(dP.1 hx).1;omega)⟩;obtain ⟨L,_,_,h | ⟨_,h⟩⟩:=(hti t x ow hx ho).open_
  ·have:=h.1;rw [hon] at this;cases this
  ·obtain ⟨v,g,e,su,lc⟩:=h.lc;rcases lc with ⟨_,lc⟩ | ⟨k,_⟩ | ⟨k,_⟩ | ⟨k,_⟩ | ⟨k,_⟩ | ⟨k,_⟩
   ·exact ⟨(lc.iN hp).1,(lc.iN hp).2.1⟩
   all_goals omega
def WD {X:List eE} {t:Nat} {x y:eE} (h:X[t]?= some x):(X.set t y).countP (·.on)+(if x.on=true then 1 else 0)=X.countP (·.on)+(if y.on=true then 1 else 0):=by
 obtain ⟨h1,h2⟩:=dP.1 h;rw [List.countP_set h1,h2]
 have:(if x.on=true then 1 else 0)<=X.countP (·.on):=by
  split
  ·rename_i q;exact List.countP_pos_iff.2 ⟨x,dS h,q⟩
  ·omega
 omega
def Ui {N K M:Nat} {s:Wor.fJ} (gi:GI N K s.1 s.2.1) (ci:CI M s) (p:Int) (hN:N<=100000000) (hK:K<=1099511627776) (hM:M<=1000000000000):CI (M+1) (yR s p):=by
 rcases yG gi p hN hK with ⟨_,e⟩ | ⟨t,x,o,r,hat,hx,ho,hsu,htm,hst,_,e,gi2⟩
 ·rw [e];exact ⟨ci.EM,fun r hr x hx=>by have:=ci.low r hr x hx;omega,ci.on⟩
 ·rw [e];obtain ⟨v,g,en,su⟩:=y8 hsu;have tl:=Dh su.done hst;have gr:=zY.1 gi.st.ji.ground;obtain ⟨c1,c2⟩:=TW su (Me gi hx) gr.counts.2 ci.low hM hst;refine ⟨fun k hk=>?_,c2,?_⟩
  ·have a:=c1 k hk;have b:=ci.EM k hk;have c:=Up (nA k) (b:=Wor.jE x r.2.1) hx;rw [VU,VT k x t o] at c;have d:Ag k (w9 r.2.2 x)=Ag k r.2.2:=rfl;dsimp only;rw [pb,rH,sL,sM,d];omega
  ·have a:=ci.on;have b:=WD (y:=Wor.jE x r.2.1) hx
   have c:(Wor.jE x r.2.1).on=!r.2.1.done:=by
    unfold Wor.jE;by_cases q:r.2.1.done=true
    ·rw [dU q,q];rfl
    ·rw [dR q];have:r.2.1.done=false:=by simpa using q
     rw [this];rfl
   have q1:(w9 r.2.2 x).done=r.2.1.done:=tl.1;have q2:(w9 r.2.2 x).jf=!x.on:=rfl;dsimp only;rw [pY,pY,rm,rm,q1,q2];rw [c] at b
   revert b
   cases x.on <;> cases r.2.1.done <;> simp <;> omega
def MO {N K M:Nat} {s:Wor.fJ} (gi:GI N K s.1 s.2.1) (ci:CI M s) (l:List Int):∀ k,k<=l.length->N+k<=100000000->K+k<=1099511627776->M+k<=1000000000000->CI (M+k) (fD s l k)
 | 0,_,_,_,_=>ci
 | k+1,hk,hN,hK,hM=>by
  have ih:=MO gi ci l k aw aw aw aw;rw [we (dQ aw)];exact Ui (Bl gi l k aw aw aw) ih _ aw aw aw
def xm (k:Nat) (cs:List Cal):Nat:=(cs.map fun c=>fC k c.answer).sum
def QC {s:Sna} {l:List ec} {n:Int} {w:Wor} (h:ir s l n=(w,0)):w.counts=List.replicate n.toNat [0,0,0,0,0,0]:=by
 unfold ir at h;split at h
 ·have:=pS Prod.snd h;exact absurd (show (1:Int)=0 from this) ar
 ·have hw:_=w:=pS Prod.fst h;rw [<- hw]
def TY (k n:Nat):kz k (List.replicate n [0,0,0,0,0,0])=0:=by
 induction n with
 | zero=>rfl
 | succ n ih=>
  unfold kz at ih ⊢;rw [rK,pF,pG,ih]
  match k with
  | 0=>rfl
  | 1=>rfl
  | 2=>rfl
  | 3=>rfl
  | 4=>rfl
  | 5=>rfl
  | k+6=>rfl
def SJ {s:eP} (h:(qp s).2=0):CI 0 (fH s):=by
 obtain ⟨_,hn⟩:=jT h;have e:(fH s).1.counts=List.replicate (s.threads.length:Int).toNat [0,0,0,0,0,0]:=QC hn;refine ⟨fun k _=>?_,fun r hr x hx=>?_,?_⟩
 ·rw [e,TY]
  have z:((fH s).2.1.map (nA k)).sum=0:=by
   show ((s.threads.map wG).map (nA k)).sum=0;rw [pX];exact C2 s.threads
  rw [z]
  rfl
 ·rw [e] at hr;rw [gQ hr] at hx;simp at hx;omega
 ·show 0=0+(s.threads.map wG).countP (·.on);rw [List.countP_map,ud.2 (fun x _=>by simp [wG])]
def Vw {s:eP} (ok:kE s) (h:(qp s).2=0):CI s.zS.length (xe s):=by
 obtain ⟨q,_⟩:=jT h;obtain ⟨_,_,_,p4,_,_⟩:=xI q;have:=MO (AU ok h) (SJ h) s.zS s.zS.length (gf _) aw aw aw
 rwa [gz] at this
def P0 {s:eP} (ok:kE s) (h:(z7 s).2.2=0) (hf:(Cal.fK (z7 s).1).2=0):
  (∀ r ∈ (z7 s).2.1.counts,r.length=6∧∀ x ∈ r,0<=x∧x<=s.zS.length)∧((∀ c ∈ (Cal.fK (z7 s).1).1,0<=c.fi)->∀ k,k < 6->kz k (z7 s).2.1.counts=xm k (Cal.fK (z7 s).1).1):=by
 have hb:=AS h;have e1:z7 s=((xe s).2.2,(xe s).1,0):=by unfold z7;rw [dU hb]
 have ci:=Vw ok hb;have gi:=Bw ok hb s.zS.length (gf _);have gr:=zY.1 gi.st.ji.ground;rw [e1] at hf ⊢;dsimp only at hf ⊢;refine ⟨fun r hr=>⟨gr.counts.2 r hr,ci.low r hr⟩,fun z8 k hk=>?_⟩;unfold Cal.fK at hf z8 ⊢;cases hbk:Cal.yy (xe s).2.2 (xe s).2.2.length with
 | none=>rw [hbk] at hf;cases hf
 | some b=>
  rw [hbk] at z8;dsimp only at z8 ⊢;obtain ⟨_,c2,c3⟩:=Cal.Cb _ hbk;have ca:=Cal.Mb (fC k) _ hbk;rw [gX] at c2 c3 ca;have c4:b.l.countP Cal.fI=b.l.length:=List.countP_eq_length.2 fun c hc=>by simpa using z8 c hc
  have on0:(xe s).2.1.countP (·.on)=0:=by have:=ci.on;omega
  have z:((xe s).2.1.map (nA k)).sum=0:=by
   have:(xe s).2.1.map (nA k)=(xe s).2.1.map fun _=>0:=ri fun x hx=>by
    have:=ud.1 on0 x hx;unfold nA;rw [dR this]
   rw [this];exact C2 _
  have e:xm k b.l=(b.l.map fun c=>if 0<=c.fi then fC k c.answer else 0).sum:=by
   unfold xm;exact pS List.sum (ri fun c hc=>by rw [dU (z8 c hc)])
  rw [ci.EM k hk,z,e,ca]
  rfl
def TX {k j:Nat} {c:List (List Int)} (hk:k < c.length):kz j (c.take (k+1))=kz j (c.take k)+((c[k])[j]?).getD 0:=by
 unfold kz;rw [gR hk,pb,rH,sL,sM]
def KE {j:Nat}:∀ {c:List (List Int)},(∀ r ∈ c,∀ x ∈ r,0<=x∧x<=1000000000000)->0<=kz j c∧kz j c<=1000000000000 * c.length
 | [],_=>⟨gy _,by show (0:Int)<=1000000000000 * ((0:Nat):Int);decide⟩
 | r::c,h=>by
  have ih:=KE (j:=j) (c:=c) fun r hr=>h r (px _ hr)
  have hr:0<=(r[j]?).getD 0∧(r[j]?).getD 0<=1000000000000:=by
   cases hx:r[j]? with
   | none=>exact ⟨gy _,ar⟩
   | some x=>exact h r (pD ..) x (dS hx)
  have e:kz j (r::c)=(r[j]?).getD 0+kz j c:=by unfold kz;rw [pF,pG]
  rw [e,pR];omega
abbrev C6 (f:Nat->Int):List C:=[U (f 0),U (f 1),U (f 2),U (f 3),U (f 4),U (f 5)]
def SQ (c:List (List Int)) (hs:vS c=true) (h6:∀ r ∈ c,r.length=6) (hl:c.length<=8) (hb:∀ r ∈ c,∀ x ∈ r,0<=x∧x<=1000000000000):to 15 [] [eM c] (.u7 [.agg (C6 fun j=>kz j c),I 0]) []:=by
 have mc:(c.map zN).length=c.length:=dV ..;refine ab func15 ?_;refine ah (Iw c aw) ?_;rw [hs];refine td ?_
 rw [mc];refine zW.seq c.length (fun k=>((eM c)::.za::.ref 0 [] 6 0 0::I 0::.ref 1 [] 6 0 0::.za::.za::.za::.za::.za::.za::.za::(eM c)::I c.length::I k::hZ (hZ ([.za,.za])))) (fun k=>[⟨1,44,6,[C6 (fun _=>0)],0⟩,⟨1,44,6,[C6 (fun j=>kz j (c.take k))],0⟩]) (fun k=>True) ?_ trivial (fun k hk hr=>?_) (fun hr=>?_)
 ·exact cC
 ·obtain ⟨x,hx⟩:∃ x,x=c[k]:=⟨_,rfl⟩;have hg:(c.map zN)[k]?= some (zN x):=by rw [dT,dQ hk,hx];rfl
  have hm:x ∈ c:=bN
  have x6:=h6 x hm;have xb:=hb x hm;have st:=fun j=>TX (j:=j) hk
  rw [<- hx] at st;have bd:=fun j=>KE (j:=j) (c:=c.take k) fun r hr=>hb r (pK hr)
  have lk:(c.take k).length<=8:=aA
  generalize hcol:(fun j=>kz j (c.take k))=g at *
  match x,x6 with
  | [b0,b1,b2,b3,b4,b5],_=>
  conv=>whnf
  refine uF ?_;(refine tf hg ?_)
  refine nn.AM 7 (LoopN.step ?_);conv=>whnf
  refine td ?_
  refine uE ?_;(refine ⟨ar,ar,dd ?_⟩);(refine ⟨ar,_,rfl,dd ?_⟩);(refine ⟨ar,ar,dd ?_⟩)
  refine .inl ⟨rfl,LoopN.step (uH ?_)⟩;refine td ?_
  refine uE ?_;(refine ⟨ar,ar,dd ?_⟩);(refine ⟨ar,_,rfl,dd ?_⟩);(refine ⟨ar,ar,dd ?_⟩)
  refine .inl ⟨rfl,LoopN.step (uH ?_)⟩;refine td ?_
  refine uE ?_;(refine ⟨ar,ar,dd ?_⟩);(refine ⟨ar,_,rfl,dd ?_⟩);(refine ⟨ar,ar,dd ?_⟩)
  refine .inl ⟨rfl,LoopN.step (uH ?_)⟩;refine td ?_
  refine uE ?_;(refine ⟨ar,ar,dd ?_⟩);(refine ⟨ar,_,rfl,dd ?_⟩);(refine ⟨ar,ar,dd ?_⟩)
  refine .inl ⟨rfl,LoopN.step (uH ?_)⟩;refine td ?_
  refine uE ?_;(refine ⟨ar,ar,dd ?_⟩);(refine ⟨ar,_,rfl,dd ?_⟩);(refine ⟨ar,ar,dd ?_⟩)
  refine .inl ⟨rfl,LoopN.step (uH ?_)⟩;refine td ?_
  refine uE ?_;(refine ⟨ar,ar,dd ?_⟩);(refine ⟨ar,_,rfl,dd ?_⟩);(refine ⟨ar,ar,dd ?_⟩)
  refine .inl ⟨rfl,LoopN.step (uH ?_)⟩;refine td ?_
  refine .inr ⟨aj,uH ?_⟩
  have w:∀ (j:Nat) (b:Int),([b0,b1,b2,b3,b4,b5][j]?).getD 0=b->b ∈ [b0,b1,b2,b3,b4,b5]->IntKind.u64.wrap (g j+b)=kz j (c.take (k+1)):=fun j b e1 e2=>by
   have z:=st j;rw [e1,<- show g j=kz j (c.take k) from by rw [<- hcol]] at z;have y:=bd j;rw [<- show g j=kz j (c.take k) from by rw [<- hcol]] at y;have u:=xb b e2;rw [z];show (g j+b) % 18446744073709551616=g j+b;omega
  refine .inl ⟨rfl,?_,trivial⟩;rw [zu aw,w 0 b0 rfl aj,w 1 b1 rfl aj,w 2 b2 rfl aj,w 3 b3 rfl aj,w 4 b4 rfl aj,w 5 b5 rfl aj];exact cE 2
 ·exact dz
def F3 {v k:Nat} {cs:List Cal} (hk:k < cs.length):xm v (cs.take (k+1))=xm v (cs.take k)+fC v (cs[k]).answer:=by
 unfold xm;rw [gR hk,pb,rH,sL,sM]
def GP (v:Nat):∀ cs:List Cal,xm v cs<=cs.length
 | []=>gf _
 | c::cs=>by
  have:=GP v cs;have:fC v c.answer<=1:=by unfold fC;split <;> omega
  unfold xm at *;rw [pF,pG,pR];omega
def LJ:∀ cs:List Cal,xm 0 cs=xm 1 cs+xm 2 cs+xm 3 cs+xm 4 cs+xm 5 cs
 | []=>rfl
 | c::cs=>by
  have:=LJ cs
  have e:fC 0 c.answer=fC 1 c.answer+fC 2 c.answer+fC 3 c.answer+fC 4 c.answer+fC 5 c.answer:=by
   by_cases h:1<=c.answer.kind∧c.answer.kind<=5
   ·have:c.answer.kind=1∨c.answer.kind=2∨c.answer.kind=3∨c.answer.kind=4∨c.answer.kind=5:=by omega
    rcases this with q | q | q | q | q <;> (unfold fC;rw [q];rfl)
   ·have z:∀ v,fC v c.answer=0:=fun v=>by unfold fC;rw [dR aw]
    rw [z,z,z,z,z,z]
  unfold xm at *;simp only [pF,pG];omega
def counts_sound (s:eP) (hs:s.ma):to 6 [] [.agg (qi s)] (Bo true) []:=by
 have m1:(s.zS.map Go.Hy.encI).length=s.zS.length:=dV ..;refine ab func6 ?_;refine ah (Fk s (Ed hs)) ?_;refine ⟨fun h0=>?_,fun h0=>?_⟩
 ·refine dd ?_;refine td ?_
  exact uI
 have ok:=G0 h0 hs;refine dd ?_;rw [m1];refine ⟨fun h1=>?_,fun h1=>?_⟩
 ·refine dd ?_;refine td ?_
  exact uI
 have b1:s.zS.length<=1000:=b9
 refine dd ?_;have bl:=Gb ok;refine ah (vH s ok) ?_;refine ah (Cal.Dy (z7 s).1 aw) ?_;have key:=P0 ok;have ji:=Kn ok;have l9:=E7 (l:=(z7 s).1);generalize z7 s=p at *;obtain ⟨l,w,e⟩:=p;dsimp only at *;generalize Cal.fK l=oc at *;obtain ⟨cs,f⟩:=oc;dsimp only at *;have ml:(l.map zP).length=l.length:=dV ..;have mc:(cs.map jA).length=cs.length:=dV ..;refine ⟨fun h3=>?_,fun h3=>?_⟩
 ·refine dd ?_;refine td ?_
  exact c7
 have e0:e=0:=aq h3
 subst e0;refine dd ?_;refine ⟨fun h4=>?_,fun h4=>?_⟩
 ·refine dd ?_;refine td ?_
  exact c7
 have f0:f=0:=aq h4
 subst f0;refine dd ?_;obtain ⟨n1,n2⟩:=l9 rfl;refine zW.seq cs.length (fun k=>(.agg (qi s):: .ref 0 [] 5 0 0::Bo false::fZ l:: .ref 1 [] 8 0 0::I 0::oB cs::I 0:: .ref 2 [] 6 0 0::I k:: .za::.za::.za::.za::hZ (hZ (hZ (hZ (hZ (hZ (hZ (hZ (hZ (hZ (hZ (hZ ([])))))))))))))) (fun k=>[⟨1,30,5,[qi s],0⟩,⟨1,37,8,[zJ w],0⟩,⟨1,44,6,[C6 fun v=>(xm v (cs.take k):Int)],0⟩]) (fun k=>∀ j (h:j < cs.length),j < k->0<=(cs[j]).fi) ?_ (fun j h h2=>absurd h2 (gO j)) (fun k hk hr=>?_) (fun hr=>?_)
 ·exact cE 3
 ·obtain ⟨c,hx⟩:∃ c,c=cs[k]:=⟨_,rfl⟩;have hg:(cs.map jA)[k]?= some (jA c):=by rw [dT,dQ hk,hx];rfl
  have ct:=fun v=>F3 (v:=v) hk
  rw [<- hx] at ct;have cl:=fun v=>gY (GP v (cs.take k)) (show (cs.take k).length<=k by simp;omega)
  obtain ⟨c1,c2,c3,c4,c5,⟨ak,a2,a3,a4,a5,a6,a7,a8⟩⟩:=c
  have hinv:0<=c5->∀ j (h:j < cs.length),j < k+1->0<=(cs[j]).fi:=fun h0 j hj hjk=>by
   by_cases e:j=k
   ·subst e;rw [<- hx];exact h0
   ·exact hr j hj aw
  conv=>whnf
  rw [mc];refine uF ?_;(refine tf hg ?_)
  refine ⟨fun h5=>?_,fun h5=>?_⟩
  ·refine dd ?_;refine ah jx ?_;refine td ?_
   (refine .inr ⟨aj,uH ?_⟩)
   exact uI
  ·have h0:0<=c5:=by simpa using h5
   have none_:¬(1<=ak∧ak<=5)->(fun v=>(xm v (cs.take (k+1)):Int))=fun v=>(xm v (cs.take k):Int):=fun q=>by
    funext v
    rw [ct v];have:fC v ⟨ak,a2,a3,a4,a5,a6,a7,a8⟩=0:=dR (fun z=>q ⟨z.1,z.2.1⟩);show ((xm v (cs.take k)+fC v ⟨ak,a2,a3,a4,a5,a6,a7,a8⟩:Nat):Int)=_;rw [this]
    rfl
   refine dd ?_;(refine tf hg ?_)
   refine ⟨fun h6=>?_,fun h6=>?_⟩
   ·have g6:1<=ak:=by simpa using h6
    refine dd ?_;refine ⟨fun h7=>?_,fun h7=>?_⟩
    ·have g7:ak<=5:=by simpa using h7
     obtain q | q | q | q | q:ak=1∨ak=2∨ak=3∨ak=4∨ak=5:=aw
     all_goals
      subst q
      have up:∀ v,fC v (cs[k]).answer=1->IntKind.u64.wrap ((xm v (cs.take k):Int)+1)=(xm v (cs.take (k+1)):Int):=fun v e=>by
       rw [F3 hk,e];have:=cl v;show ((xm v (cs.take k):Int)+1) % 18446744073709551616=((xm v (cs.take k)+1:Nat):Int);omega
      have at_:∀ v,fC v (cs[k]).answer=0->(xm v (cs.take k):Int)=(xm v (cs.take (k+1)):Int):=fun v e=>by
       rw [F3 hk,e]
       rfl
      rw [<- hx] at up at_;refine dd ?_;refine ⟨gd au,gd au,dd ?_⟩;refine ⟨gd au,gd au,dd ?_⟩;refine ⟨gd au,gd au,dd ?_⟩;refine ⟨gd au,gd au,dd ?_⟩;refine .inl ⟨rfl,?_,hinv h0⟩;rw [zu aw];dsimp only;rw [up 0 rfl];(first | rw [up 1 rfl] | rw [at_ 1 rfl])
      (first | rw [up 2 rfl] | rw [at_ 2 rfl])
      (first | rw [up 3 rfl] | rw [at_ 3 rfl])
      (first | rw [up 4 rfl] | rw [at_ 4 rfl])
      (first | rw [up 5 rfl] | rw [at_ 5 rfl])
      exact cE 3
    ·have g7:¬ak<=5:=by simpa using h7
     refine dd ?_;refine .inl ⟨rfl,?_,hinv h0⟩;rw [zu aw,none_ (fun z=>g7 z.2)];exact cE 3
   ·have g6:¬1<=ak:=by simpa using h6
    refine dd ?_;refine td ?_
    refine .inl ⟨rfl,?_,hinv h0⟩;rw [zu aw,none_ (fun z=>g6 z.1)];exact cE 3
 ·have z8:∀ c ∈ cs,0<=c.fi:=fun c hc=>by
   obtain ⟨j,hj,rfl⟩:=pt.1 hc;exact hr j hj hj
  obtain ⟨k1,k2⟩:=key rfl rfl;have k2:=k2 z8;obtain ⟨gw,tw⟩:=ji rfl;conv=>whnf
  rw [mc];refine ⟨fun h=>absurd h aj,fun _=>dd ?_⟩;refine ⟨aj,uH ?_⟩;have gr:=zY.1 gw.ground
  have sh:vS w.counts=true:=by
   unfold vS;simp only [dY,gp,dZ,gT];have:=gr.counts.1;have:=gr.pins;exact ⟨⟨gr.counts.2,aw⟩,aw⟩
  refine ah (SQ w.counts sh gr.counts.2 (by have:=gr.counts.1;have:=gr.pins;omega) (fun r hr x hx=>by have:=(k1 r hr).2 x hx;omega)) ?_;rw [gX];dsimp only;rw [k2 0 ar,k2 1 ar,k2 2 ar,k2 3 ar,k2 4 ar,k2 5 ar];refine ah jx ?_;refine td ?_
  refine ⟨au,dd ?_⟩;refine ⟨fun _=>dd ?_,fun h=>absurd h aj⟩;(refine ⟨ar,ar,dd ?_⟩)
  (refine ⟨ar,ar,dd ?_⟩)
  (refine ⟨ar,ar,dd ?_⟩)
  (refine ⟨ar,ar,dd ?_⟩)
  (refine ⟨ar,ar,dd ?_⟩)
  (refine ⟨ar,ar,dd ?_⟩)
  have cl:=fun v=>GP v cs
  have c6:=LJ cs
  have wr:∀ z:Int,0<=z->z<=1000000->IntKind.u64.wrap z=z:=fun z h1 h2=>by
   show z % 18446744073709551616=z;omega
  have cl1:=cl 1;have cl2:=cl 2;have cl3:=cl 3;have cl4:=cl 4;have cl5:=cl 5;rw [wr ((xm 1 cs:Int)+(xm 2 cs:Int)) aw aw,wr ((xm 1 cs:Int)+(xm 2 cs:Int)+(xm 3 cs:Int)) aw aw,wr ((xm 1 cs:Int)+(xm 2 cs:Int)+(xm 3 cs:Int)+(xm 4 cs:Int)) aw aw,wr ((xm 1 cs:Int)+(xm 2 cs:Int)+(xm 3 cs:Int)+(xm 4 cs:Int)+(xm 5 cs:Int)) aw aw];have e6:((xm 0 cs:Int) == (xm 1 cs:Int)+(xm 2 cs:Int)+(xm 3 cs:Int)+(xm 4 cs:Int)+(xm 5 cs:Int))=true:=gT.2 aw;refine ⟨fun _=>dd ?_,fun h=>absurd (e6.symm.trans h) ar⟩;refine td ?_
  exact uI
def QD {N K:Nat} {w:Wor} {X:List eE} {t:Nat} {x:eE} (o:eK) (gi:GI N K w X) (hx:X[t]?= some x):(yr x t o).zg=t:=by
 cases hon:x.on with
 | false=>
  unfold yr Beg.j7;rw [hon,dR ar];split
  ·unfold Beg.kK;repeat' split
   all_goals rfl
  ·rfl
 | true=>
  unfold yr;rw [hon,dU rfl];obtain ⟨os,hl,hti,_⟩:=gi.own;obtain ⟨ow,ho⟩:∃ o,os[t]?= some o:=⟨_,dQ (by have:=(dP.1 hx).1;omega)⟩;obtain ⟨L,_,_,h | ⟨_,h⟩⟩:=(hti t x ow hx ho).open_
  ·have:=h.1;rw [hon] at this;cases this
  ·exact h.th
structure Tr (s:Wor.fJ):Prop where
 th:∀ e ∈ s.2.2,∃ (t:Nat) (x:eE),e.zg=(t:Int)∧s.2.1[t]?= some x∧0<=e.op∧(e.op < x.done∨(e.op=x.done∧x.on=true))
 uniq:∀ (a b:Nat) (ea eb:u6),s.2.2[a]?= some ea->s.2.2[b]?= some eb->ea.jf=true->eb.jf=true->ea.zg=eb.zg->ea.op=eb.op->a=b
 on:∀ (t:Nat) (x:eE),s.2.1[t]?= some x->x.on=true->∃ (f:Nat) (e:u6),s.2.2[f]?= some e∧e.jf=true∧e.zg=(t:Int)∧e.op=x.done
def D6 {α:Type} {l:List α} {y x:α} {a:Nat} (h:(l++[y])[a]?= some x):(a < l.length∧l[a]?= some x)∨(a=l.length∧x=y):=by
 rw [List.getElem?_append] at h;split at h
 ·exact .inl ⟨by assumption,h⟩
 ·rename_i q;have hl:a - l.length < 1:=by simpa using (dP.1 h).1
  have e0:a - l.length=0:=aw
  rw [e0] at h;exact .inr ⟨aw,aq h.symm⟩
def Ca {α:Type} {l:List α} (y:α) {x:α} {a:Nat} (h:l[a]?= some x):(l++[y])[a]?= some x:=by
 rw [dX (dP.1 h).1];exact h
def KW {α:Type} (l:List α) (y:α):(l++[y])[l.length]?= some y:=by simp
def V6 {s:Wor.fJ} {t:Nat} {x:eE} {m:u3} {w:Wor} {e:u6} (tr:Tr s) (hx:s.2.1[t]?= some x) (he:e.zg=(t:Int)):Tr (w,s.2.1.set t (Wor.jE x m),s.2.2++[w9 e x]):=by
 have hl:=(dP.1 hx).1
 have y:(Wor.jE x m).done=x.done+1∧(Wor.jE x m).on=false∨(Wor.jE x m).done=x.done∧(Wor.jE x m).on=true:=by
  unfold Wor.jE;by_cases q:m.done=true
  ·rw [dU q];exact .inl ⟨rfl,rfl⟩
  ·rw [dR q];exact .inr ⟨rfl,rfl⟩
 refine ⟨fun e' h=>?_,fun a b ea eb h1 h2 b1 b2 q1 q2=>?_,fun t' x' h1 h2=>?_⟩
 ·dsimp only at h ⊢;rcases gJ.1 h with h | h
  ·obtain ⟨t',x',p1,p2,p3,p4⟩:=tr.th e' h;by_cases q:t=t'
   ·subst q;rw [hx] at p2;cases p2
    refine ⟨t,_,p1,dW hl,p3,?_⟩;rcases y with ⟨y1,y2⟩ | ⟨y1,y2⟩
    ·rw [y1];exact .inl aw
    ·rw [y1,y2];rcases p4 with p4 | p4
     ·exact .inl p4
     ·exact .inr ⟨p4.1,rfl⟩
   ·exact ⟨t',x',p1,by rw [gZ q];exact p2,p3,p4⟩
  ·rw [gM] at h;subst h;refine ⟨t,_,he,dW hl,by show (0:Int)<=(x.done:Int);omega,?_⟩;show (x.done:Int) < _∨(x.done:Int)=_∧_;rcases y with ⟨y1,y2⟩ | ⟨y1,y2⟩
   ·rw [y1];exact .inl aw
   ·rw [y1,y2];exact .inr ⟨rfl,rfl⟩
 ·dsimp only at h1 h2
  have none_:∀ ea ∈ s.2.2,x.on=false->ea.zg=(t:Int)->ea.op=(x.done:Int)->False:=fun ea hm hoff hth hop=>by
   obtain ⟨t',x',p1,p2,p3,p4⟩:=tr.th ea hm;have:t'=t:=aw
   subst this;rw [hx] at p2;cases p2
   rcases p4 with p4 | ⟨_,p4⟩
   ·omega
   ·rw [hoff] at p4;cases p4
  rcases D6 h1 with ⟨l1,h1⟩ | ⟨l1,rfl⟩
  ·rcases D6 h2 with ⟨l2,h2⟩ | ⟨l2,rfl⟩
   ·exact tr.uniq a b ea eb h1 h2 b1 b2 q1 q2
   ·exact (none_ ea (dS h1) (by have:(!x.on)=true:=b2;simpa using this) (q1.trans he) q2).elim
  ·rcases D6 h2 with ⟨l2,h2⟩ | ⟨l2,rfl⟩
   ·exact (none_ eb (dS h2) (by have:(!x.on)=true:=b1;simpa using this) (q1.symm.trans he) q2.symm).elim
   ·omega
 ·dsimp only at h1 ⊢;by_cases q:t=t'
  ·subst q;rw [dW hl] at h1;cases h1
   rcases y with ⟨y1,y2⟩ | ⟨y1,y2⟩
   ·rw [h2] at y2;cases y2
   ·rw [y1];cases hon:x.on with
    | true=>
     obtain ⟨f,e1,p1,p2,p3,p4⟩:=tr.on t x hx hon;exact ⟨f,e1,Ca _ p1,p2,p3,p4⟩
    | false=>exact ⟨s.2.2.length,_,KW _ _,by show (!x.on)=true;rw [hon];rfl,he,rfl⟩
  ·rw [gZ q] at h1;obtain ⟨f,e1,p1,p2,p3,p4⟩:=tr.on t' x' h1 h2;exact ⟨f,e1,Ca _ p1,p2,p3,p4⟩
def Uu (w:Wor) (T:List (List eK)):Tr (w,T.map wG,[]):=by
 refine ⟨fun e h=>(by cases h),fun a b ea eb h1=>(by cases h1),fun t x h1 h2=>?_⟩;obtain ⟨L,_,rfl⟩:=gK.1 ((dT ..).symm.trans h1);cases h2
def isAdd (k:Nat) (e:u6):Bool:=e.cell == 10 && e.access == 3 && e.value == (k:Int)
def Ac (i k:Nat) (e:u6):Bool:=isAdd k e && e.zg == (i:Int)
def wN (n k:Nat) (e:u6):Bool:=isAdd k e && decide (e.zg < (n:Int))
def yS (x:mB) (k:Nat):Int:=if k=0 then x.c0 else if k=1 then x.c1 else if k=2 then x.c2 else if k=3 then x.c3 else if k=4 then x.c4 else x.c5
def F1 {k:Nat} {e:u6} (h:¬mQ e):isAdd k e=false:=by
 unfold isAdd;cases q:(e.cell == 10 && e.access == 3) with
 | false=>rfl
 | true=>
  simp only [dY,gT] at q;exact absurd q h
def RY {k kk:Nat} {e:u6} (h:mQ e) (hv:e.value=(kk:Int)):isAdd k e=decide (k=kk):=by
 unfold isAdd;rw [h.1,h.2,hv];by_cases q:k=kk
 ·subst q;simp
 ·have:¬((kk:Int)=k):=by omega
  simp [q,this]
def lt_succ (n k:Nat):∀ l:List u6,l.countP (wN (n+1) k)=l.countP (wN n k)+l.countP (Ac n k)
 | []=>rfl
 | e::l=>by
  have ih:=lt_succ n k l;rw [uv,uv,uv,ih]
  have:(if wN (n+1) k e=true then 1 else 0)=(if wN n k e=true then 1 else 0)+(if Ac n k e=true then 1 else 0):=by
   unfold wN Ac;cases isAdd k e with
   | false=>simp
   | true=>
    simp only [sX,gT,gp];by_cases q:e.zg < (n:Int)
    ·rw [dU aw,dU q,dR aw]
    ·rw [dR q];by_cases z:e.zg=(n:Int)
     ·rw [dU aw,dU z]
     ·rw [dR aw,dR z]
  omega
def VG (k:Nat) {l:List u6} (h:∀ e ∈ l,0<=e.zg):l.countP (wN 0 k)=0:=by
 rw [ud];intro e he;have:=h e he;unfold wN;simp;omega
def Mk (n k:Nat) {l:List u6} (h:∀ e ∈ l,e.zg < (n:Int)):l.countP (wN n k)=l.countP (isAdd k):=by
 refine List.countP_congr fun e he=>?_
 have:=h e he;unfold wN;simp [this]
def iO (m:u3) (k:Nat):Nat:=m.i.toNat+if (k:Int) < m.k then 1 else 0
def Bd (F L:List u6) (m:u3):Prop:=∀ k,k < 6->(F.countP (wN (iO m k) k):Int)<=yS m.counts k∧yS m.counts k<=L.countP (wN (iO m k) k)
def Bd.grow {F L:List u6} {m:u3} (e:u6) (h:Bd F L m):Bd F (L++[e]) m:=fun k hk=>by
 have:=h k hk;rw [pY];omega
def UL (x:mB) (a k:Nat) (n:Int) (ha:a < 6) (hk:k < 6) (h:0<=yS x a+n) (h2:yS x a+n < 18446744073709551616):yS (kG x a n) k=yS x k+if k=a then n else 0:=by
 have w:∀ z:Int,0<=z->z < 18446744073709551616->IntKind.u64.wrap z=z:=fun z h1 h2=>by
  show z % 18446744073709551616=z;omega
 obtain ⟨c0,c1,c2,c3,c4,c5⟩:=x;obtain rfl | rfl | rfl | rfl | rfl | rfl:a=0∨a=1∨a=2∨a=3∨a=4∨a=5:=aw
 all_goals
  obtain rfl | rfl | rfl | rfl | rfl | rfl:k=0∨k=1∨k=2∨k=3∨k=4∨k=5:=aw
 all_goals
  simp [yS,kG] at h h2 ⊢
 all_goals exact w _ h h2
def Uh {F L:List u6} {w:Wor} {m:u3} {r:Wor × u3 × u6} (b:Bd F L m) (hF:∀ p:u6->Bool,F.countP p<=L.countP p) (h0:0<=m.i) (h1:0<=m.k) (hL:L.length<=1000000000000)
  (l9:∀ (i k:Nat) (row:List Int) (n:Int),w.counts[i]?= some row->row[k]?= some n->n=L.countP (Ac i k)) (h:vN w m=some r) (hd:m.done=false) (hth:∀ e ∈ L,e.zg < (w.counts.length:Int)) (hthF:∀ e ∈ F,e.zg < (w.counts.length:Int)):
  (r.2.1.done=false->Bd F L r.2.1)∧(r.2.1.done=true->∀ k,k < 6->(F.countP (isAdd k):Int)<=yS r.2.1.answer.counts k∧yS r.2.1.answer.counts k<=L.countP (isAdd k)):=by
 unfold vN at h;rcases q9 h with ⟨⟨p1,p2⟩,h⟩ | ⟨_,h⟩
 ·obtain ⟨row,hrow,h⟩:=gP.1 h;obtain ⟨n,hn,rfl⟩:=gK.1 h;have en:=l9 _ _ row n hrow hn;obtain ⟨kk,ek⟩:∃ kk:Nat,m.k=kk:=⟨m.k.toNat,aw⟩;have kk6:kk < 6:=by omega
  rw [ek,toNat_cast] at hn en;have le:∀ p:u6->Bool,L.countP p<=L.length:=fun p=>sx
  have rd0:iO m kk=m.i.toNat:=by unfold iO;rw [ek,dR aw];rfl
  have bk:=b kk kk6;have sp:=lt_succ m.i.toNat kk L;have spF:=lt_succ m.i.toNat kk F;have hFb:=hF (Ac m.i.toNat kk);have l1:=le (wN (m.i.toNat+1) kk);rw [rd0] at bk
  have key:∀ k,k < 6->(F.countP (wN (iO m k+if k=kk then 1 else 0) k):Int)<=yS (kG m.counts m.k n) k∧yS (kG m.counts m.k n) k<=L.countP (wN (iO m k+if k=kk then 1 else 0) k):=fun k hk=>by
   rw [ek,UL m.counts kk k n kk6 hk aw aw];by_cases q:k=kk
   ·subst q;rw [dU rfl,dU rfl,rd0];omega
   ·rw [dR q,dR q,rG];have:=b k hk;omega
  have hi:=(dP.1 hrow).1;dsimp only;by_cases q5:m.k+1=6
  ·have rdn:∀ k,k < 6->iO m k+(if k=kk then 1 else 0)=m.i.toNat+1:=fun k hk=>by
    unfold iO;rw [ek];by_cases q:k=kk
    ·rw [dU q,dR aw]
    ·rw [dR q,dU aw]
   by_cases q6:m.i+1=w.counts.length
   ·have es:jm w m n={ m with counts:=kG m.counts m.k n,k:=0,i:=m.i+1,done:=true,answer:=⟨13,0,0,0,0,0,0,kG m.counts m.k n⟩ }:=by
     unfold jm;dsimp only;rw [dU q5,dU q6]
    rw [es];refine ⟨fun q=>absurd (show true=false from q) ar,fun _ k hk=>?_⟩;have a:=key k hk;rw [rdn k hk,show m.i.toNat+1=w.counts.length from aw] at a;rw [Mk _ _ hth] at a;rw [Mk _ _ hthF] at a;exact a
   ·have es:jm w m n={ m with counts:=kG m.counts m.k n,k:=0,i:=m.i+1 }:=by
     unfold jm;dsimp only;rw [dU q5,dR q6]
    rw [es];refine ⟨fun _ k hk=>?_,fun q=>absurd (hd.symm.trans q) ar⟩;have a:=key k hk
    have e:iO { m with counts:=kG m.counts m.k n,k:=0,i:=m.i+1 } k=iO m k+if k=kk then 1 else 0:=by
     rw [rdn k hk];unfold iO;dsimp only;rw [dR aw];omega
    rw [e];exact a
  ·have q7:¬(m.i=w.counts.length):=by omega
   have es:jm w m n={ m with counts:=kG m.counts m.k n,k:=m.k+1 }:=by
    unfold jm;dsimp only;rw [dR q5,dR q7]
   rw [es];refine ⟨fun _ k hk=>?_,fun q=>absurd (hd.symm.trans q) ar⟩;have a:=key k hk
   have e:iO { m with counts:=kG m.counts m.k n,k:=m.k+1 } k=iO m k+if k=kk then 1 else 0:=by
    unfold iO;dsimp only;rw [ek];by_cases q:k=kk
    ·rw [dU q,dU aw,dR aw]
    ·rw [dR q];by_cases z:(k:Int) < kk
     ·rw [dU aw,dU z]
     ·rw [dR aw,dR z]
   rw [e];exact a
 ·cases h
def O3 {w:Wor} {m:u3} {v:u9} {g:Gr} {e:En} {r:Wor × u3 × u6} (su:qG w m v g e) (h:vz w m=some r):
  ((r.1.counts=w.counts∧¬mQ r.2.2)∨∃ (kk:Nat) (r0:List Int) (x:Int),w.counts[m.zg.toNat]?= some r0∧r0[kk]?= some x∧r.1.counts=w.counts.set m.zg.toNat (r0.set kk (IntKind.u64.wrap (x+1)))∧mQ r.2.2∧r.2.2.value=kk)∧
  (r.2.1.done=true->r.2.1.answer.kind=13->(m.op.kind=1->20<=m.pc->m.answer.kind<=5)->m.op.kind=6):=by
 have calm:∀ {hi:Int},wL hi w m r->hi<=12->((r.1.counts=w.counts∧¬mQ r.2.2)∨∃ (kk:Nat) (r0:List Int) (x:Int),w.counts[m.zg.toNat]?= some r0∧r0[kk]?= some x∧r.1.counts=w.counts.set m.zg.toNat (r0.set kk (IntKind.u64.wrap (x+1)))∧mQ r.2.2∧r.2.2.value=kk)∧
   (r.2.1.done=true->r.2.1.answer.kind=13->(m.op.kind=1->20<=m.pc->m.answer.kind<=5)->m.op.kind=6):=fun ⟨c1,c2,c3,c4⟩ hh=>⟨.inl ⟨c1,c4⟩,fun a b _=>by have:=c3 a;omega⟩
 unfold vz at h;rw [su.eX] at h;dsimp only at h;rw [su.eG] at h;dsimp only at h;rw [su.eS] at h;dsimp only at h;rcases q9 h with ⟨k1,h⟩ | ⟨k1,h⟩
 ·rcases JC su.done h with ⟨c1,c2,c3,c4,c5⟩ | ⟨kk,r0,x,a1,a2,a3,a5,a4⟩ | ⟨c1,c2,c4,c3⟩
  ·exact ⟨.inl ⟨c1,c5⟩,fun a=>by rw [c4] at a;cases a⟩
  ·refine ⟨.inr ⟨kk,r0,x,a1,a2,a3,a5.1,a5.2⟩,fun a=>?_⟩;rcases a4 with ⟨_,_,e⟩ | ⟨_,_,p,_,e⟩ <;> (rw [e] at a;exact absurd (su.done.symm.trans a) ar)
  ·refine ⟨.inl ⟨c1,c4⟩,fun a b c=>?_⟩;have:=c k1 aw;rcases c3 with e | e <;> (rw [e] at b;dsimp only at b;omega)
 rcases q9 h with ⟨k2,h⟩ | ⟨_,h⟩
 ·exact calm (IN su.done h) ar
 rcases q9 h with ⟨k2,h⟩ | ⟨_,h⟩
 ·exact calm (KB su.done h) ar
 rcases q9 h with ⟨k2,h⟩ | ⟨_,h⟩
 ·exact calm (JF su.done h) ar
 rcases q9 h with ⟨k2,h⟩ | ⟨_,h⟩
 ·exact calm (IK su.done h) ar
 rcases q9 h with ⟨k2,h⟩ | ⟨_,h⟩
 ·have c:=JG su.done h;exact ⟨.inl ⟨c.1,c.2.2.2⟩,fun _ _ _=>k2⟩
 ·cases h
def Mh {N K:Nat} {w:Wor} {X:List eE} {t:Nat} {x:eE} {o:eK} (gi:GI N K w X) (hx:X[t]?= some x) (ho:x.ops[x.done]?= some o):(yr x t o).op=o:=by
 cases hon:x.on with
 | false=>
  unfold yr Beg.j7;rw [hon,dR ar];split
  ·unfold Beg.kK;repeat' split
   all_goals rfl
  ·rfl
 | true=>
  unfold yr;rw [hon,dU rfl];obtain ⟨os,hl,hti,_⟩:=gi.own;obtain ⟨ow,ho2⟩:∃ o,os[t]?= some o:=⟨_,dQ (by have:=(dP.1 hx).1;omega)⟩;obtain ⟨L,_,_,h | ⟨_,h⟩⟩:=(hti t x ow hx ho2).open_
  ·have:=h.1;rw [hon] at this;cases this
  ·have:=h.at_;rw [ho] at this;exact (gk this).symm
structure SI (s:Wor.fJ):Prop where
 tr:Tr s
 l9:∀ (i k:Nat) (row:List Int) (n:Int),s.1.counts[i]?= some row->row[k]?= some n->n=(s.2.2.countP (Ac i k):Nat)
 rd:∀ (t:Nat) (x:eE),s.2.1[t]?= some x->x.on=true->x.m.op.kind=6->∃ (f:Nat) (e:u6),s.2.2[f]?= some e∧e.jf=true∧e.zg=(t:Int)∧e.op=x.done∧Bd (s.2.2.take f) s.2.2 x.m
 fin:∀ (τ:Nat) (e:u6),s.2.2[τ]?= some e->e.done=true->e.answer.kind=13->∃ (f:Nat) (e0:u6),f<=τ∧s.2.2[f]?= some e0∧e0.jf=true∧e0.zg=e.zg∧e0.op=e.op∧
  ∀ k,k < 6->((s.2.2.take f).countP (isAdd k):Int)<=yS e.answer.counts k∧yS e.answer.counts k<=(s.2.2.take (τ+1)).countP (isAdd k)
def B2 {α:Type} {l:List α} (y:α) {n:Nat} (h:n<=l.length):(l++[y]).take n=l.take n:=by rw [List.take_append_of_le_length h]
def V0 {N K:Nat} {s:Wor.fJ} (gi:GI N K s.1 s.2.1) (si:SI s) (p:Int) (hN:N<=100000000) (hK:K<=1099511627776) (hL:s.2.2.length<=1000000000000):SI (yR s p):=by
 rcases yG gi p hN hK with ⟨_,e⟩ | ⟨t,x,o,r,hat,hx,ho,hsu,htm,hst,_,e,gi2⟩
 ·rw [e];exact si
 ·rw [e];obtain ⟨v,g,en,su⟩:=y8 hsu;have tl:=Dh su.done hst;have nt:=QD o gi hx;have no:=Mh gi hx ho;have eth:r.2.2.zg=(t:Int):=tl.2.2.trans nt;have hl:=(dP.1 hx).1;have gr:=zY.1 gi.st.ji.ground;have wl:s.1.counts.length=s.2.1.length:=gr.counts.1.trans gi.len;obtain ⟨cc,c13⟩:=O3 su hst
  have thr:∀ e ∈ s.2.2,0<=e.zg∧e.zg < (s.1.counts.length:Int):=fun e he=>by
   obtain ⟨t',x',p1,p2,_⟩:=si.tr.th e he;have:=(dP.1 p2).1;omega
  have rdm:(yr x t o).op.kind=6->∃ f,f<=s.2.2.length∧(∃ e:u6,(s.2.2++[w9 r.2.2 x])[f]?= some e∧e.jf=true∧e.zg=(t:Int)∧e.op=x.done)∧Bd (s.2.2.take f) s.2.2 (yr x t o):=fun hk=>by
   cases hon:x.on with
   | true=>
    have en:yr x t o=x.m:=aW
    rw [en] at hk ⊢;obtain ⟨f,e1,p1,p2,p3,p4,p5⟩:=si.rd t x hx hon hk;exact ⟨f,Nat.le_of_lt (dP.1 p1).1,⟨e1,Ca _ p1,p2,p3,p4⟩,p5⟩
   | false=>
    refine ⟨s.2.2.length,gf _,⟨_,KW _ _,by show (!x.on)=true;rw [hon];rfl,eth,rfl⟩,?_⟩;have en:yr x t o=Beg.j7 t o x.given:=aW
    rw [no] at hk;rw [en,Dp aw,gX];intro k hk6
    have rd0:iO ⟨o,t,0,0,0, -1,0,0,0,0,0,0,0,0,0,false,Beg.ky,iu⟩ k=0:=by
     unfold iO;dsimp only;rw [dR aw]
     rfl
    have s0:yS iu k=0:=by
     unfold yS iu;repeat' split
     all_goals rfl
    dsimp only at rd0 ⊢;rw [rd0,VG k fun e he=>(thr e he).1,s0];exact ⟨gy _,gy _⟩
  have stp:∀ f,(yr x t o).op.kind=6->Bd (s.2.2.take f) s.2.2 (yr x t o)->(r.2.1.done=false->Bd (s.2.2.take f) s.2.2 r.2.1)∧(r.2.1.done=true->∀ k,k < 6->((s.2.2.take f).countP (isAdd k):Int)<=yS r.2.1.answer.counts k∧yS r.2.1.answer.counts k<=s.2.2.countP (isAdd k)):=fun f hk b=>by
   have h:=hst;unfold vz at h;rw [su.eX] at h;dsimp only at h;rw [su.eG] at h;dsimp only at h;rw [su.eS] at h;dsimp only at h;rw [dR aw,dR aw,dR aw,dR aw,dR aw,dU hk] at h;exact Uh b (fun p=>(List.take_sublist f s.2.2).countP_le) su.i su.k hL si.l9 h su.done (fun e he=>(thr e he).2) fun e he=>(thr e (pK he)).2
  refine ⟨V6 si.tr hx eth,fun i k row n h1 h2=>?_,fun t' x' h1 h2 h3=>?_,fun τ e1 h1 h2 h3=>?_⟩
  ·dsimp only at h1 h2 ⊢
   have ad:Ac i k (w9 r.2.2 x)=(isAdd k r.2.2 && decide ((t:Int)=i)):=by
    show (isAdd k r.2.2 && (r.2.2.zg == (i:Int)))=_;rw [eth]
    rfl
   rw [pY,rm,ad];rcases cc with ⟨c1,c2⟩ | ⟨kk,r0,x0,a1,a2,a3,a4,a5⟩
   ·rw [c1] at h1;rw [si.l9 i k row n h1 h2,F1 c2];simp
   ·rw [a3,nt,toNat_cast] at h1;rw [nt,toNat_cast] at a1;have ex:=si.l9 t kk r0 x0 a1 a2;have le:s.2.2.countP (Ac t kk)<=s.2.2.length:=sx
    have wr:IntKind.u64.wrap (x0+1)=x0+1:=by
     show (x0+1) % 18446744073709551616=x0+1;omega
    rw [RY a4 a5];rcases xZ h1 with ⟨rfl,rfl,_⟩ | ⟨hne,h1⟩
    ·rcases xZ h2 with ⟨rfl,rfl,_⟩ | ⟨hne,h2⟩
     ·rw [wr,ex];simp
     ·rw [si.l9 t k r0 n a1 h2];have:¬(k=kk):=fun z=>hne z.symm
      simp [this]
    ·rw [si.l9 i k row n h1 h2];have:¬((t:Int)=i):=by omega
     simp [this]
  ·dsimp only at h1 ⊢;by_cases q:t=t'
   ·subst q;have gx:(s.2.1.set t (Wor.jE x r.2.1))[t]?= some (Wor.jE x r.2.1):=dW hl;rw [gx] at h1;cases h1
    have nd:r.2.1.done=false:=by
     cases z:r.2.1.done with
     | false=>rfl
     | true=>rw [Wor.Du z] at h2;cases h2
    rw [DY nd] at h3 ⊢;dsimp only at h3 ⊢;have ho2:(Wor.jE x r.2.1).ops[(Wor.jE x r.2.1).done]?= some o:=by rw [DY nd];exact ho
    have n2:=Mh gi2 gx ho2;have e2:yr (Wor.jE x r.2.1) t o=r.2.1:=by rw [DY nd];rfl
    rw [e2] at n2;have hk:(yr x t o).op.kind=6:=by rw [no,<- n2];exact h3
    obtain ⟨f,f1,⟨e3,q1,q2,q3,q4⟩,q5⟩:=rdm hk;refine ⟨f,e3,q1,q2,q3,q4,?_⟩;rw [B2 _ f1];exact ((stp f hk q5).1 nd).grow _
   ·rw [gZ q] at h1;obtain ⟨f,e3,q1,q2,q3,q4,q5⟩:=si.rd t' x' h1 h2 h3;refine ⟨f,e3,Ca _ q1,q2,q3,q4,?_⟩;rw [B2 _ (Nat.le_of_lt (dP.1 q1).1)];exact q5.grow _
  ·dsimp only at h1 ⊢;rcases D6 h1 with ⟨l1,h1⟩ | ⟨rfl,rfl⟩
   ·obtain ⟨f,e0,q1,q2,q3,q4,q5,q6⟩:=si.fin τ e1 h1 h2 h3;refine ⟨f,e0,q1,Ca _ q2,q3,q4,q5,?_⟩;rw [B2 _ aw,B2 _ aw];exact q6
   ·have dn:r.2.1.done=true:=by rw [<- tl.1];exact h2
    have ea:(w9 r.2.2 x).answer=r.2.1.answer:=tl.2.1 dn;rw [ea] at h3 ⊢;have hk:=c13 dn h3 fun a b=>(Me gi hx a b).2
    obtain ⟨f,f1,⟨e3,q1,q2,q3,q4⟩,q5⟩:=rdm hk;refine ⟨f,e3,f1,q1,q2,q3.trans eth.symm,q4,fun k hk6=>?_⟩;have z:=(stp f hk q5).2 dn k hk6;rw [B2 _ f1,rM (l:=s.2.2++[w9 r.2.2 x]) aj,pY];omega
def ME {N K:Nat} {s:Wor.fJ} (gi:GI N K s.1 s.2.1) (si:SI s) (l:List Int) (h0:s.2.2.length=0):∀ k,k<=l.length->N+k<=100000000->K+k<=1099511627776->SI (fD s l k)∧(fD s l k).2.2.length<=k
 | 0,_,_,_=>⟨si,by show s.2.2.length<=0;omega⟩
 | k+1,hk,hN,hK=>by
  have ih:=ME gi si l h0 k aw aw aw;have g:=Bl gi l k aw aw aw;rw [we (dQ aw)];refine ⟨V0 g ih.1 _ aw aw aw,?_⟩;rcases yG g l[k] aw aw with ⟨_,e⟩ | ⟨t,x,o,r,hat,hx,ho,hsu,htm,hst,_,e,gi2⟩
  ·rw [e];omega
  ·rw [e];dsimp only;rw [gW];have:=ih.2;simp;omega
def Tn {s:Sna} {l:List ec} {n:Int} {w:Wor} (h:ir s l n=(w,0)):w.counts=List.replicate n.toNat [0,0,0,0,0,0]:=by
 unfold ir at h;split at h
 ·have:=pS Prod.snd h;exact absurd (show (1:Int)=0 from this) ar
 ·have hw:_=w:=pS Prod.fst h;rw [<- hw]
def SL {s:eP} (h:(qp s).2=0):SI (fH s):=by
 obtain ⟨_,hn⟩:=jT h;have e:(fH s).1.counts=List.replicate (s.threads.length:Int).toNat [0,0,0,0,0,0]:=Tn hn;refine ⟨Uu _ _,fun i k row n h1 h2=>?_,fun t x h1 h2=>?_,fun τ e1 h1=>by cases h1⟩
 ·rw [e] at h1;rw [gQ (dS h1)] at h2;have:=dS h2;have z:n=0:=by simpa using this
  rw [z]
  rfl
 ·obtain ⟨L,_,rfl⟩:=gK.1 ((dT ..).symm.trans (show (s.threads.map wG)[t]?= some x from h1));cases h2
def SP {s:eP} (ok:kE s) (h:(z7 s).2.2=0) (hf:(Cal.fK (z7 s).1).2=0):∀ c ∈ (Cal.fK (z7 s).1).1,0<=c.fi->c.answer.kind=13->
  0<=c.from_∧c.from_<=c.fi∧c.fi < (z7 s).1.length∧∀ k,k < 6->(((z7 s).1.take c.from_.toNat).countP (isAdd k):Int)<=yS c.answer.counts k∧yS c.answer.counts k<=((z7 s).1.take (c.fi.toNat+1)).countP (isAdd k):=by
 have hb:=AS h;have e1:z7 s=((xe s).2.2,(xe s).1,0):=by unfold z7;rw [dU hb]
 obtain ⟨q,_⟩:=jT hb;obtain ⟨_,_,_,p4,_,_⟩:=xI q;have si:=(ME (AU ok hb) (SL hb) s.zS rfl s.zS.length (gf _) aw aw).1;have si:SI (xe s):=si;rw [e1] at hf ⊢;dsimp only at hf ⊢;intro c hc hto hk;unfold Cal.fK at hf hc;cases hbk:Cal.yy (xe s).2.2 (xe s).2.2.length with
 | none=>rw [hbk] at hf;cases hf
 | some b=>
  rw [hbk] at hc;dsimp only at hc;obtain ⟨⟨f0,ef,l1,l2,l3,l4⟩,lt⟩:=Cal.L9 _ hbk c hc;obtain ⟨et,t1,t2,t3,t4,t5⟩:=lt hto;have tl:=(dP.1 t1).1;obtain ⟨f,e0,q1,q2,q3,q4,q5,q6⟩:=si.fin _ et t1 t2 (by rw [t5];exact hk);have:=si.tr.uniq _ _ ef e0 l1 q2 l2 q3 (by rw [q4,l3,t3]) (by rw [q5,l4,t4]);subst this;rw [t5] at q6;have ck:=(Cal.Cb _ hbk).1 c hc;exact ⟨f0,by have:=ck.Np;omega,aw,q6⟩
abbrev X6 (f:Nat->Int):List C:=[U (f 0),U (f 1),U (f 2),U (f 3),U (f 4),U (f 5)]
def fy (l:List u6) (n:Nat) (v:Nat):Int:=(((l.take n).countP (isAdd v):Nat):Int)
def Gy {l:List u6} {n:Nat} (v:Nat) (h:n < l.length):fy l (n+1) v=fy l n v+(if isAdd v l[n]=true then 1 else 0):=by
 unfold fy;rw [gR h,pY,rm];split <;> rfl
def Wt (l:List u6) (n v:Nat):0<=fy l n v∧fy l n v<=l.length:=by
 unfold fy;have h1:(l.take n).countP (isAdd v)<=(l.take n).length:=sx;have h2:(l.take n).length<=l.length:=aA
 omega
def stats_sound (s:eP) (hs:s.ma):to 5 [] [.agg (qi s)] (Bo true) []:=by
 have m1:(s.zS.map Go.Hy.encI).length=s.zS.length:=dV ..;refine ab func5 ?_;refine ah (Fk s (Ed hs)) ?_;refine ⟨fun h0=>?_,fun h0=>?_⟩
 ·refine dd ?_;refine td ?_
  exact uI
 have ok:=G0 h0 hs;refine dd ?_;rw [m1];refine ⟨fun h1=>?_,fun h1=>?_⟩
 ·refine dd ?_;refine td ?_
  exact uI
 refine dd ?_;have bl:=Gb ok;refine ah (vH s ok) ?_;refine ah (Cal.Dy (z7 s).1 aw) ?_;have key:=SP ok;have l9:=E7 (l:=(z7 s).1);generalize z7 s=p at *;obtain ⟨l,w,e⟩:=p;dsimp only at *;generalize Cal.fK l=oc at *;obtain ⟨cs,f⟩:=oc;dsimp only at *;have ml:(l.map zP).length=l.length:=dV ..;have mc:(cs.map jA).length=cs.length:=dV ..;refine ⟨fun h3=>?_,fun h3=>?_⟩
 ·refine dd ?_;refine td ?_
  exact c7
 have e0:e=0:=aq h3
 subst e0;refine dd ?_;refine ⟨fun h4=>?_,fun h4=>?_⟩
 ·refine dd ?_;refine td ?_
  exact c7
 have f0:f=0:=aq h4
 subst f0;refine dd ?_;obtain ⟨n1,n2⟩:=l9 rfl;have key:=key rfl rfl;refine zW.seq cs.length (fun k=>(.agg (qi s):: .ref 0 [] 5 0 0::Bo false::fZ l:: .za::.za::oB cs:: .za::I k:: .za::.za::.za::.za::hZ (hZ (hZ (hZ (hZ (hZ (hZ (hZ (hZ (hZ (hZ (hZ (hZ (hZ (hZ (hZ (hZ ([]))))))))))))))))))) (fun k=>[⟨1,30,5,[qi s],0⟩]) (fun k=>True) ?_ trivial (fun k hk hr=>?_) (fun hr=>?_)
 ·exact cE 1
 ·obtain ⟨c,hx⟩:∃ c,c=cs[k]:=⟨_,rfl⟩;have hg:(cs.map jA)[k]?= some (jA c):=by rw [dT,dQ hk,hx];rfl
  have kc:=key c tE;obtain ⟨c1,c2,c3,c4,c5,⟨ak,a2,a3,a4,a5,a6,a7,⟨x0,x1,x2,x3,x4,x5⟩⟩⟩:=c;conv=>whnf
  rw [mc];refine uF ?_;(refine tf hg ?_)
  refine ⟨fun h5=>?_,fun h5=>?_⟩
  ·refine dd ?_;refine td ?_
   refine .inl ⟨rfl,?_,trivial⟩;exact dg
  have h0:0<=c5:=aq h5
  refine dd ?_;(refine tf hg ?_)
  refine ⟨fun h6=>?_,fun h6=>?_⟩
  ·refine dd ?_;refine td ?_
   refine .inl ⟨rfl,?_,trivial⟩;exact dg
  have h13:ak=13:=aq h6
  subst h13;obtain ⟨p1,p2,p3,p4⟩:=kc h0 rfl;(try dsimp only at p1 p2 p3 p4)
  obtain ⟨F,rfl⟩:∃ F:Nat,c3=F:=⟨c3.toNat,aw⟩;obtain ⟨G,rfl⟩:∃ G:Nat,c5=G:=⟨c5.toNat,aw⟩;rw [toNat_cast,toNat_cast] at p4;refine dd ?_;refine zW.seq (G+1) (fun j=>(.agg (qi s):: .ref 0 [] 5 0 0::Bo false::fZ l:: .za::.za::oB cs:: .za::I k:: .ref 1 [] 6 0 0:: .ref 2 [] 6 0 0::I j:: .za::hZ (hZ (hZ (hZ (hZ (hZ (hZ (hZ (hZ (hZ (hZ (hZ (hZ (hZ (hZ (hZ (hZ ([]))))))))))))))))))) (fun j=>[⟨1,30,5,[qi s],0⟩,⟨1,44,6,[X6 (fy l (min j F))],0⟩,⟨1,44,6,[X6 (fy l j)],0⟩]) (fun j=>True) ?_ trivial (fun j hj hr2=>?_) (fun hr2=>?_)
  ·exact cE 3
  ·have hjl:j < l.length:=by omega
   obtain ⟨e,he⟩:∃ e,e=l[j]:=⟨_,rfl⟩;have hge:(l.map zP)[j]?= some (zP e):=by rw [dT,dQ hjl,he];rfl
   have adt:=fun v=>Gy v hjl
   rw [<- he] at adt
   have quiet:(∀ v,v < 6->isAdd v e=false)->X6 (fy l (j+1))=X6 (fy l j)∧X6 (fy l (min (j+1) F))=X6 (fy l (min j F)):=fun q=>by
    have z:∀ v,v < 6->fy l (j+1) v=fy l j v:=fun v hv=>by rw [adt v,q v hv];simp
    have z2:∀ v,v < 6->fy l (min (j+1) F) v=fy l (min j F) v:=fun v hv=>by
     by_cases y:j < F
     ·rw [show min (j+1) F=j+1 by omega,show min j F=j by omega];exact z v hv
     ·rw [show min (j+1) F=F by omega,show min j F=F by omega]
    unfold X6;rw [z 0 ar,z 1 ar,z 2 ar,z 3 ar,z 4 ar,z 5 ar,z2 0 ar,z2 1 ar,z2 2 ar,z2 3 ar,z2 4 ar,z2 5 ar];exact dJ
   obtain ⟨e1,e2,e3,e4,e5,e6,e7,e8,e9,e10,e11⟩:=e;conv=>whnf
   (refine tf hg ?_)
   refine ⟨fun _=>dd ?_,fun h=>absurd h aA⟩;(refine tf hge ?_)
   (refine tf hge ?_)
   refine ⟨fun q1=>?_,fun q1=>?_⟩
   ·have q1:e4≠10:=by simpa using q1
    have qq:=quiet fun v hv=>F1 fun z=>q1 z.1
    refine dd ?_;refine td ?_;(refine .inl ⟨rfl,?_,trivial⟩);(rw [zu aw,qq.1,qq.2]);exact cE 3
   have c10:e4=10:=aq q1
   refine dd ?_;(refine tf hge ?_)
   refine ⟨fun q2=>?_,fun q2=>?_⟩
   ·have q2:e3≠3:=by simpa using q2
    have qq:=quiet fun v hv=>F1 fun z=>q2 z.2
    refine dd ?_;refine td ?_;(refine .inl ⟨rfl,?_,trivial⟩);(rw [zu aw,qq.1,qq.2]);exact cE 3
   have c3:e3=3:=aq q2
   refine dd ?_;refine ⟨fun q3=>?_,fun q3=>?_⟩
   ·have q3:e7 < 0:=by simpa using q3
    have qq:=quiet fun v hv=>by unfold isAdd;simp;omega
    refine dd ?_;refine td ?_;(refine .inl ⟨rfl,?_,trivial⟩);(rw [zu aw,qq.1,qq.2]);exact cE 3
   have q3:0<=e7:=aq q3
   refine dd ?_;refine ⟨fun q4=>?_,fun q4=>?_⟩
   ·have q4:5 < e7:=by simpa using q4
    have qq:=quiet fun v hv=>by unfold isAdd;simp;omega
    refine dd ?_;refine td ?_;(refine .inl ⟨rfl,?_,trivial⟩);(rw [zu aw,qq.1,qq.2]);exact cE 3
   have q4:e7<=5:=aq q4
   subst c10;subst c3;obtain q | q | q | q | q | q:e7=0∨e7=1∨e7=2∨e7=3∨e7=4∨e7=5:=aw
   all_goals
    subst q
    have up:∀ v,isAdd v l[j]=true->IntKind.u64.wrap (fy l j v+1)=fy l (j+1) v:=fun v z=>by
     have y:=Wt l j v;rw [Gy v hjl,z,dU rfl];show (fy l j v+1) % 18446744073709551616=fy l j v+1;omega
    have at_:∀ v,isAdd v l[j]=false->fy l j v=fy l (j+1) v:=fun v z=>by
     rw [Gy v hjl,z,dR ar];omega
    rw [<- he] at up at_;refine dd ?_;(refine ⟨gd au,gd au,dd ?_⟩)
    (refine ⟨gd au,gd au,dd ?_⟩)
    (refine tf hg ?_)
    refine ⟨fun q5=>?_,fun q5=>?_⟩
    ·have q5:j < F:=by simp at q5;omega
     refine dd ?_;(refine ⟨gd au,gd au,dd ?_⟩)
     (refine ⟨gd au,gd au,dd ?_⟩)
     refine .inl ⟨rfl,?_,trivial⟩;rw [zu aw,show min j F=j by omega,show min (j+1) F=j+1 by omega];(first | rw [up 0 rfl] | rw [at_ 0 rfl]);(first | rw [up 1 rfl] | rw [at_ 1 rfl]);(first | rw [up 2 rfl] | rw [at_ 2 rfl]);(first | rw [up 3 rfl] | rw [at_ 3 rfl]);(first | rw [up 4 rfl] | rw [at_ 4 rfl]);(first | rw [up 5 rfl] | rw [at_ 5 rfl])
     exact cE 3
    ·have q5:¬j < F:=by simp at q5;omega
     refine dd ?_;refine .inl ⟨rfl,?_,trivial⟩;rw [zu aw,show min j F=F by omega,show min (j+1) F=F by omega];(first | rw [up 0 rfl] | rw [at_ 0 rfl]);(first | rw [up 1 rfl] | rw [at_ 1 rfl]);(first | rw [up 2 rfl] | rw [at_ 2 rfl]);(first | rw [up 3 rfl] | rw [at_ 3 rfl]);(first | rw [up 4 rfl] | rw [at_ 4 rfl]);(first | rw [up 5 rfl] | rw [at_ 5 rfl])
     exact cE 3
  ·have z:∀ v,v < 6->fy l F v<=yS ⟨x0,x1,x2,x3,x4,x5⟩ v∧yS ⟨x0,x1,x2,x3,x4,x5⟩ v<=fy l (G+1) v:=p4;have z0:fy l F 0<=x0∧x0<=fy l (G+1) 0:=z 0 ar;have z1:fy l F 1<=x1∧x1<=fy l (G+1) 1:=z 1 ar;have z2:fy l F 2<=x2∧x2<=fy l (G+1) 2:=z 2 ar;have z3:fy l F 3<=x3∧x3<=fy l (G+1) 3:=z 3 ar;have z4:fy l F 4<=x4∧x4<=fy l (G+1) 4:=z 4 ar;have z5:fy l F 5<=x5∧x5<=fy l (G+1) 5:=z 5 ar;rw [show min (G+1) F=F by omega];conv=>whnf
   (refine tf hg ?_)
   refine ⟨fun h=>absurd h aA,fun _=>dd ?_⟩;refine ⟨aj,uH ?_⟩;refine nn.AM 7 (LoopN.step ?_);conv=>whnf
   refine td ?_;refine uE ?_;(refine tf hg ?_);(refine ⟨gd au,gd au,dd ?_⟩);(refine ⟨gd au,gd au,dd ?_⟩);(refine ⟨fun h=>absurd h aA,fun _=>dd ?_⟩);(refine tf hg ?_);(refine ⟨gd au,gd au,dd ?_⟩);(refine ⟨gd au,gd au,dd ?_⟩);(refine ⟨fun h=>absurd h aA,fun _=>dd ?_⟩)
   (refine .inl ⟨rfl,LoopN.step (uH ?_)⟩);refine td ?_;refine uE ?_;(refine tf hg ?_);(refine ⟨gd au,gd au,dd ?_⟩);(refine ⟨gd au,gd au,dd ?_⟩);(refine ⟨fun h=>absurd h aA,fun _=>dd ?_⟩);(refine tf hg ?_);(refine ⟨gd au,gd au,dd ?_⟩);(refine ⟨gd au,gd au,dd ?_⟩);(refine ⟨fun h=>absurd h aA,fun _=>dd ?_⟩)
   (refine .inl ⟨rfl,LoopN.step (uH ?_)⟩);refine td ?_;refine uE ?_;(refine tf hg ?_);(refine ⟨gd au,gd au,dd ?_⟩);(refine ⟨gd au,gd au,dd ?_⟩);(refine ⟨fun h=>absurd h aA,fun _=>dd ?_⟩);(refine tf hg ?_);(refine ⟨gd au,gd au,dd ?_⟩);(refine ⟨gd au,gd au,dd ?_⟩);(refine ⟨fun h=>absurd h aA,fun _=>dd ?_⟩)
   (refine .inl ⟨rfl,LoopN.step (uH ?_)⟩);refine td ?_;refine uE ?_;(refine tf hg ?_);(refine ⟨gd au,gd au,dd ?_⟩);(refine ⟨gd au,gd au,dd ?_⟩);(refine ⟨fun h=>absurd h aA,fun _=>dd ?_⟩);(refine tf hg ?_);(refine ⟨gd au,gd au,dd ?_⟩);(refine ⟨gd au,gd au,dd ?_⟩);(refine ⟨fun h=>absurd h aA,fun _=>dd ?_⟩)
   (refine .inl ⟨rfl,LoopN.step (uH ?_)⟩);refine td ?_;refine uE ?_;(refine tf hg ?_);(refine ⟨gd au,gd au,dd ?_⟩);(refine ⟨gd au,gd au,dd ?_⟩);(refine ⟨fun h=>absurd h aA,fun _=>dd ?_⟩);(refine tf hg ?_);(refine ⟨gd au,gd au,dd ?_⟩);(refine ⟨gd au,gd au,dd ?_⟩);(refine ⟨fun h=>absurd h aA,fun _=>dd ?_⟩)
   (refine .inl ⟨rfl,LoopN.step (uH ?_)⟩);refine td ?_;refine uE ?_;(refine tf hg ?_);(refine ⟨gd au,gd au,dd ?_⟩);(refine ⟨gd au,gd au,dd ?_⟩);(refine ⟨fun h=>absurd h aA,fun _=>dd ?_⟩);(refine tf hg ?_);(refine ⟨gd au,gd au,dd ?_⟩);(refine ⟨gd au,gd au,dd ?_⟩);(refine ⟨fun h=>absurd h aA,fun _=>dd ?_⟩)
   refine .inl ⟨rfl,LoopN.step (uH ?_)⟩;refine td ?_
   refine .inr ⟨aj,uH ?_⟩;refine .inl ⟨rfl,?_,trivial⟩;exact dg
 ·conv=>whnf
  rw [mc];refine ⟨fun h=>absurd h aj,fun _=>dd ?_⟩;refine ⟨aj,uH ?_⟩;exact c7
end Go.Run
