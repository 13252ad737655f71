import Derived.Test.YtgmkpdmnlhoffaaGreatR1
set_option linter.all false
set_option maxRecDepth 100000
set_option maxHeartbeats 4000000
namespace Go.Wor
open Go.Ab Go.Proofs Go.Hy Go.Gat Go.Nam Go.Hos Go.Con Go.Sna
inductive Key
 | slot (i j k s:Int)
 | act (i j k:Int)
 | lis (i:Int)
 | ver (i:Int)
 | lock
def ph (m:Mac):Nat:=
 if m.done=true then (if m.op.kind=1∧m.answer.kind=1 then 3 else 0)
 else if m.op.kind=1 then (if 5<=m.pc∧m.pc<=11 then 1 else if m.pc=12 then 2 else if 20<=m.pc then (if m.answer.kind=1 then 3 else if m.pc<=22∧0<=m.listen then 1 else 0) else 0)
 else if m.op.kind=2 then (if m.pc<=2 then 3 else if m.pc=3 then 4 else if m.pc=4 then 1 else 0)
 else if m.op.kind=3 then (if 1<=m.pc then 5 else 0)
 else if m.op.kind=5 then (if 1<=m.pc then 6 else 0)
 else 0
def qa (p:Nat) (i j k s l:Int):Key->Nat
 | .slot i' j' k' s'=>if (p=2∨p=3)∧i=i'∧j=j'∧k=k'∧s=s' then 1 else 0
 | .act i' j' k'=>if (p=3∨p=4)∧i=i'∧j=j'∧k=k' then 1 else 0
 | .lis l'=>if (1<=p∧p<=4)∧l=l' then 1 else 0
 | .ver i'=>if p=5∧i=i' then 1 else 0
 | .lock=>if p=6 then 1 else 0
def jM (m:Mac):Key->Nat:=qa (ph m) m.version m.zf m.end_ m.slot m.listen
def zbI (a:Ans):Key->Nat:=qa 3 a.version a.zf a.end_ a.slot a.listen
theorem jg {m:Mac} {p:Nat} (h:ph m=p):jM m=qa p m.version m.zf m.end_ m.slot m.listen:=by unfold jM;rw [h]
theorem vL (i j k s l:Int) (x:Key):qa 0 i j k s l x=0:=by cases x <;> simp [qa]
theorem ztb (i j k s l i' j' k' s':Int):qa 1 i j k s l=qa 1 i' j' k' s' l:=by funext x;cases x <;> simp [qa]
theorem ztc (i j k s l j' k' s' l':Int):qa 5 i j k s l=qa 5 i j' k' s' l':=by funext x;cases x <;> simp [qa]
theorem ztd (i j k s l i' j' k' s' l':Int):qa 6 i j k s l=qa 6 i' j' k' s' l':=by funext x;cases x <;> simp [qa]
theorem ph1 {m:Mac} {n:Nat} (hd:m.done=false) (hk:m.op.kind=1) (h:(if 5<=m.pc∧m.pc<=11 then 1 else if m.pc=12 then 2 else if 20<=m.pc then (if m.answer.kind=1 then 3 else if m.pc<=22∧0<=m.listen then 1 else 0) else 0)=n):ph m=n:=by
 unfold ph;rw [if_neg (by simp [hd]),if_pos hk];exact h
theorem ph2 {m:Mac} {n:Nat} (hd:m.done=false) (hk:m.op.kind=2) (h:(if m.pc<=2 then 3 else if m.pc=3 then 4 else if m.pc=4 then 1 else 0)=n):ph m=n:=by
 unfold ph;rw [if_neg (by simp [hd]),if_neg (by omega),if_pos hk];exact h
theorem ph3 {m:Mac} {n:Nat} (hd:m.done=false) (hk:m.op.kind=3) (h:(if 1<=m.pc then 5 else 0)=n):ph m=n:=by
 unfold ph;rw [if_neg (by simp [hd]),if_neg (by omega),if_neg (by omega),if_pos hk];exact h
theorem ph5 {m:Mac} {n:Nat} (hd:m.done=false) (hk:m.op.kind=5) (h:(if 1<=m.pc then 6 else 0)=n):ph m=n:=by
 unfold ph;rw [if_neg (by simp [hd]),if_neg (by omega),if_neg (by omega),if_neg (by omega),if_pos hk];exact h
theorem zde {m:Mac} (hd:m.done=false) (h1:m.op.kind≠1) (h2:m.op.kind≠2) (h3:m.op.kind≠3) (h5:m.op.kind≠5):ph m=0:=by
 unfold ph;rw [if_neg (by simp [hd]),if_neg h1,if_neg h2,if_neg h3,if_neg h5]
theorem yk {m:Mac} (hd:m.done=true) (h:¬(m.op.kind=1∧m.answer.kind=1)):ph m=0:=by
 unfold ph;rw [if_pos hd,if_neg h]
theorem zhI {m:Mac} (hd:m.done=true) (hk:m.op.kind=1) (h:m.answer.kind=1):ph m=3:=by
 unfold ph;rw [if_pos hd,if_pos ⟨hk,h⟩]
def wg (w:Wor) (i j k:Int):Option En:=if 0<=i∧0<=j∧0<=k then kz w i j k else none
def slE (e:En) (s:Int):Nat:=if 0<=s∧s < e.next.length∧s ∉ (Slp.qt e).1 then 1 else 0
def Has (w:Wor):Key->Nat
 | .slot i j k s=>match wg w i j k with
  | some e=>slE e s
  | none=>0
 | .act i j k=>match wg w i j k with
  | some e=>e.zg.toNat
  | none=>0
 | .lis i=>if 0<=i then (match w.zd[i.toNat]? with
  | some l=>l.zg.toNat
  | none=>0) else 0
 | .ver i=>if 0<=i∧i < w.ze.length∧i≠w.current∧∀ r ∈ w.zt,r.version≠i then 1 else 0
 | .lock=>w.lock.toNat
def Mv (w w':Wor) (a b:Key->Nat):Prop:=∀ x,Has w' x+a x=Has w x+b x
theorem zmX {w:Wor} {m:Mac} {v:Ver} {g:Gr} {e:En} (hat:AtE w m v g e):wg w m.version m.zf m.end_=some e:=by
 unfold wg;rw [if_pos ⟨hat.v0,hat.g0,hat.e0⟩];exact zfF hat
theorem zhl {w:Wor} {m:Mac} {v:Ver} {g:Gr} {e:En} (hat:AtE w m v g e) (e':En) (tk i j k:Int):wg (tEW w m v g e' tk) i j k=if i=m.version∧j=m.zf∧k=m.end_ then some e' else wg w i j k:=by
 have p1:=hat.v0;have p2:=hat.g0;have p3:=hat.e0;unfold wg;rw [zca hat];by_cases h:0<=i∧0<=j∧0<=k
 ·rw [if_pos h,if_pos h];by_cases q:i=m.version∧j=m.zf∧k=m.end_
  ·rw [if_pos q,if_pos (by rw [q.1,q.2.1,q.2.2];exact ⟨rfl,rfl,rfl⟩)]
  ·rw [if_neg q,if_neg (fun z=>q (by omega))]
 ·rw [if_neg h,if_neg h,if_neg (fun z=>h (by omega))]
theorem zfG {w w':Wor} (h:w'.ze=w.ze) (i j k:Int):wg w' i j k=wg w i j k:=by unfold wg kz;rw [h]
theorem qg (w:Wor) {a b:Key->Nat} (h:a=b):Mv w w a b:=fun x=>by rw [h]
theorem wK {w w':Wor} {a b:Key->Nat} (h1:w'.ze=w.ze) (h2:w'.zd=w.zd) (h3:w'.zt=w.zt) (h4:w'.current=w.current) (h5:w'.lock=w.lock) (h:a=b):Mv w w' a b:=fun x=>by
 rw [h];cases x with
 | slot i j k s=>simp only [Has,zfG h1]
 | act i j k=>simp only [Has,zfG h1]
 | lis i=>simp only [Has,h2]
 | ver i=>simp only [Has,h1,h3,h4]
 | lock=>simp only [Has,h5]
section
variable {w:Wor} {m:Mac} {v:Ver} {g:Gr} {e e':En} {tk:Int}
theorem zpU (hat:AtE w m v g e) (e':En) (tk:Int) (x:Key):Has (tEW w m v g e' tk) x=match x with
  | .slot i j k s=>if i=m.version∧j=m.zf∧k=m.end_ then slE e' s else Has w x
  | .act i j k=>if i=m.version∧j=m.zf∧k=m.end_ then e'.zg.toNat else Has w x
  | x=>Has w x:=by
 cases x with
 | slot i j k s=>
  simp only [Has,zhl hat];by_cases q:i=m.version∧j=m.zf∧k=m.end_
  ·rw [if_pos q,if_pos q]
  ·rw [if_neg q,if_neg q]
 | act i j k=>
  simp only [Has,zhl hat];by_cases q:i=m.version∧j=m.zf∧k=m.end_
  ·rw [if_pos q,if_pos q]
  ·rw [if_neg q,if_neg q]
 | lis i=>rfl
 | ver i=>simp only [Has,tEW,List.length_set]
 | lock=>rfl
theorem zfQ (hat:AtE w m v g e) (s:Int):Has w (.slot m.version m.zf m.end_ s)=slE e s:=by simp only [Has,zmX hat]
theorem zm1 (hat:AtE w m v g e):Has w (.act m.version m.zf m.end_)=e.zg.toNat:=by simp only [Has,zmX hat]
theorem zc8 (hat:AtE w m v g e) {a b:Key->Nat} (hs:∀ s,slE e' s+a (.slot m.version m.zf m.end_ s)=slE e s+b (.slot m.version m.zf m.end_ s)) (ha:e'.zg.toNat+a (.act m.version m.zf m.end_)=e.zg.toNat+b (.act m.version m.zf m.end_))
  (h:∀ x,(∀ s,x≠.slot m.version m.zf m.end_ s)->x≠.act m.version m.zf m.end_->a x=b x):Mv w (tEW w m v g e' tk) a b:=fun x=>by
 rw [zpU hat];cases x with
 | slot i j k s=>
  dsimp only;by_cases q:i=m.version∧j=m.zf∧k=m.end_
  ·rw [if_pos q];obtain ⟨rfl,rfl,rfl⟩:=q;rw [zfQ hat];exact hs s
  ·rw [if_neg q,h (.slot i j k s) (fun s' z=>q (by cases z;exact ⟨rfl,rfl,rfl⟩)) (fun z=>nomatch z)]
 | act i j k=>
  dsimp only;by_cases q:i=m.version∧j=m.zf∧k=m.end_
  ·rw [if_pos q];obtain ⟨rfl,rfl,rfl⟩:=q;rw [zm1 hat];exact ha
  ·rw [if_neg q,h (.act i j k) (fun s' z=>nomatch z) (fun z=>q (by cases z;exact ⟨rfl,rfl,rfl⟩))]
 | lis i=>dsimp only;rw [h (.lis i) (fun s' z=>nomatch z) (fun z=>nomatch z)]
 | ver i=>dsimp only;rw [h (.ver i) (fun s' z=>nomatch z) (fun z=>nomatch z)]
 | lock=>dsimp only;rw [h (.lock) (fun s' z=>nomatch z) (fun z=>nomatch z)]
theorem zm8 (hat:AtE w m v g e) (hl:e'.next.length=e.next.length) (hf:(Slp.qt e').1=(Slp.qt e).1) (ha:e'.zg=e.zg) {a b:Key->Nat} (h:a=b):Mv w (tEW w m v g e' tk) a b:=
 zc8 hat (fun s=>by rw [h];unfold slE;rw [hl,hf]) (by rw [h,ha]) fun x _ _=>by rw [h]
theorem zs1 (hat:AtE w m v g e) (hl:e'.next.length=e.next.length) {s:Int} (h0:0<=s) (h1:s < e.next.length) (hf:(Slp.qt e).1=s::(Slp.qt e').1) (hn:s ∉ (Slp.qt e').1) (ha:e'.zg=e.zg) (l:Int):Mv w (tEW w m v g e' tk) (qa 1 m.version m.zf m.end_ s l) (qa 2 m.version m.zf m.end_ s l):=by
 refine zc8 hat (fun t=>?_) (by simp [qa,ha]) fun x q1 q2=>?_
 ·unfold slE;rw [hl,hf];simp only [qa,List.mem_cons,true_and];by_cases q:s=t
  ·subst q;simp [h0,h1,hn]
  ·have q':¬t=s:=fun z=>q z.symm
   simp [q,q']
 ·cases x with
  | slot i j k t=>
   simp only [qa];rw [if_neg (by simp),if_neg (fun z=>q1 t (by rw [z.2.1,z.2.2.1,z.2.2.2.1]))]
  | act i j k=>simp [qa]
  | lis i=>simp [qa]
  | ver i=>simp [qa]
  | lock=>simp [qa]
theorem zrG (hat:AtE w m v g e) (hl:e'.next.length=e.next.length) {s:Int} (h0:0<=s) (h1:s < e.next.length) (hf:(Slp.qt e').1=s::(Slp.qt e).1) (hn:s ∉ (Slp.qt e).1) (ha:e'.zg=e.zg) (l:Int):Mv w (tEW w m v g e' tk) (qa 3 m.version m.zf m.end_ s l) (qa 4 m.version m.zf m.end_ s l):=by
 refine zc8 hat (fun t=>?_) (by simp [qa,ha]) fun x q1 q2=>?_
 ·unfold slE;rw [hl,hf];simp only [qa,List.mem_cons,true_and];by_cases q:s=t
  ·subst q;simp [h0,h1,hn]
  ·have q':¬t=s:=fun z=>q z.symm
   simp [q,q']
 ·cases x with
  | slot i j k t=>
   simp only [qa];rw [if_neg (fun z=>q1 t (by rw [z.2.1,z.2.2.1,z.2.2.2.1])),if_neg (by simp)]
  | act i j k=>simp [qa]
  | lis i=>simp [qa]
  | ver i=>simp [qa]
  | lock=>simp [qa]
theorem zrF (hat:AtE w m v g e) (hl:e'.next.length=e.next.length) (hf:(Slp.qt e').1=(Slp.qt e).1) (h0:0<=e.zg) (ha:e'.zg=e.zg+1) (s l:Int):Mv w (tEW w m v g e' tk) (qa 2 m.version m.zf m.end_ s l) (qa 3 m.version m.zf m.end_ s l):=by
 refine zc8 hat (fun t=>by unfold slE;rw [hl,hf];simp [qa]) (by simp [qa,ha];omega) fun x q1 q2=>?_
 cases x with
 | slot i j k t=>simp [qa]
 | act i j k=>
  simp only [qa];rw [if_neg (by simp),if_neg (fun z=>q2 (by rw [z.2.1,z.2.2.1,z.2.2.2]))]
 | lis i=>simp [qa]
 | ver i=>simp [qa]
 | lock=>simp [qa]
theorem zrD (hat:AtE w m v g e) (hl:e'.next.length=e.next.length) (hf:(Slp.qt e').1=(Slp.qt e).1) (h0:1<=e.zg) (ha:e'.zg=e.zg - 1) (s l:Int):Mv w (tEW w m v g e' tk) (qa 4 m.version m.zf m.end_ s l) (qa 1 m.version m.zf m.end_ s l):=by
 refine zc8 hat (fun t=>by unfold slE;rw [hl,hf];simp [qa]) (by simp [qa,ha];omega) fun x q1 q2=>?_
 cases x with
 | slot i j k t=>simp [qa]
 | act i j k=>
  simp only [qa];rw [if_neg (fun z=>q2 (by rw [z.2.1,z.2.2.1,z.2.2.2])),if_neg (by simp)]
 | lis i=>simp [qa]
 | ver i=>simp [qa]
 | lock=>simp [qa]
end
theorem zlX {w:Wor} {i:Int} {x y:Lis} (hi:0<=i) (hx:w.zd[i.toNat]?= some x) {a b:Key->Nat} (h0:y.zg.toNat+a (.lis i)=x.zg.toNat+b (.lis i)) (h:∀ k,k≠.lis i->a k=b k):Mv w { w with zd:=w.zd.set i.toNat y } a b:=fun k=>by
 cases k with
 | lis n=>
  by_cases q:n=i
  ·subst q;simp only [Has];rw [if_pos hi,if_pos hi,List.getElem?_set_self (List.getElem?_eq_some_iff.1 hx).1,hx];exact h0
  ·rw [h (.lis n) (fun z=>q (by cases z;rfl))];simp only [Has];by_cases n0:0<=n
   ·rw [if_pos n0,if_pos n0,List.getElem?_set_ne (by omega)]
   ·rw [if_neg n0,if_neg n0]
 | slot a' b' c s=>rw [h (.slot a' b' c s) (fun z=>nomatch z)];rfl
 | act a' b' c=>rw [h (.act a' b' c) (fun z=>nomatch z)];rfl
 | ver n=>rw [h (.ver n) (fun z=>nomatch z)];rfl
 | lock=>rw [h .lock (fun z=>nomatch z)];rfl
theorem zp9 {w:Wor} {i:Int} {x y:Lis} (hi:0<=i) (hx:w.zd[i.toNat]?= some x) (h0:0<=x.zg) (hy:y.zg=x.zg+1) (a b c d a' b' c' d' l:Int):Mv w { w with zd:=w.zd.set i.toNat y } (qa 0 a b c d l) (qa 1 a' b' c' d' i):=by
 refine zlX hi hx (by simp [qa];omega) fun k q=>?_
 cases k with
 | lis n=>simp only [qa];rw [if_neg (by simp),if_neg (fun z=>q (by rw [z.2]))]
 | slot a' b' c s=>simp [qa]
 | act a' b' c=>simp [qa]
 | ver n=>simp [qa]
 | lock=>simp [qa]
theorem zjU {w:Wor} {i:Int} {x y:Lis} (hi:0<=i) (hx:w.zd[i.toNat]?= some x) (h0:1<=x.zg) (hy:y.zg=x.zg - 1) (a b c d a' b' c' d' l:Int):Mv w { w with zd:=w.zd.set i.toNat y } (qa 1 a b c d i) (qa 0 a' b' c' d' l):=by
 refine zlX hi hx (by simp [qa];omega) fun k q=>?_
 cases k with
 | lis n=>simp only [qa];rw [if_neg (fun z=>q (by rw [z.2])),if_neg (by simp)]
 | slot a' b' c s=>simp [qa]
 | act a' b' c=>simp [qa]
 | ver n=>simp [qa]
 | lock=>simp [qa]
theorem zf7 {w:Wor} {i:Int} {x y:Lis} (hi:0<=i) (hx:w.zd[i.toNat]?= some x) (hy:y.zg=x.zg) {a b:Key->Nat} (h:a=b):Mv w { w with zd:=w.zd.set i.toNat y } a b:=
 zlX hi hx (by rw [h,hy]) fun _ _=>by rw [h]
theorem vC {m m':Mac} (h:ph m=0) (h':ph m'=0):jM m=jM m':=by
 funext x
 rw [jg h,jg h',vL,vL]
theorem kI {m m':Mac} (h:ph m=1) (h':ph m'=1) (hl:m'.listen=m.listen):jM m=jM m':=by
 rw [jg h,jg h',hl];exact ztb ..
theorem zhH {p:Nat} {m m':Mac} (h:ph m=p) (h':ph m'=p) (h1:m'.version=m.version) (h2:m'.zf=m.zf) (h3:m'.end_=m.end_) (h4:m'.slot=m.slot) (h5:m'.listen=m.listen):jM m=jM m':=by
 rw [jg h,jg h',h1,h2,h3,h4,h5]
theorem ztW {m m':Mac} (h:ph m=5) (h':ph m'=5) (hl:m'.version=m.version):jM m=jM m':=by
 rw [jg h,jg h',hl];exact ztc ..
theorem vD {m m':Mac} (h:ph m=6) (h':ph m'=6):jM m=jM m':=by
 rw [jg h,jg h'];exact ztd ..
theorem za4 {w w':Wor} {m m':Mac} {p p':Nat} (h:ph m=p) (h':ph m'=p') (x:Mv w w' (qa p m.version m.zf m.end_ m.slot m.listen) (qa p' m'.version m'.zf m'.end_ m'.slot m'.listen)):Mv w w' (jM m) (jM m'):=by
 rw [jg h,jg h'];exact x
def zbL (e:En):Int:=e.head / 4294967296
def TgE (N:Nat) (e:En):Prop:=zbL e<=N∧∀ x ∈ e.next, -1<=x∧x<=3
def Tg (N:Nat) (w:Wor):Prop:=∀ v ∈ w.ze,∀ g ∈ v.zm,∀ e ∈ g.ends,TgE N e
theorem Tg.mono {N N':Nat} {w:Wor} (h:Tg N w) (hN:N<=N'):Tg N' w:=fun v hv g hg e he=>⟨by have:=(h v hv g hg e he).1;omega,(h v hv g hg e he).2⟩
structure zfl (e e':En) (o:Int->Nat):Prop where
 len:e'.next.length=e.next.length
 tag:zbL e<=zbL e'
 head:zbL e'=zbL e->e'.head=e.head
 next:∀ s,0<=s->o s=0->e'.next[s.toNat]?= e.next[s.toNat]?
theorem zfl.refl (e:En) (o:Int->Nat):zfl e e o:=⟨rfl,Int.le_refl _,fun _=>rfl,fun _ _ _=>rfl⟩
structure zg9 (g g':Gr) (o:Nat->Int->Nat):Prop where
 len:g'.ends.length=g.ends.length
 ends : ∀ (k : Nat) e e', g.ends[k]? = some e -> g'.ends[k]? = some e' -> zfl e e' (o k)
theorem zg9.refl (g:Gr) (o:Nat->Int->Nat):zg9 g g o:=⟨rfl,fun k e e' h h'=>by rw [h] at h';cases h';exact zfl.refl e _⟩
structure zcz (v v':Ver) (o:Nat->Nat->Int->Nat):Prop where
 snap:v'.snap=v.snap
 len:v'.zm.length=v.zm.length
 grp:∀ (j:Nat) g g',v.zm[j]?= some g->v'.zm[j]?= some g'->zg9 g g' (o j)
theorem zcz.refl (v:Ver) (o:Nat->Nat->Int->Nat):zcz v v o:=⟨rfl,rfl,fun j g g' h h'=>by rw [h] at h';cases h';exact zg9.refl g _⟩
structure jJ (w w':Wor) (o:Key->Nat):Prop where
 zn:w.zn<=w'.zn
 pins:w'.pins.length=w.pins.length
 counts:w'.counts.length=w.counts.length
 zbm:w.ze.length<=w'.ze.length
 ver:∀ (i:Nat) v v',w.ze[i]?= some v->w'.ze[i]?= some v'->zcz v v' fun j k s=>o (.slot i j k s)
 lis:w'.zd.length=w.zd.length
 kY:∀ (i:Nat) l l',w.zd[i]?= some l->w'.zd[i]?= some l'->l'.name=l.name∧(l.drain=true->l'.drain=true)
 lim:w.zt.length<=w'.zt.length
 zt:∀ (i:Nat) r r',w.zt[i]?= some r->w'.zt[i]?= some r'->r'.version=r.version∧r'.at_=r.at_∧(o .lock=0->r'.gone=r.gone)
theorem jd {α:Type} {l:List α} {i:Nat} {x y:α} (h:l[i]?= some x) (h':l[i]?= some y):y=x:=by rw [h] at h';cases h';rfl
theorem xE {w w':Wor} {o:Key->Nat} (h0:w.zn<=w'.zn) (h1:w'.pins.length=w.pins.length) (h2:w'.counts.length=w.counts.length) (h3:w'.ze=w.ze) (h4:w'.zd=w.zd) (h5:w'.zt=w.zt):jJ w w' o:=by
 refine ⟨h0,h1,h2,by rw [h3];exact Nat.le_refl _,fun i v v' h h'=>?_,by rw [h4],fun i l l' h h'=>?_,by rw [h5];exact Nat.le_refl _,fun i r r' h h'=>?_⟩
 ·rw [h3] at h';rw [jd h h'];exact zcz.refl v _
 ·rw [h4] at h';rw [jd h h'];exact ⟨rfl,id⟩
 ·rw [h5] at h';rw [jd h h'];exact ⟨rfl,rfl,fun _=>rfl⟩
theorem jJ.refl (w:Wor) (o:Key->Nat):jJ w w o:=xE (Int.le_refl _) rfl rfl rfl rfl rfl
theorem kf {w:Wor} {m:Mac} {v:Ver} {g:Gr} {e e':En} {tk:Int} {o:Key->Nat} (hat:AtE w m v g e) (h:zfl e e' fun s=>o (.slot m.version m.zf m.end_ s)):jJ w (tEW w m v g e' tk) o:=by
 have p1:=hat.v0;have p2:=hat.g0;have p3:=hat.e0;refine ⟨Int.le_refl _,rfl,rfl,by show _<=(w.ze.set _ _).length;rw [List.length_set];exact Nat.le_refl _,fun i v1 v2 h1 h2=>?_,rfl,fun i l l' h1 h2=>?_,Nat.le_refl _,fun i r r' h1 h2=>?_⟩
 ·rcases yj h2 with ⟨rfl,rfl,_⟩ | ⟨_,h2⟩
  ·rw [jd hat.at_ h1];refine ⟨rfl,by simp,fun j g1 g2 h3 h4=>?_⟩;rcases yj h4 with ⟨rfl,rfl,_⟩ | ⟨_,h4⟩
   ·rw [jd hat.atg h3];refine ⟨by simp,fun k e1 e2 h5 h6=>?_⟩;rcases yj h6 with ⟨rfl,rfl,_⟩ | ⟨_,h6⟩
    ·rw [jd hat.ate h5,Int.toNat_of_nonneg p1,Int.toNat_of_nonneg p2,Int.toNat_of_nonneg p3];exact h
    ·rw [jd h5 h6];exact zfl.refl e1 _
   ·rw [jd h3 h4];exact zg9.refl g1 _
  ·rw [jd h1 h2];exact zcz.refl v1 _
 ·rw [jd h1 h2];exact ⟨rfl,id⟩
 ·rw [jd h1 h2];exact ⟨rfl,rfl,fun _=>rfl⟩
theorem zaZ {w:Wor} {i:Nat} {x y:Lis} {o:Key->Nat} (hx:w.zd[i]?= some x) (hn:y.name=x.name) (hd:x.drain=true->y.drain=true):jJ w { w with zd:=w.zd.set i y } o:=by
 refine ⟨Int.le_refl _,rfl,rfl,Nat.le_refl _,fun i v1 v2 h1 h2=>?_,by simp,fun j l l' h1 h2=>?_,Nat.le_refl _,fun i r r' h1 h2=>?_⟩
 ·rw [jd h1 h2];exact zcz.refl v1 _
 ·rcases yj h2 with ⟨rfl,rfl,_⟩ | ⟨_,h2⟩
  ·rw [jd hx h1];exact ⟨hn,hd⟩
  ·rw [jd h1 h2];exact ⟨rfl,id⟩
 ·rw [jd h1 h2];exact ⟨rfl,rfl,fun _=>rfl⟩
theorem zkd {α:Type} {l l2:List α} {i:Nat} {x y:α} (h:l[i]?= some x) (h':(l++l2)[i]?= some y):y=x:=by
 rw [List.getElem?_append_left (List.getElem?_eq_some_iff.1 h).1] at h';exact jd h h'
theorem zoa {w:Wor} {v:Ver} {n:Int} {o:Key->Nat}:jJ w { w with current:=n,ze:=w.ze++[v] } o:=by
 refine ⟨Int.le_refl _,rfl,rfl,by simp,fun i v1 v2 h1 h2=>?_,rfl,fun i l l' h1 h2=>?_,Nat.le_refl _,fun i r r' h1 h2=>?_⟩
 ·rw [zkd h1 h2];exact zcz.refl v1 _
 ·rw [jd h1 h2];exact ⟨rfl,id⟩
 ·rw [jd h1 h2];exact ⟨rfl,rfl,fun _=>rfl⟩
theorem zp2 {w:Wor} {x:Ret} {o:Key->Nat}:jJ w { w with zt:=w.zt++[x] } o:=by
 refine ⟨Int.le_refl _,rfl,rfl,Nat.le_refl _,fun i v1 v2 h1 h2=>?_,rfl,fun i l l' h1 h2=>?_,by simp,fun i r r' h1 h2=>?_⟩
 ·rw [jd h1 h2];exact zcz.refl v1 _
 ·rw [jd h1 h2];exact ⟨rfl,id⟩
 ·rw [zkd h1 h2];exact ⟨rfl,rfl,fun _=>rfl⟩
theorem zlK {w:Wor} {i k:Nat} {v:Ver} {x:Ret} {o:Key->Nat} (ho:o .lock=1) (hv:w.ze[k]?= some v) (hx:w.zt[i]?= some x):jJ w { w with ze:=w.ze.set k (zaa v),zt:=w.zt.set i (kD x) } o:=by
 refine ⟨Int.le_refl _,rfl,rfl,by simp,fun j v1 v2 h1 h2=>?_,rfl,fun i l l' h1 h2=>?_,by simp,fun j r r' h1 h2=>?_⟩
 ·rcases yj h2 with ⟨rfl,rfl,_⟩ | ⟨_,h2⟩
  ·rw [jd hv h1];exact ⟨rfl,rfl,fun j g g' h3 h4=>by rw [jd h3 (show v.zm[j]?= some g' from h4)];exact zg9.refl g _⟩
  ·rw [jd h1 h2];exact zcz.refl v1 _
 ·rw [jd h1 h2];exact ⟨rfl,id⟩
 ·rcases yj h2 with ⟨rfl,rfl,_⟩ | ⟨_,h2⟩
  ·rw [jd hx h1];exact ⟨rfl,rfl,fun z=>by omega⟩
  ·rw [jd h1 h2];exact ⟨rfl,rfl,fun _=>rfl⟩
structure LcH (w:Wor) (m:Mac) (v:Ver) (g:Gr) (e:En):Prop where
 pc:(0<=m.pc∧m.pc<=12)∨(20<=m.pc∧m.pc<=23)
 ep:m.pc=1∨m.pc=2->0<=m.zn∧m.zn<=w.zn
 lis:(4<=m.pc∧m.pc<=12)∨m.pc=22->0<=m.listen
 early:4<=m.pc∧m.pc<=5->m.zf=0∧m.end_=0∧m.other=0
 mid:4<=m.pc∧m.pc<=8->m.slot=0
 draw:m.pc=6->∃ c,v.snap.zl[m.zf.toNat]?= some c∧(hlt c).length≠0
 slot:m.pc=10∨m.pc=11->m.slot=zC m.word∧m.word / 4294967296<=zbL e
 link:m.pc=11->e.head=m.word->e.next[m.slot.toNat]?= some m.link
 ans:20<=m.pc->1<=m.answer.kind∧m.answer.kind<=5∧(m.answer.kind=1->m.answer=zbC m∧0<=m.listen)
 kind:m.pc=22->m.answer.kind≠1
structure LcF (w:Wor) (m:Mac) (v:Ver) (g:Gr) (e:En):Prop where
 pc:(0<=m.pc∧m.pc<=4)∨m.pc=9
 lis:m.pc<=4->0<=m.listen
 tag:m.pc=1∨m.pc=2->m.word / 4294967296<=zbL e∧zC m.word<=3
 next:m.pc=2->e.next[m.slot.toNat]?= some (zC m.word)
structure LcS (w:Wor) (m:Mac) (v:Ver) (g:Gr) (e:En):Prop where
 pc:0<=m.pc∧m.pc<=2
 ep:m.pc=2->0<=m.zn∧m.zn<=w.zn
structure LcC (w:Wor) (m:Mac) (v:Ver) (g:Gr) (e:En):Prop where
 pc:(0<=m.pc∧m.pc<=6)∨(8<=m.pc∧m.pc<=10)
 pin:m.pc=2->m.i < w.pins.length
 lim:m.pc=5∨m.pc=6->∃ r,w.zt[m.i.toNat]?= some r∧r.version=m.version∧r.gone=false
 act:m.pc=5->m.k < (xU v).length
 lis:m.pc=9∨m.pc=10->∃ l,w.zd[m.i.toNat]?= some l∧l.drain=true
structure LcT (w:Wor) (m:Mac) (v:Ver) (g:Gr) (e:En):Prop where
 pc:m.pc=0
 k:m.k < 6
 i:m.i < w.counts.length
def Lc (w:Wor) (m:Mac) (v:Ver) (g:Gr) (e:En):Prop:=(m.op.kind=1∧LcH w m v g e)∨(m.op.kind=2∧LcF w m v g e)∨(m.op.kind=3∧LcS w m v g e)∨(m.op.kind=4∧m.pc=0)∨(m.op.kind=5∧LcC w m v g e)∨(m.op.kind=6∧LcT w m v g e)
def FiH (m:Mac):Prop:=1<=m.answer.kind∧m.answer.kind<=5∧(m.answer.kind=1->m.answer=zbC m∧0<=m.listen)
abbrev zsu (m:Mac):Ans:=⟨6,m.version,m.zf,m.end_,m.slot,m.listen,0,⟨0,0,0,0,0,0⟩⟩
def FiF (m:Mac):Prop:=m.answer=zsu m∧m.pc=4∨m.answer=zaH 7∧m.pc=9
def FiO (m:Mac):Prop:=7<=m.answer.kind∧m.answer.kind<=13
def Fi' (m:Mac):Prop:=(m.op.kind=1∧FiH m)∨(m.op.kind=2∧FiF m)∨(3<=m.op.kind∧m.op.kind<=6∧FiO m)
structure Nc (N K:Nat) (w:Wor) (m:Mac) (L:Wor->Mac->Ver->Gr->En->Prop) (F:Mac->Prop) (r:Wor × Mac × Eve):Prop where
 ev:r.2.2.access≠0
 st:St (N+1) (K+1) r.1
 tg:Tg (N+1) r.1
 tm:TyM r.2.1
 op:r.2.1.op=m.op
 th:r.2.1.zj=m.zj
 keep:jJ w r.1 (jM m)
 mv:Mv w r.1 (jM m) (jM r.2.1)
 go:(r.2.1.done=true∧F r.2.1)∨∃ v g e,qC r.1 r.2.1 v g e∧L r.1 r.2.1 v g e
theorem zbG {N:Nat} {w:Wor} {m:Mac} {v:Ver} {g:Gr} {e e':En} {tk:Int} (h:Tg N w) (hat:AtE w m v g e) (h':TgE N e'):Tg N (tEW w m v g e' tk):=fun v2 hv g2 hg e2 he=>by
 have mv:=List.mem_of_getElem? hat.at_;have mg:=List.mem_of_getElem? hat.atg;rcases mem_set hv with hv | rfl
 ·exact h v2 hv g2 hg e2 he
 ·rcases mem_set hg with hg | rfl
  ·exact h v mv g2 hg e2 he
  ·rcases mem_set he with he | rfl
   ·exact h v mv g mg e2 he
   ·exact h'
theorem zhV {N:Nat} {w:Wor} {m:Mac} {v:Ver} {g:Gr} {e:En} (h:Tg N w) (hat:AtE w m v g e):TgE N e:=h v (List.mem_of_getElem? hat.at_) g (List.mem_of_getElem? hat.atg) e (List.mem_of_getElem? hat.ate)
section
variable {N K:Nat} {w:Wor} {m:Mac} {v:Ver} {g:Gr} {e:En}
theorem zr2 (st:St N K w) (tg:Tg N w) (su:qC w m v g e) (tm:TyM m) (lo:LcH w m v g e) (hk:m.op.kind=1) (h3:m.pc < 3):∃ r,qi w m v g e=some r∧Nc N K w m LcH FiH r:=by
 have gw:=st.jj;have ge:=qb.1 gw.ground;have hep:=ge.zn;have st1:St (N+1) (K+1) w:=st.mono (by omega) (by omega);have tg1:=tg.mono (Nat.le_succ N);have lp:=lo.pc;unfold qi;rw [if_pos h3];unfold zqq;rcases (by omega:m.pc=0∨m.pc=1∨m.pc=2) with p | p | p
 ·rw [if_pos p];exact zL rfl ⟨uW,st1,tg1,uO,rfl,rfl,jJ.refl w _,qg w (vC (ph1 su.done hk uM) (ph1 su.done hk uM)),.inr ⟨v,g,e,uQ,⟨uL,fun _=>⟨hep.1,Int.le_refl _⟩,uK,uK,uK,uK,uK,uK,uK,uK⟩⟩⟩
 ·have he:=lo.ep (.inl p);have hw:IntKind.i64.wrap (m.zn+1)=m.zn+1:=q0 (by omega) (by omega);rw [if_neg (by omega),if_pos p,hw];have sp:=st1.pin m.zj.toNat (p:=m.zn+1) (by omega) (by omega)
  exact zL rfl ⟨tI,sp,tg1,uO,rfl,rfl,xE (Int.le_refl _) (by simp) rfl rfl rfl rfl,wK rfl rfl rfl rfl rfl (vC (ph1 su.done hk uM) (ph1 su.done hk uM)),.inr ⟨v,g,e,⟨qe.2 sp.jj,by simpa using su.zj,su.done,su.version,su.atv,su.zf,su.atg,su.end_,su.ate,su.other,su.slot,su.listen,su.i,su.k⟩,
   ⟨uL,fun _=>he,uK,uK,uK,uK,uK,uK,uK,uK⟩⟩⟩
 ·rw [if_neg (by omega),if_neg (by omega),if_pos p];by_cases q:w.zn=m.zn
  ·rw [if_pos q];exact zL rfl ⟨uW,st1,tg1,uO,rfl,rfl,jJ.refl w _,qg w (vC (ph1 su.done hk uM) (ph1 su.done hk uM)),.inr ⟨v,g,e,uQ,⟨uL,uK,uK,uK,uK,uK,uK,uK,uK,uK⟩⟩⟩
  ·rw [if_neg q];exact zL rfl ⟨uW,st1,tg1,uO,rfl,rfl,jJ.refl w _,qg w (vC (ph1 su.done hk uM) (ph1 su.done hk uM)),.inr ⟨v,g,e,uQ,⟨uL,fun _=>⟨hep.1,Int.le_refl _⟩,uK,uK,uK,uK,uK,uK,uK,uK⟩⟩⟩
theorem zte (st:St N K w) (tg:Tg N w) (su:qC w m v g e) (tm:TyM m) (lo:LcH w m v g e) (hk:m.op.kind=1) (hN:N<=100000000) (p:m.pc=3):∃ r,qi w m v g e=some r∧Nc N K w m LcH FiH r:=by
 have gw:=st.jj;have st1:St (N+1) (K+1) w:=st.mono (by omega) (by omega);have tg1:=tg.mono (Nat.le_succ N);have pr:=za6 w.zd m.op.listen;have hl:=st.ty.lis;have cu:=gw.current;obtain ⟨v',hv'⟩:∃ v',w.ze[w.current.toNat]?= some v':=⟨_,List.getElem?_eq_getElem (by omega)⟩;have gv:=(gw.ver _ v' hv').1;have h0:0 < v'.zm.length:=by have:=(jk gv.snap).zl.1;have:=gv.len;omega
 obtain ⟨g',e',hg,he,l1,l2⟩:=vu gv h0;unfold qi;rw [if_neg (by omega),if_pos p];by_cases q:z7 w.zd m.op.listen < 0
 ·rw [if_pos q];refine zL rfl ⟨uW,st1,tg1,⟨by show i64 (z7 w.zd m.op.listen);unfold i64;omega,tm.word,tm.link,tm.host,tm.path,tm.d0,tm.d1,tm.cfg,(fun h=>absurd ((show m.op.kind=6 from h).symm.trans hk) (by decide))⟩,rfl,rfl,jJ.refl w _,qg w (vC (ph1 su.done hk uM) (ph1 su.done hk ?_)),.inr ⟨v',g',e',⟨su.world,su.zj,su.done,cu,hv',⟨Int.le_refl _,by show (0:Int) < _;omega⟩,hg,⟨Int.le_refl _,by show (0:Int) < _;omega⟩,he,⟨Int.le_refl _,by show (0:Int) < _;omega⟩,⟨Int.le_refl _,by show (0:Int) < _;omega⟩,pr,su.i,su.k⟩,⟨uL,uK,uK,uK,uK,uK,uK,uK,fun _=>⟨by show (1:Int)<=2;decide,by show (2:Int)<=5;decide,fun h=>absurd (show (2:Int)=1 from h) (by decide)⟩,uK⟩⟩⟩;dsimp only;(repeat' split) <;> omega
 ·rw [if_neg q]
  exact zL rfl ⟨uW,st1,tg1,⟨by show i64 (z7 w.zd m.op.listen);unfold i64;omega,tm.word,tm.link,tm.host,tm.path,tm.d0,tm.d1,tm.cfg,tm.ans⟩,rfl,rfl,jJ.refl w _,qg w (vC (ph1 su.done hk uM) (ph1 su.done hk uM)),.inr ⟨v',g',e',⟨su.world,su.zj,su.done,cu,hv',⟨Int.le_refl _,by show (0:Int) < _;omega⟩,hg,⟨Int.le_refl _,by show (0:Int) < _;omega⟩,he,⟨Int.le_refl _,by show (0:Int) < _;omega⟩,⟨Int.le_refl _,by show (0:Int) < _;omega⟩,pr,su.i,su.k⟩,
   ⟨uL,uK,fun _=>by show 0<=z7 w.zd m.op.listen;omega,fun _=>⟨rfl,rfl,rfl⟩,fun _=>rfl,uK,uK,uK,uK,uK⟩⟩⟩
theorem ztf (st:St N K w) (tg:Tg N w) (su:qC w m v g e) (tm:TyM m) (lo:LcH w m v g e) (hk:m.op.kind=1) (hK:K<=1099511627776) (p:m.pc=4):∃ r,qi w m v g e=some r∧Nc N K w m LcH FiH r:=by
 have gw:=st.jj;have tg1:=tg.mono (Nat.le_succ N);have l0:=lo.lis (.inl (by omega));have sl:=su.listen;obtain ⟨x,hx⟩:∃ x,w.zd[m.listen.toNat]?= some x:=⟨_,List.getElem?_eq_getElem (by omega)⟩;have li:=zfd (gw.lis _ x hx).1;have ca:=st.cal.lis x (List.mem_of_getElem? hx);have hw:IntKind.i64.wrap (x.zg+1)=x.zg+1:=q0 (by omega) (by omega);have st2:=ziK st su hx (x.zg+1) (by omega) (by omega) hK;unfold qi zfX;rw [if_neg (by omega),if_neg (by omega),if_pos p,if_neg (by omega),hx,Option.map_some];unfold zsz;rw [hw]
 exact zL rfl ⟨tM,st2,tg1,uO,rfl,rfl,zaZ hx rfl id,za4 (p:=0) (p':=1) (ph1 su.done hk uM) (ph1 su.done hk uM) (zp9 l0 hx li.2.1 rfl _ _ _ _ _ _ _ _ _),.inr ⟨v,g,e,⟨qe.2 st2.jj,su.zj,su.done,su.version,su.atv,su.zf,su.atg,su.end_,su.ate,su.other,su.slot,by simpa using su.listen,su.i,su.k⟩,
  ⟨uL,uK,fun _=>l0,fun _=>lo.early (by omega),fun _=>lo.mid (by omega),uK,uK,uK,uK,uK⟩⟩⟩
theorem ztg (st:St N K w) (tg:Tg N w) (su:qC w m v g e) (tm:TyM m) (lo:LcH w m v g e) (hk:m.op.kind=1) (p:m.pc=5):∃ r,qi w m v g e=some r∧Nc N K w m LcH FiH r:=by
 have gw:=st.jj;have st1:St (N+1) (K+1) w:=st.mono (by omega) (by omega);have tg1:=tg.mono (Nat.le_succ N);have l0:=lo.lis (.inl (by omega));have sl:=su.listen;obtain ⟨x,hx⟩:∃ x,w.zd[m.listen.toNat]?= some x:=⟨_,List.getElem?_eq_getElem (by omega)⟩;obtain ⟨z1,z2,z3⟩:=lo.early (by omega);have z4:=lo.mid (by omega);have gv:=(gw.ver _ v su.atv).1;unfold qi zfX;rw [if_neg (by omega),if_neg (by omega),if_neg (by omega),if_pos p,if_neg (by omega),hx,Option.map_some];cases hd:x.drain
 ·simp only [Bool.false_eq_true,if_false];obtain ⟨c0,c,hc⟩:=zjA gv.snap m.op.listen m.op.host m.op.path;by_cases f:(j7 m v).2=0
  ·have glt:(j7 m v).1.toNat < v.zm.length:=by have:=(List.getElem?_eq_some_iff.1 hc).1;have:=gv.len;show (w9 v.snap m.op.listen m.op.host m.op.path).1.toNat < _;omega
   obtain ⟨g',e',hg,he,q1,q2⟩:=vu gv glt;have c0':0<=(j7 m v).1:=c0;have su':∀ pc an,qC w { m with zf:=(j7 m v).1,pc:=pc,answer:=an } v g' e':=fun pc an=>⟨su.world,su.zj,su.done,su.version,su.atv,⟨c0',by show (j7 m v).1 < _;omega⟩,hg,⟨by show 0<=m.end_;omega,by show m.end_ < _;omega⟩,by show g'.ends[m.end_.toNat]?= _;rw [z2];exact he,⟨by show 0<=m.other;omega,by show m.other < _;omega⟩,⟨by show 0<=m.slot;omega,by show m.slot < _;omega⟩,su.listen,su.i,su.k⟩
   by_cases d:(yp c m.op.d0 m.op.d1).2.2=0
   ·have hn:(hlt c).length≠0:=by
     intro hz;unfold yp at d;rw [if_pos hz] at d;cases d
    by_cases po:c.xp=1
    ·rw [zgo f hc d po];exact zL rfl ⟨uW,st1,tg1,uO,rfl,rfl,jJ.refl w _,qg w (kI (ph1 su.done hk uM) (ph1 su.done hk uM) rfl),.inr ⟨v,g',e',su' 6 m.answer,⟨uL,uK,fun _=>l0,uK,fun _=>z4,fun _=>⟨c,hc,hn⟩,uK,uK,uK,uK⟩⟩⟩
    ·rw [zgp f hc d po];have gl:=(gv.grp _ g' c hg hc).1;have dv:yp c m.op.d0 m.op.d1=(xM c m.op.d0,xM c m.op.d1,0):=by unfold yp;rw [if_neg hn]
     have r0:=zlv (n:=m.op.d0) hn;have r1:=zlv (n:=m.op.d1) hn;have d1:(yp c m.op.d0 m.op.d1).1=xM c m.op.d0:=by rw [dv]
     have d2:(yp c m.op.d0 m.op.d1).2.1=xM c m.op.d1:=by rw [dv]
     rw [d1,d2];have r0':0<=xM c m.op.d0∧xM c m.op.d0 < c.zR.length:=r0;have r1':0<=xM c m.op.d1∧xM c m.op.d1 < c.zR.length:=r1;obtain ⟨e2,he2⟩:∃ e2,g'.ends[(xM c m.op.d0).toNat]?= some e2:=⟨_,List.getElem?_eq_getElem (by omega)⟩;have n2:=((gv.few.2 g' (List.mem_of_getElem? hg)).2.2 e2 (List.mem_of_getElem? he2)).2
     exact zL rfl ⟨uW,st1,tg1,uO,rfl,rfl,jJ.refl w _,qg w (kI (ph1 su.done hk uM) (ph1 su.done hk uM) rfl),.inr ⟨v,g',e2,⟨su.world,su.zj,su.done,su.version,su.atv,⟨c0',by show (j7 m v).1 < _;omega⟩,hg,⟨r0'.1,by show xM c m.op.d0 < _;omega⟩,he2,⟨r1'.1,by show xM c m.op.d1 < _;omega⟩,⟨by show 0<=m.slot;omega,by show m.slot < _;omega⟩,su.listen,su.i,su.k⟩,
      ⟨uL,uK,fun _=>l0,uK,fun _=>z4,uK,uK,uK,uK,uK⟩⟩⟩
   ·rw [zeE f hc d];exact zL rfl ⟨uW,st1,tg1,uP,rfl,rfl,jJ.refl w _,qg w (kI (ph1 su.done hk uM) (ph1 su.done hk uM) rfl),.inr ⟨v,g',e',su' 20 (zaH 3),⟨uL,uK,uK,uK,uK,uK,uK,uK,fun _=>⟨by show (1:Int)<=3;decide,by show (3:Int)<=5;decide,fun h=>absurd (show (3:Int)=1 from h) (by decide)⟩,uK⟩⟩⟩
  ·rw [zhM f];exact zL rfl ⟨uW,st1,tg1,uP,rfl,rfl,jJ.refl w _,qg w (kI (ph1 su.done hk uM) (ph1 su.done hk uM) rfl),.inr ⟨v,g,e,uQ,⟨uL,uK,uK,uK,uK,uK,uK,uK,fun _=>⟨by show (1:Int)<=2;decide,by show (2:Int)<=5;decide,fun h=>absurd (show (2:Int)=1 from h) (by decide)⟩,uK⟩⟩⟩
 ·simp only [if_true];exact zL rfl ⟨uW,st1,tg1,uP,rfl,rfl,jJ.refl w _,qg w (kI (ph1 su.done hk uM) (ph1 su.done hk uM) rfl),.inr ⟨v,g,e,uQ,⟨uL,uK,uK,uK,uK,uK,uK,uK,fun _=>⟨by show (1:Int)<=5;decide,by show (5:Int)<=5;decide,fun h=>absurd (show (5:Int)=1 from h) (by decide)⟩,uK⟩⟩⟩
theorem zth (st:St N K w) (tg:Tg N w) (su:qC w m v g e) (tm:TyM m) (lo:LcH w m v g e) (hk:m.op.kind=1) (p:m.pc=6):∃ r,qi w m v g e=some r∧Nc N K w m LcH FiH r:=by
 have gw:=st.jj;have tg1:=tg.mono (Nat.le_succ N);obtain ⟨f1,f2,f3,f4,f5,f6,f7⟩:=y7 st su;have gv:=(gw.ver _ v su.atv).1;obtain ⟨c,hc,hn⟩:=lo.draw p;have l0:=lo.lis (.inl (by omega));have z:=lo.mid (by omega);have gl:=(gv.grp _ g c su.atg hc).1;have tr:=zlv (n:=g.zr) hn;have tv:(wS c g.zr).1=((hlt c)[(g.zr % (hlt c).length).toNat]?).getD 0:=by unfold wS;rw [if_neg hn]
 rw [<- tv] at tr;obtain ⟨e2,he2⟩:∃ e2,g.ends[(wS c g.zr).1.toNat]?= some e2:=⟨_,List.getElem?_eq_getElem (by omega)⟩;have n2:=((gv.few.2 g (List.mem_of_getElem? su.atg)).2.2 e2 (List.mem_of_getElem? he2)).2;have st2:=(st.mono (by omega) (by omega):St (N+1) (K+1) w).zbM su.at_ (e':=qp e e.head e.zg) (tk:=IntKind.u64.wrap (g.zr+1)) f1 rfl f6 (zqV _) (by show e.zg<=_;omega);have eset:g.ends.set m.end_.toNat (qp e e.head e.zg)=g.ends:=yg _ _ su.ate;have s1:=(List.getElem?_eq_some_iff.1 su.atv).1;have s2:=(List.getElem?_eq_some_iff.1 su.atg).1;have so:=su.other;unfold qi;rw [if_neg (by omega),if_neg (by omega),if_neg (by omega),if_neg (by omega),if_pos p,hc,Option.map_some]
 exact zL rfl ⟨tM,st2,zbG tg1 su.at_ (e':=qp e e.head e.zg) (zhV tg1 su.at_),uO,rfl,rfl,kf su.at_ (e':=qp e e.head e.zg) (zfl.refl e _),zm8 su.at_ (e':=qp e e.head e.zg) rfl rfl rfl (kI (ph1 su.done hk uM) (ph1 su.done hk uM) rfl),.inr ⟨_,_,e2,⟨qe.2 st2.jj,su.zj,su.done,by simpa using su.version,List.getElem?_set_self s1,by simpa using su.zf,List.getElem?_set_self s2,⟨tr.1,by show _ < (((g.ends.set m.end_.toNat (qp e e.head e.zg)).length:Nat):Int);rw [eset];show (wS c g.zr).1 < _;omega⟩,by show (g.ends.set m.end_.toNat (qp e e.head e.zg))[(wS c g.zr).1.toNat]?= some e2;rw [eset];exact he2,by simpa using so,⟨by show 0<=m.slot;omega,by show m.slot < _;omega⟩,su.listen,su.i,su.k⟩,
  ⟨uL,uK,fun _=>l0,uK,uK,uK,uK,uK,uK,uK⟩⟩⟩
theorem zti (st:St N K w) (tg:Tg N w) (su:qC w m v g e) (tm:TyM m) (lo:LcH w m v g e) (hk:m.op.kind=1) (p:m.pc=7):∃ r,qi w m v g e=some r∧Nc N K w m LcH FiH r:=by
 obtain ⟨f1,f2,f3,f4,f5,f6,f7⟩:=y7 st su;have l0:=lo.lis (.inl (by omega));unfold qi;rw [if_neg (by omega),if_neg (by omega),if_neg (by omega),if_neg (by omega),if_neg (by omega),if_pos p]
 exact zL rfl ⟨uW,st.mono (by omega) (by omega),tg.mono (Nat.le_succ N),uO,rfl,rfl,jJ.refl w _,qg w (kI (ph1 su.done hk uM) (ph1 su.done hk uM) rfl),.inr ⟨v,g,e,⟨su.world,su.zj,su.done,su.version,su.atv,su.zf,su.atg,su.end_,su.ate,su.other,su.slot,su.listen,f4,su.k⟩,
  ⟨uL,uK,fun _=>l0,uK,fun _=>lo.mid (by omega),uK,uK,uK,uK,uK⟩⟩⟩
theorem ztj (st:St N K w) (tg:Tg N w) (su:qC w m v g e) (tm:TyM m) (lo:LcH w m v g e) (hk:m.op.kind=1) (p:m.pc=8):∃ r,qi w m v g e=some r∧Nc N K w m LcH FiH r:=by
 have gv:=(st.jj.ver _ v su.atv).1;have tg1:=tg.mono (Nat.le_succ N);have l0:=lo.lis (.inl (by omega));have z:=lo.mid (by omega);have so:=su.other;obtain ⟨e2,he2⟩:∃ e2,g.ends[m.other.toNat]?= some e2:=⟨_,List.getElem?_eq_getElem (by omega)⟩;have n2:=((gv.few.2 g (List.mem_of_getElem? su.atg)).2.2 e2 (List.mem_of_getElem? he2)).2;unfold qi;rw [if_neg (by omega),if_neg (by omega),if_neg (by omega),if_neg (by omega),if_neg (by omega),if_neg (by omega),if_pos p,he2,Option.map_some];by_cases q:e2.zg < m.i
 ·rw [if_pos q]
  exact zL rfl ⟨uW,st.mono (by omega) (by omega),tg1,uO,rfl,rfl,jJ.refl w _,qg w (kI (ph1 su.done hk uM) (ph1 su.done hk uM) rfl),.inr ⟨v,g,e2,⟨su.world,su.zj,su.done,su.version,su.atv,su.zf,su.atg,so,he2,so,⟨by show 0<=m.slot;omega,by show m.slot < _;omega⟩,su.listen,su.i,su.k⟩,
   ⟨uL,uK,fun _=>l0,uK,uK,uK,uK,uK,uK,uK⟩⟩⟩
 ·rw [if_neg q]
  exact zL rfl ⟨uW,st.mono (by omega) (by omega),tg1,uO,rfl,rfl,jJ.refl w _,qg w (kI (ph1 su.done hk uM) (ph1 su.done hk uM) rfl),.inr ⟨v,g,e,uQ,
   ⟨uL,uK,fun _=>l0,uK,uK,uK,uK,uK,uK,uK⟩⟩⟩
theorem ztk (st:St N K w) (tg:Tg N w) (su:qC w m v g e) (tm:TyM m) (lo:LcH w m v g e) (hk:m.op.kind=1) (p:m.pc=9):∃ r,qi w m v g e=some r∧Nc N K w m LcH FiH r:=by
 obtain ⟨f1,f2,f3,f4,f5,f6,f7⟩:=y7 st su;have tg1:=tg.mono (Nat.le_succ N);have l0:=lo.lis (.inl (by omega));unfold qi;rw [if_neg (by omega),if_neg (by omega),if_neg (by omega),if_neg (by omega),if_neg (by omega),if_neg (by omega),if_neg (by omega),if_pos p];by_cases q:0<=zC e.head∧zC e.head < e.next.length
 ·rw [if_pos q]
  exact zL rfl ⟨uW,st.mono (by omega) (by omega),tg1,⟨tm.listen,f6.1,tm.link,tm.host,tm.path,tm.d0,tm.d1,tm.cfg,tm.ans⟩,rfl,rfl,jJ.refl w _,qg w (kI (ph1 su.done hk uM) (ph1 su.done hk uM) rfl),.inr ⟨v,g,e,⟨su.world,su.zj,su.done,su.version,su.atv,su.zf,su.atg,su.end_,su.ate,su.other,q,su.listen,su.i,su.k⟩,
   ⟨uL,uK,fun _=>l0,uK,uK,uK,fun _=>⟨rfl,Int.le_refl _⟩,uK,uK,uK⟩⟩⟩
 ·rw [if_neg q];exact zL rfl ⟨uW,st.mono (by omega) (by omega),tg1,⟨tm.listen,f6.1,tm.link,tm.host,tm.path,tm.d0,tm.d1,tm.cfg,(fun h=>absurd ((show m.op.kind=6 from h).symm.trans hk) (by decide))⟩,rfl,rfl,jJ.refl w _,qg w (kI (ph1 su.done hk uM) (ph1 su.done hk uM) rfl),.inr ⟨v,g,e,uQ,⟨uL,uK,uK,uK,uK,uK,uK,uK,fun _=>⟨by show (1:Int)<=4;decide,by show (4:Int)<=5;decide,fun h=>absurd (show (4:Int)=1 from h) (by decide)⟩,uK⟩⟩⟩
theorem zrI (f1:Slp.isV e=true) {s:Int} (h0:0<=s) (h1:s < e.next.length):∃ x,e.next[s.toNat]?= some x:=⟨_,List.getElem?_eq_getElem (by omega)⟩
theorem zrV (st:St N K w) (tg:Tg N w) (su:qC w m v g e) (tm:TyM m) (lo:LcH w m v g e) (hk:m.op.kind=1) (p:m.pc=10):∃ r,qi w m v g e=some r∧Nc N K w m LcH FiH r:=by
 obtain ⟨f1,f2,f3,f4,f5,f6,f7⟩:=y7 st su;have tg1:=tg.mono (Nat.le_succ N);have l0:=lo.lis (.inl (by omega));obtain ⟨z1,z2⟩:=lo.slot (.inl p);have ss:=su.slot;obtain ⟨x,hx⟩:=zrI f1 ss.1 ss.2;have hb:=(zhV tg su.at_).2 x (List.mem_of_getElem? hx);unfold qi;rw [if_neg (by omega),if_neg (by omega),if_neg (by omega),if_neg (by omega),if_neg (by omega),if_neg (by omega),if_neg (by omega),if_neg (by omega),if_pos p,hx,Option.map_some]
 exact zL rfl ⟨uW,st.mono (by omega) (by omega),tg1,⟨tm.listen,tm.word,by show -1<=x∧x<=2147483646;omega,tm.host,tm.path,tm.d0,tm.d1,tm.cfg,tm.ans⟩,rfl,rfl,jJ.refl w _,qg w (kI (ph1 su.done hk uM) (ph1 su.done hk uM) rfl),.inr ⟨v,g,e,uQ,
  ⟨uL,uK,fun _=>l0,uK,uK,uK,fun _=>⟨z1,z2⟩,fun _ _=>hx,uK,uK⟩⟩⟩
theorem zlu (f1:Slp.isV e=true) (f2:e.next.length<=4):Slp.zC e<=3:=by
 by_cases h:Slp.zC e < 0
 ·omega
 ·have:=(Slp.zm2 f1 h).2.1;omega
theorem zjY {x i:Int} {N:Nat} (h:x / 4294967296<=N) (hx:u64 x) (hN:N<=100000000) (h1: -1<=i) (h2:i<=2147483646):Slp.qP x i / 4294967296=x / 4294967296+1:=by
 have:=Slp.zoo (x:=x) h1 h2;unfold u64 at hx;omega
theorem zrW (st:St N K w) (tg:Tg N w) (su:qC w m v g e) (tm:TyM m) (lo:LcH w m v g e) (hk:m.op.kind=1) (hN:N<=100000000) (p:m.pc=11):∃ r,qi w m v g e=some r∧Nc N K w m LcH FiH r:=by
 obtain ⟨f1,f2,f3,f4,f5,f6,f7⟩:=y7 st su;have tg1:=tg.mono (Nat.le_succ N);have te:=zhV tg su.at_;have l0:=lo.lis (.inl (by omega));obtain ⟨z1,z2⟩:=lo.slot (.inr p);have ss:=su.slot;unfold qi;rw [if_neg (by omega),if_neg (by omega),if_neg (by omega),if_neg (by omega),if_neg (by omega),if_neg (by omega),if_neg (by omega),if_neg (by omega),if_neg (by omega),if_pos p];by_cases q:e.head=m.word
 ·have z3:=lo.link p q;have hh:Slp.zC e=m.slot:=by rw [z1,<- q];rfl
  have hx2:Slp.nxt e.next m.slot=m.link:=by unfold Slp.nxt;rw [z3];rfl
  have ct:=(Slp.zb8 (Slp.zaY f1).1 (by omega)).2.1;rw [hh,hx2] at ct;have hd:Slp.zC (qp e (Slp.qP m.word m.link) e.zg)=m.link:=Slp.zcl tm.link.1 tm.link.2
  have is2:Slp.isV (qp e (Slp.qP m.word m.link) e.zg)=true:=by
   unfold Slp.isV;rw [hd];simp only [Bool.and_eq_true,decide_eq_true_eq];exact ⟨⟨⟨ct,f3⟩,f2⟩,f4⟩
  have nt:=zjY (i:=m.link) te.1 f6.1 hN tm.link.1 tm.link.2;rw [q] at nt;obtain ⟨q1,q2⟩:=zqr f6 f1 hh ss.1 hx2;rw [q] at q1 q2;have st2:=(st.mono (by omega) (by omega):St (N+1) (K+1) w).zbM su.at_ (e':=qp e (Slp.qP m.word m.link) e.zg) (tk:=g.zr) is2 rfl ⟨Slp.zf8 tm.link.1 tm.link.2,f6.2⟩ f7 (by show e.zg<=_;omega);rw [if_pos q];have ta:zbL (qp e (Slp.qP m.word m.link) e.zg)=zbL e+1:=by unfold zbL;rw [q];exact nt
  exact zL rfl ⟨(by show (4:Int)≠0;decide),st2,zbG tg1 su.at_ (e':=qp e (Slp.qP m.word m.link) e.zg) ⟨by have:=te.1;omega,te.2⟩,uO,rfl,rfl,kf su.at_ (e':=qp e (Slp.qP m.word m.link) e.zg) ⟨rfl,by omega,fun h=>by omega,fun _ _ _=>rfl⟩,
   za4 (p:=1) (p':=2) (ph1 su.done hk uM) (ph1 su.done hk uM) (zs1 su.at_ (e':=qp e (Slp.qP m.word m.link) e.zg) rfl ss.1 ss.2 q1 q2 rfl m.listen),.inr ⟨_,_,_,kM (e':=qp e (Slp.qP m.word m.link) e.zg) (m':={ m with pc:=12 }) su rfl st2.jj rfl su.done rfl rfl rfl rfl rfl rfl rfl rfl,
   ⟨uL,uK,fun _=>l0,uK,uK,uK,uK,uK,uK,uK⟩⟩⟩
 ·rw [if_neg q]
  exact zL rfl ⟨(by show (5:Int)≠0;decide),st.mono (by omega) (by omega),tg1,uO,rfl,rfl,jJ.refl w _,qg w (kI (ph1 su.done hk uM) (ph1 su.done hk uM) rfl),.inr ⟨v,g,e,uQ,
   ⟨uL,uK,fun _=>l0,uK,uK,uK,uK,uK,uK,uK⟩⟩⟩
theorem zrX (st:St N K w) (tg:Tg N w) (su:qC w m v g e) (tm:TyM m) (lo:LcH w m v g e) (hk:m.op.kind=1) (hK:K<=1099511627776) (p:m.pc=12):∃ r,qi w m v g e=some r∧Nc N K w m LcH FiH r:=by
 obtain ⟨f1,f2,f3,f4,f5,f6,f7⟩:=y7 st su;have tg1:=tg.mono (Nat.le_succ N);have l0:=lo.lis (.inl (by omega));have hw:IntKind.i64.wrap (e.zg+1)=e.zg+1:=q0 (by omega) (by omega);have st2:=(st.mono (by omega) (by omega):St (N+1) (K+1) w).zbM su.at_ (e':=qp e e.head (e.zg+1)) (tk:=g.zr) (zm3 f1 _ (by omega)) rfl ⟨f6.1,f6.2.1,by show i64 (e.zg+1);unfold i64;omega⟩ f7 (by show e.zg+1<=_;omega);unfold qi;rw [if_neg (by omega),if_neg (by omega),if_neg (by omega),if_neg (by omega),if_neg (by omega),if_neg (by omega),if_neg (by omega),if_neg (by omega),if_neg (by omega),if_neg (by omega),if_pos p,hw]
 exact zL rfl ⟨tM,st2,zbG tg1 su.at_ (e':=qp e e.head (e.zg+1)) (show TgE (N+1) e from zhV tg1 su.at_),uP,rfl,rfl,kf su.at_ (e':=qp e e.head (e.zg+1)) ⟨rfl,Int.le_refl _,fun _=>rfl,fun _ _ _=>rfl⟩,
  za4 (p:=2) (p':=3) (ph1 su.done hk uM) (ph1 su.done hk uM) (zrF su.at_ (e':=qp e e.head (e.zg+1)) rfl rfl f4 rfl m.slot m.listen),.inr ⟨_,_,_,kM (e':=qp e e.head (e.zg+1)) (m':={ m with answer:=zbC m,pc:=20 }) su rfl st2.jj rfl su.done rfl rfl rfl rfl rfl rfl rfl rfl,
  ⟨uL,uK,uK,uK,uK,uK,uK,uK,fun _=>⟨by show (1:Int)<=1;decide,by show (1:Int)<=5;decide,fun _=>⟨rfl,l0⟩⟩,uK⟩⟩⟩
theorem zrY (st:St N K w) (tg:Tg N w) (su:qC w m v g e) (tm:TyM m) (lo:LcH w m v g e) (hk:m.op.kind=1) (p:m.pc=20):∃ r,qi w m v g e=some r∧Nc N K w m LcH FiH r:=by
 have kr:=zlL m.answer.kind;obtain ⟨r2,hl,hc⟩:=zfC st su (pc:=21) kr.1 kr.2;have st2:=(st.mono (by omega) (by omega):St (N+1) (K+1) w).count m.zj.toNat hl;have an:=lo.ans (by omega)
 have ow:jM m=jM { m with pc:=21 }:=by
  by_cases k1:m.answer.kind=1
  ·exact zhH (p:=3) (ph1 su.done hk uM) (ph1 su.done hk uM) rfl rfl rfl rfl rfl
  ·by_cases k2:0<=m.listen
   ·exact kI (ph1 su.done hk uM) (ph1 su.done hk uM) rfl
   ·exact vC (ph1 su.done hk uM) (ph1 su.done hk uM)
 unfold qi;rw [if_neg (by omega),if_neg (by omega),if_neg (by omega),if_neg (by omega),if_neg (by omega),if_neg (by omega),if_neg (by omega),if_neg (by omega),if_neg (by omega),if_neg (by omega),if_neg (by omega),if_pos p,hc]
 exact zL rfl ⟨tM,st2,tg.mono (Nat.le_succ N),uO,rfl,rfl,xE (Int.le_refl _) rfl (by simp) rfl rfl rfl,wK rfl rfl rfl rfl rfl ow,.inr ⟨v,g,e,⟨qe.2 st2.jj,su.zj,su.done,su.version,su.atv,su.zf,su.atg,su.end_,su.ate,su.other,su.slot,su.listen,su.i,su.k⟩,
  ⟨uL,uK,uK,uK,uK,uK,uK,uK,fun _=>an,uK⟩⟩⟩
theorem zrZ (st:St N K w) (tg:Tg N w) (su:qC w m v g e) (tm:TyM m) (lo:LcH w m v g e) (hk:m.op.kind=1) (p:m.pc=21):∃ r,qi w m v g e=some r∧Nc N K w m LcH FiH r:=by
 obtain ⟨r2,hl,hc⟩:=zfC st su (k:=0) (pc:=if m.answer.kind=1∨m.listen < 0 then 23 else 22) (by decide) (by decide);have st2:=(st.mono (by omega) (by omega):St (N+1) (K+1) w).count m.zj.toNat hl;have an:=lo.ans (by omega);unfold qi;rw [if_neg (by omega),if_neg (by omega),if_neg (by omega),if_neg (by omega),if_neg (by omega),if_neg (by omega),if_neg (by omega),if_neg (by omega),if_neg (by omega),if_neg (by omega),if_neg (by omega),if_neg (by omega),if_pos p,hc];by_cases q:m.answer.kind=1∨m.listen < 0
 ·rw [if_pos q]
  have ow:jM m=jM { m with pc:=23 }:=by
   by_cases k1:m.answer.kind=1
   ·exact zhH (p:=3) (ph1 su.done hk uM) (ph1 su.done hk uM) rfl rfl rfl rfl rfl
   ·exact vC (ph1 su.done hk uM) (ph1 su.done hk uM)
  exact zL rfl ⟨tM,st2,tg.mono (Nat.le_succ N),uO,rfl,rfl,xE (Int.le_refl _) rfl (by simp) rfl rfl rfl,wK rfl rfl rfl rfl rfl ow,.inr ⟨v,g,e,⟨qe.2 st2.jj,su.zj,su.done,su.version,su.atv,su.zf,su.atg,su.end_,su.ate,su.other,su.slot,su.listen,su.i,su.k⟩,
   ⟨uL,uK,uK,uK,uK,uK,uK,uK,fun _=>an,uK⟩⟩⟩
 ·rw [if_neg q]
  exact zL rfl ⟨tM,st2,tg.mono (Nat.le_succ N),uO,rfl,rfl,xE (Int.le_refl _) rfl (by simp) rfl rfl rfl,wK rfl rfl rfl rfl rfl (kI (ph1 su.done hk uM) (ph1 su.done hk uM) rfl),.inr ⟨v,g,e,⟨qe.2 st2.jj,su.zj,su.done,su.version,su.atv,su.zf,su.atg,su.end_,su.ate,su.other,su.slot,su.listen,su.i,su.k⟩,
   ⟨uL,uK,fun _=>by show 0<=m.listen;omega,uK,uK,uK,uK,uK,fun _=>an,fun _ h=>q (.inl h)⟩⟩⟩
theorem zc1 (ow:∀ x,jM m x<=Has w x) {p:Nat} (h:ph m=p) (x:Key) (hx:1<=qa p m.version m.zf m.end_ m.slot m.listen x):1<=Has w x:=by
 have:=ow x;rw [jg h] at this;omega
theorem zjG (ow:∀ x,jM m x<=Has w x) {p:Nat} (h:ph m=p) (hp:1<=p∧p<=4):0<=m.listen∧∃ x,w.zd[m.listen.toNat]?= some x∧1<=x.zg:=by
 have:=zc1 ow h (.lis m.listen) (by simp [qa,hp]);simp only [Has] at this;split at this
 ·rename_i q;split at this
  ·rename_i x hx;exact ⟨q,x,hx,by omega⟩
  ·omega
 ·omega
theorem zr0 (st:St N K w) (tg:Tg N w) (su:qC w m v g e) (tm:TyM m) (lo:LcH w m v g e) (hk:m.op.kind=1) (hK:K<=1099511627776) (ow:∀ x,jM m x<=Has w x) (p:m.pc=22):∃ r,qi w m v g e=some r∧Nc N K w m LcH FiH r:=by
 have l0:=lo.lis (.inr p);have k1:=lo.kind p;have p1:ph m=1:=(ph1 su.done hk uM);obtain ⟨_,x,hx,x1⟩:=zjG ow p1 (by decide);have ca:=st.cal.lis x (List.mem_of_getElem? hx);have hw:IntKind.i64.wrap (x.zg - 1)=x.zg - 1:=q0 (by omega) (by omega);have st2:=ziK st su hx (x.zg - 1) (by omega) (by omega) hK;have an:=lo.ans (by omega);unfold qi zfX;rw [if_neg (by omega),if_neg (by omega),if_neg (by omega),if_neg (by omega),if_neg (by omega),if_neg (by omega),if_neg (by omega),if_neg (by omega),if_neg (by omega),if_neg (by omega),if_neg (by omega),if_neg (by omega),if_neg (by omega),if_pos p,if_neg (by omega),hx,Option.map_some];unfold zev;rw [hw]
 exact zL rfl ⟨tM,st2,tg.mono (Nat.le_succ N),uO,rfl,rfl,zaZ hx rfl id,za4 (p:=1) (p':=0) p1 (ph1 su.done hk uM) (zjU l0 hx x1 rfl _ _ _ _ _ _ _ _ _),.inr ⟨v,g,e,⟨qe.2 st2.jj,su.zj,su.done,su.version,su.atv,su.zf,su.atg,su.end_,su.ate,su.other,su.slot,by simpa using su.listen,su.i,su.k⟩,
  ⟨uL,uK,uK,uK,uK,uK,uK,uK,fun _=>an,uK⟩⟩⟩
theorem zr1 (st:St N K w) (tg:Tg N w) (su:qC w m v g e) (tm:TyM m) (lo:LcH w m v g e) (hk:m.op.kind=1) (p:m.pc=23):∃ r,qi w m v g e=some r∧Nc N K w m LcH FiH r:=by
 have ep:=(qb.1 st.jj.ground).zn;have st2:=(st.mono (by omega) (by omega):St (N+1) (K+1) w).pin m.zj.toNat (p:=0) (by omega) (by omega);have an:=lo.ans (by omega)
 have ow:jM m=jM { m with done:=true }:=by
  by_cases k1:m.answer.kind=1
  ·exact zhH (p:=3) (ph1 su.done hk uM) (zhI rfl hk k1) rfl rfl rfl rfl rfl
  ·exact vC (ph1 su.done hk uM) (yk rfl (fun h=>k1 h.2))
 unfold qi;rw [if_neg (by omega),if_neg (by omega),if_neg (by omega),if_neg (by omega),if_neg (by omega),if_neg (by omega),if_neg (by omega),if_neg (by omega),if_neg (by omega),if_neg (by omega),if_neg (by omega),if_neg (by omega),if_neg (by omega),if_neg (by omega),if_pos p];exact zL rfl ⟨tI,st2,tg.mono (Nat.le_succ N),uP,rfl,rfl,xE (Int.le_refl _) (by simp) rfl rfl rfl rfl,wK rfl rfl rfl rfl rfl ow,.inl ⟨rfl,an⟩⟩
theorem zl6 (st:St N K w) (tg:Tg N w) (su:qC w m v g e) (tm:TyM m) (lo:LcH w m v g e) (hk:m.op.kind=1) (hN:N<=100000000) (hK:K<=1099511627776) (ow:∀ x,jM m x<=Has w x):∃ r,qi w m v g e=some r∧Nc N K w m LcH FiH r:=by
 have pc:=lo.pc;by_cases h3:m.pc < 3
 ·exact zr2 st tg su tm lo hk h3
 rcases (by omega:m.pc=3∨m.pc=4∨m.pc=5∨m.pc=6∨m.pc=7∨m.pc=8∨m.pc=9∨m.pc=10∨m.pc=11∨m.pc=12∨m.pc=20∨m.pc=21∨m.pc=22∨m.pc=23) with p | p | p | p | p | p | p | p | p | p | p | p | p | p
 ·exact zte st tg su tm lo hk hN p
 ·exact ztf st tg su tm lo hk hK p
 ·exact ztg st tg su tm lo hk p
 ·exact zth st tg su tm lo hk p
 ·exact zti st tg su tm lo hk p
 ·exact ztj st tg su tm lo hk p
 ·exact ztk st tg su tm lo hk p
 ·exact zrV st tg su tm lo hk p
 ·exact zrW st tg su tm lo hk hN p
 ·exact zrX st tg su tm lo hk hK p
 ·exact zrY st tg su tm lo hk p
 ·exact zrZ st tg su tm lo hk p
 ·exact zr0 st tg su tm lo hk hK ow p
 ·exact zr1 st tg su tm lo hk p
end
end Go.Wor
