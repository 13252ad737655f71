import Derived.WalkKit
import Derived.Still
import Derived.LoopN
import Derived.LoopNIn
import Derived.ControlIn
import Derived.CallsIn
import Derived.TacticsIn
import Derived.OrdersIn
import Derived.Scope
import Derived.RangeFuncLeaves
import Derived.RangeFuncRecord
set_option linter.all false
set_option maxRecDepth 100000
set_option maxHeartbeats 4000000
namespace Go.Ab
abbrev Hop:=Nat × Nat
inductive C where
 | v (x:Value)
 | lst (o sz:Nat) (rows:List (List C))
 | jG (cells:List C)
 | ref (id:Nat) (hops:List Hop) (sz i k:Nat)
 | sl (id:Nat) (hops:List Hop) (sz lo len:Nat) (full:Bool)
 | fn (f:FuncId) (first caps:List C)
 | mp (id:Nat)
 | agg (cs:List C)
 | tup (vs:List C)
 | un
 | za
 | gl (id sz:Nat) (rows:List (List C))
 | ifc (t:TypeId) (c:C)
 | rc (o:Obj)
structure Ob where
 kind:Nat
 ty:TypeId
 sz:Nat
 rows:List (List C)
 fz:Nat:=0
abbrev zk:=List Ob
structure Env where
 n:Nat
 β:Nat->List Hop->Nat
 κ:Nat->List Hop->Nat
 St:Nat->Nat->Option Value
 G:Nat->Nat->Option Value:=fun _ _=>none
def Env.shut (E:Env):Env:={ E with n:=0 }
def Env.at (E:Env) (kd:Nat):Env:=if kd=2 then E.shut else E
inductive L:Env->C->Value->Prop
 | v {E:Env} (x:Value) (h:x.oneCell'=true):L E (.v x) x
 | lst {E:Env} (o sz:Nat) (rows:List (List C)) (b off cap:Nat) (us:Nat->Nat->Value) (ho:o=0∨o=1∧cap=rows.length) (hc:rows.length<=cap)
   (hsz:∀ r ∈ rows,r.length=sz)
   (hst:∀ (i:Nat) r (k:Nat) c,rows[i]?= some r->r[k]?= some c->E.St b (off+i * sz+k)=some (us i k))
   (hL:∀ (i:Nat) r (k:Nat) c,rows[i]?= some r->r[k]?= some c->L E.shut c (us i k)):
   L E (.lst o sz rows) (.slice (some ⟨b,off,none⟩) rows.length cap)
 | xd {E:Env} (o sz:Nat) (ho:o=0∨o=1) (a:Option Addr:=none):L E (.lst o sz []) (.slice a 0 0)
 | jG {E:Env} (cells:List C) (b off:Nat) (us:Nat->Value) (hst:∀ (k:Nat) c,cells[k]?= some c->E.St b (off+k)=some (us k))
   (hL:∀ (k:Nat) c,cells[k]?= some c->L E.shut c (us k)):L E (.jG cells) (.pointer (some ⟨b,off,none⟩))
 | ref {E:Env} (id:Nat) (hops:List Hop) (sz i k:Nat) (hn:id < E.n):L E (.ref id hops sz i k) (.pointer (some ⟨E.β id hops,i * sz+k,none⟩))
 | sl {E:Env} (id:Nat) (hops:List Hop) (sz lo len:Nat) (full:Bool) (cap:Nat) (hn:id < E.n) (hlen:len<=cap) (hf:full=true->cap=len) (hf':full=false->lo+cap=E.κ id hops):
   L E (.sl id hops sz lo len full) (.slice (some ⟨E.β id hops,lo * sz,none⟩) len cap)
 | fn {E:Env} (f:FuncId) (first caps:List C) (ys zs:Array Value) (h1:first.length=ys.size) (h2:caps.length=zs.size)
   (h3:∀ (i:Nat) c y,first[i]?= some c->ys[i]?= some y->L E c y) (h4:∀ (i:Nat) c y,caps[i]?= some c->zs[i]?= some y->L E c y):
   L E (.fn f first caps) (.func (.func f) ys zs)
 | mp {E:Env} (id:Nat) (hn:id < E.n):L E (.mp id) (.map (some (E.β id [])))
 | agg {E:Env} (cs:List C) (ys:Array Value) (h1:cs.length=ys.size) (h2:∀ (i:Nat) c y,cs[i]?= some c->ys[i]?= some y->L E c y) (h3:∀ y ∈ ys,y.oneCell'=true):L E (.agg cs) (.agg ys)
 | tup {E:Env} (cs:List C) (ys:Array Value) (h1:cs.length=ys.size) (h2:∀ (i:Nat) c y,cs[i]?= some c->ys[i]?= some y->L E c y):L E (.tup cs) (.tuple ys)
 | un {E:Env}:L E .un undef
 | za {E:Env} (y:Value):L E .za y
 | gl {E:Env} (id sz:Nat) (rows:List (List C)) (y:Value) (hn:id < E.n) (hg:E.G id rows.length=some y) (h:L E.shut (.lst 0 sz rows) y):L E (.gl id sz rows) y
 | ifc {E:Env} (t:TypeId) (c:C) (y:Value) (h:L E c y):L E (.ifc t c) (.iface t y)
structure Env.le (E E':Env):Prop where
 n:E.n<=E'.n
 β:∀ id hops,id < E.n->E'.β id hops=E.β id hops
 κ:∀ id hops,id < E.n->E'.κ id hops=E.κ id hops
 St:∀ b o u,E.St b o=some u->E'.St b o=some u
 G:∀ id k u,id < E.n->E.G id k=some u->E'.G id k=some u
theorem Env.le.refl (E:Env):E.le E:=⟨Nat.le_refl _,fun _ _ _=>rfl,fun _ _ _=>rfl,fun _ _ _ h=>h,fun _ _ _ _ h=>h⟩
theorem Env.le.trans {E E' E'':Env} (h:E.le E') (h':E'.le E''):E.le E'':=
 ⟨Nat.le_trans h.n h'.n,fun id hops hi=>(h'.β id hops (Nat.lt_of_lt_of_le hi h.n)).trans (h.β id hops hi),fun id hops hi=>(h'.κ id hops (Nat.lt_of_lt_of_le hi h.n)).trans (h.κ id hops hi),
  fun b o u hu=>h'.St b o u (h.St b o u hu),fun id k u hi hu=>h'.G id k u (Nat.lt_of_lt_of_le hi h.n) (h.G id k u hi hu)⟩
theorem Env.zdr (E:Env):E.shut.le E:=⟨Nat.zero_le _,fun _ _ h=>absurd h (Nat.not_lt_zero _),fun _ _ h=>absurd h (Nat.not_lt_zero _),fun _ _ _ h=>h,fun _ _ _ h _=>absurd h (Nat.not_lt_zero _)⟩
theorem Env.le.shut {E E':Env} (h:E.le E'):E.shut.le E'.shut:=⟨Nat.le_refl _,fun _ _ h=>absurd h (Nat.not_lt_zero _),fun _ _ h=>absurd h (Nat.not_lt_zero _),h.St,fun _ _ _ h _=>absurd h (Nat.not_lt_zero _)⟩
theorem Env.le.at {E E':Env} (h:E.le E') (kd:Nat):(E.at kd).le (E'.at kd):=by unfold Env.at;split;exact h.shut;exact h
theorem Env.zsr (E:Env) (kd:Nat):(E.at kd).le E:=by unfold Env.at;split;exact E.zdr;exact .refl E
theorem L.mono {E E':Env} (h:E.le E') {c:C} {y:Value} (hl:L E c y):L E' c y:=by
 induction hl generalizing E' with
 | v x hx=>exact .v x hx
 | lst o sz rows b off cap us ho hc hsz hst _ ih=>exact .lst o sz rows b off cap us ho hc hsz (fun i r k c h1 h2=>h.St _ _ _ (hst i r k c h1 h2)) (fun i r k c h1 h2=>ih i r k c h1 h2 h.shut)
 | xd o sz ho a=>exact .xd o sz ho a
 | jG cells b off us hst _ ih=>exact .jG cells b off us (fun k c h1=>h.St _ _ _ (hst k c h1)) (fun k c h1=>ih k c h1 h.shut)
 | ref id hops sz i k hn=>rw [<- h.β id hops hn];exact .ref id hops sz i k (Nat.lt_of_lt_of_le hn h.n)
 | sl id hops sz lo len full cap hn hlen hf hf'=>
  rw [<- h.β id hops hn];exact .sl id hops sz lo len full cap (Nat.lt_of_lt_of_le hn h.n) hlen hf (fun e=>by rw [h.κ id hops hn];exact hf' e)
 | fn f first caps ys zs h1 h2 _ _ ih1 ih2=>exact .fn f first caps ys zs h1 h2 (fun i c y e1 e2=>ih1 i c y e1 e2 h) (fun i c y e1 e2=>ih2 i c y e1 e2 h)
 | mp id hn=>rw [<- h.β id [] hn];exact .mp id (Nat.lt_of_lt_of_le hn h.n)
 | agg cs ys h1 _ h3 ih=>exact .agg cs ys h1 (fun i c y e1 e2=>ih i c y e1 e2 h) h3
 | tup cs ys h1 _ ih=>exact .tup cs ys h1 (fun i c y e1 e2=>ih i c y e1 e2 h)
 | un=>exact .un
 | za y=>exact .za y
 | gl id sz rows y hn hg _ ih=>exact .gl id sz rows y (Nat.lt_of_lt_of_le hn h.n) (h.G _ _ _ hn hg) (ih h.shut)
 | ifc t c y _ ih=>exact .ifc t c y (ih h)
def zdq:C->Bool
 | .v _ | .lst .. | .jG _=>true
 | _=>false
def zhP:C->Bool
 | .agg cs=>cs.all zdq
 | c=>zdq c
def q8:C->Bool
 | .fn _ first caps=>first.all zhP && caps.all zhP
 | c=>zdq c
theorem L.vV {E:Env} {c:C} {y:Value} (h:L E c y) (hc:zdq c=true):L E.shut c y:=by
 cases h with
 | v x hx=>exact .v _ hx
 | lst o sz rows b off cap us ho h2 hsz hst hL=>exact .lst o sz rows b off cap us ho h2 hsz hst hL
 | xd o sz ho a=>exact .xd o sz ho a
 | jG cells b off us hst hL=>exact .jG cells b off us hst hL
 | _=>simp [zdq] at hc
theorem L.znj {E:Env} {c:C} {y:Value} (h:L E c y) (hc:zhP c=true):L E.shut c y:=by
 cases h with
 | agg cs ys h1 h2 h3=>
  refine .agg cs ys h1 (fun i c y e1 e2=>(h2 i c y e1 e2).vV ?_) h3;exact List.all_eq_true.1 (show cs.all zdq=true from hc) _ (List.mem_of_getElem? e1)
 | v x hx=>exact (L.v (E:=E) _ hx).vV hc
 | lst o sz rows b off cap us ho h2 hsz hst hL=>exact (L.lst (E:=E) o sz rows b off cap us ho h2 hsz hst hL).vV hc
 | xd o sz ho a=>exact (L.xd (E:=E) o sz ho a).vV hc
 | jG cells b off us hst hL=>exact (L.jG (E:=E) cells b off us hst hL).vV hc
 | _=>simp [zhP,zdq] at hc
theorem L.vi {E:Env} {c:C} {y:Value} (h:L E c y) (hc:q8 c=true):L E.shut c y:=by
 cases h with
 | fn f first caps ys zs h1 h2 h3 h4=>
  have hc:(first.all zhP && caps.all zhP)=true:=hc;rw [Bool.and_eq_true] at hc;exact .fn f first caps ys zs h1 h2 (fun i c y e1 e2=>(h3 i c y e1 e2).znj (List.all_eq_true.1 hc.1 _ (List.mem_of_getElem? e1))) (fun i c y e1 e2=>(h4 i c y e1 e2).znj (List.all_eq_true.1 hc.2 _ (List.mem_of_getElem? e1)))
 | v x hx=>exact (L.v (E:=E) _ hx).vV hc
 | lst o sz rows b off cap us ho h2 hsz hst hL=>exact (L.lst (E:=E) o sz rows b off cap us ho h2 hsz hst hL).vV hc
 | xd o sz ho a=>exact (L.xd (E:=E) o sz ho a).vV hc
 | jG cells b off us hst hL=>exact (L.jG (E:=E) cells b off us hst hL).vV hc
 | _=>simp [q8,zdq] at hc
def LL (E:Env) (cs:List C) (ys:List Value):Prop:=cs.length=ys.length∧∀ (i:Nat) c y,cs[i]?= some c->ys[i]?= some y->L E c y
theorem LL.mono {E E':Env} (h:E.le E') {cs:List C} {ys:List Value} (hl:LL E cs ys):LL E' cs ys:=
 ⟨hl.1,fun i c y h1 h2=>(hl.2 i c y h1 h2).mono h⟩
theorem LL.nil {E:Env}:LL E [] []:=⟨rfl,by simp⟩
theorem LL.cons {E:Env} {c:C} {y:Value} {cs:List C} {ys:List Value} (h:L E c y) (hl:LL E cs ys):LL E (c::cs) (y::ys):=by
 refine ⟨by simp [hl.1],?_⟩;intro i c' y' h1 h2;cases i with
 | zero=>simp at h1 h2;subst h1;subst h2;exact h
 | succ i=>simp at h1 h2;exact hl.2 i c' y' h1 h2
theorem LL.cons_inv {E:Env} {c:C} {y:Value} {cs:List C} {ys:List Value} (h:LL E (c::cs) (y::ys)):L E c y∧LL E cs ys:=
 ⟨h.2 0 c y rfl rfl,by simpa using h.1,fun i c' y' h1 h2=>h.2 (i+1) c' y' (by simpa using h1) (by simpa using h2)⟩
theorem LL.one {E:Env} {c:C} {y:Value} (h:L E c y):LL E [c] [y]:=LL.cons h LL.nil
theorem LL.append {E:Env} {cs cs':List C} {ys ys':List Value} (h:LL E cs ys) (h':LL E cs' ys'):LL E (cs++cs') (ys++ys'):=by
 refine ⟨by simp [h.1,h'.1],?_⟩;intro i c y h1 h2;by_cases hi:i < cs.length
 ·rw [List.getElem?_append_left hi] at h1;rw [List.getElem?_append_left (by rw [<- h.1];exact hi)] at h2;exact h.2 i c y h1 h2
 ·rw [List.getElem?_append_right (by omega)] at h1;rw [List.getElem?_append_right (by rw [<- h.1];omega),<- h.1] at h2;exact h'.2 _ c y h1 h2
theorem LL.get {E:Env} {cs:List C} {ys:List Value} (h:LL E cs ys) {i:Nat} {c:C} (hc:cs[i]?= some c):∃ y,ys[i]?= some y∧L E c y:=by
 have hi:i < ys.length:=by rw [<- h.1];exact (List.getElem?_eq_some_iff.1 hc).1
 exact ⟨ys[i],by simp [hi],h.2 i c ys[i] hc (by simp [hi])⟩
theorem LL.take {E:Env} {cs:List C} {ys:List Value} (h:LL E cs ys) (n:Nat):LL E (cs.take n) (ys.take n):=by
 refine ⟨by simp [h.1],?_⟩;intro i c y h1 h2;rw [List.getElem?_take] at h1 h2;split at h1
 ·rename_i hi;rw [if_pos hi] at h2;exact h.2 i c y h1 h2
 ·cases h1
theorem LL.drop {E:Env} {cs:List C} {ys:List Value} (h:LL E cs ys) (n:Nat):LL E (cs.drop n) (ys.drop n):=by
 refine ⟨by simp [h.1],?_⟩;intro i c y h1 h2;rw [List.getElem?_drop] at h1 h2;exact h.2 _ c y h1 h2
theorem LL.set {E:Env} {cs:List C} {ys:List Value} (h:LL E cs ys) {c:C} {y:Value} (hl:L E c y) (i:Nat):LL E (cs.set i c) (ys.set i y):=by
 refine ⟨by simp [h.1],?_⟩;intro j c' y' h1 h2;rw [List.getElem?_set] at h1 h2;by_cases hij:i=j
 ·subst hij;rw [if_pos rfl] at h1 h2;split at h1
  ·split at h2
   ·cases h1;cases h2;exact hl
   ·cases h2
  ·cases h1
 ·rw [if_neg hij] at h1 h2;exact h.2 j c' y' h1 h2
def C.cells:C->List C
 | .agg cs=>cs
 | c=>[c]
theorem L.cells {E:Env} {c:C} {y:Value} (h:L E c y) (hj:c≠.za) (hu:c≠.un):LL E c.cells y.cells.toList:=by
 have one:∀ (c:C) (y:Value),L E c y->c.cells=[c]->y.cells= #[y]->LL E c.cells y.cells.toList:=fun c y h e1 e2=>by
  rw [e1,e2];exact LL.cons h LL.nil
 cases h with
 | v x hx=>exact one _ _ (.v _ hx) rfl (by cases y <;> simp_all [Value.cells,Value.oneCell'])
 | agg cs ys h1 h2 h3=>exact ⟨by simpa [C.cells,Value.cells] using h1,fun i c y e1 e2=>h2 i c y e1 (by simpa [Value.cells] using e2)⟩
 | un=>exact absurd rfl hu
 | za=>exact absurd rfl hj
 | tup cs ys h1 h2=>exact one _ _ (.tup cs ys h1 h2) rfl rfl
 | lst o sz rows b off cap us ho hc hsz hst hL=>exact one _ _ (.lst o sz rows b off cap us ho hc hsz hst hL) rfl rfl
 | xd o sz ho a=>exact one _ _ (.xd o sz ho a) rfl rfl
 | jG cells b off us hst hL=>exact one _ _ (.jG cells b off us hst hL) rfl rfl
 | ref id hops sz i k hn=>exact one _ _ (.ref id hops sz i k hn) rfl rfl
 | sl id hops sz lo len full cap hn hlen hf hf'=>exact one _ _ (.sl id hops sz lo len full cap hn hlen hf hf') rfl rfl
 | fn f first caps ys zs h1 h2 h3 h4=>exact one _ _ (.fn f first caps ys zs h1 h2 h3 h4) rfl rfl
 | mp id hn=>exact one _ _ (.mp id hn) rfl rfl
 | gl id sz rows y hn hg h=>exact one _ _ (.gl id sz rows y hn hg h) rfl (by cases h <;> rfl)
 | ifc t c y h=>exact one _ _ (.ifc t c y h) rfl rfl
def cellAt (rows:List (List C)) (i k:Nat):Option C:=(rows[i]?).bind (·[k]?)
def y8:Nat->List (List C)->List Hop->Option (Nat × List (List C))
 | sz,rows,[]=>some (sz,rows)
 | _,rows,(i,k)::hs=>match cellAt rows i k with
  | some (.lst 2 sz' rows')=>y8 sz' rows' hs
  | _=>none
def zZ (H:zk) (id:Nat) (hops:List Hop):Option (Nat × List (List C)):=
 match H[id]? with
 | some ob=>if ob.kind=1∨ob.kind=2 then y8 ob.sz ob.rows hops else none
 | none=>none
def qN (E:Env) (kd:Nat) (id:Nat) (hops:List Hop) (i k:Nat) (c:C) (u:Value):Prop:=
 match c with
 | .lst 2 _ rows'=>u=.slice (some ⟨E.β id (hops++[(i,k)]),0,none⟩) rows'.length (E.κ id (hops++[(i,k)]))
 | c=>L (E.at kd) c u∧u.oneCell'=true
structure zg8 (w:World) (E:Env) (kd:Nat) (id:Nat) (hops:List Hop) (sz:Nat) (rows:List (List C)):Prop where
 len:rows.length<=E.κ id hops
 row:∀ r ∈ rows,r.length=sz
 blk:∃ cur e,w.heap[E.β id hops]?= some (.cells cur e (0,0))∧cur.size=E.κ id hops * sz∧
  ∀ i k c,cellAt rows i k=some c->∃ u,cur[i * sz+k]?= some u∧qN E kd id hops i k c u
structure z8 (w:World) (E:Env) (H:zk):Prop where
 n:E.n=H.length
 blk:∀ id ob hops sz rows,H[id]?= some ob->zZ H id hops=some (sz,rows)->zg8 w E ob.kind id hops sz rows
 inj:∀ id hops id' hops' x y,zZ H id hops=some x->zZ H id' hops'=some y->E.β id hops=E.β id' hops'->id=id'∧hops=hops'
 qo:∀ b o u,E.St b o=some u->w.cell? ⟨b,o,none⟩=some u∧u.oneCell'=true
 sep:∀ id hops x o u,zZ H id hops=some x->E.St (E.β id hops) o=some u->hops=[]∧∃ ob,H[id]?= some ob∧o < ob.fz * ob.sz
 ty:∀ id ob,H[id]?= some ob->ob.kind=2->∃ cur,w.heap[E.β id []]?= some (.cells cur ob.ty (0,0))
 fz:∀ (id:Nat) (ob:Ob),H[id]?= some ob->ob.fz<=ob.rows.length
structure S where
 tmps:List C
 H:zk
def qX (E:Env) (H:zk) (b:Nat):Prop:=∃ id hops x,zZ H id hops=some x∧E.β id hops=b
structure qv (w:World) (E:Env) (H:zk) (w':World) (E':Env) (H':zk):Prop where
 le:E.le E'
 zjJ:∀ (id k:Nat),id < E.n->E'.G id k=E.G id k
 os:w'.os=w.os
 tape:w'.tape=w.tape
 output:w'.output=w.output
 size:w.heap.size<=w'.heap.size
 frame:∀ k,k < w.heap.size->¬qX E H k->w'.heap[k]?= w.heap[k]?
 jy:∀ b o u,E'.St b o=some u->E.St b o=some u∨w.heap.size<=b∨qX E H b
 own:∀ b,qX E' H' b->w.heap.size<=b∨qX E H b
theorem qv.refl (w:World) (E:Env) (H:zk):qv w E H w E H:=
 ⟨Env.le.refl E,fun _ _ _=>rfl,rfl,rfl,rfl,Nat.le_refl _,fun _ _ _=>rfl,fun _ _ _ h=>.inl h,fun _ h=>.inr h⟩
theorem qv.trans {w w1 w2:World} {E E1 E2:Env} {H H1 H2:zk} (g:qv w E H w1 E1 H1) (h:qv w1 E1 H1 w2 E2 H2):qv w E H w2 E2 H2 where
 le:=g.le.trans h.le
 zjJ id k hi:=(h.zjJ id k (Nat.lt_of_lt_of_le hi g.le.n)).trans (g.zjJ id k hi)
 os:=h.os.trans g.os
 tape:=h.tape.trans g.tape
 output:=h.output.trans g.output
 size:=Nat.le_trans g.size h.size
 frame k hk ho:=(h.frame k (Nat.lt_of_lt_of_le hk g.size) fun hc=>(g.own k hc).elim (fun hs=>by omega) ho).trans (g.frame k hk ho)
 jy b o u hu:=by
  rcases h.jy b o u hu with h1 | h1 | h1
  ·exact g.jy b o u h1
  ·exact .inr (.inl (Nat.le_trans g.size h1))
  ·rcases g.own b h1 with h2 | h2
   ·exact .inr (.inl h2)
   ·exact .inr (.inr h2)
 own b hb:=by
  rcases h.own b hb with h1 | h1
  ·exact .inl (Nat.le_trans g.size h1)
  ·exact g.own b h1
def qz (E:Env) (H:zk) (id b:Nat):Prop:=∃ ob cap,H[id]?= some ob∧ob.kind=4∧E.G id ob.rows.length=some (.slice (some ⟨b,0,none⟩) ob.rows.length cap)∧cap≠ob.rows.length
def jm (H:zk) (id b:Nat):Prop:=∃ ob o t,H[id]?= some ob∧ob.kind=4∧(ob.rows=[.rc o::t]∧ob.fz=1)∧ob.ty=b
def zcY:Obj->Bool
 | .loop _=>true
 | .map ..=>true
 | .mapIter ..=>true
 | _=>false
def ztm:Obj->List Value
 | .loop r=>r.tmps.toList
 | _=>[]
def zbH (E:Env) (t:List C) (o:Obj):Prop:=LL E t (ztm o)∨∃ es k,o=.map es k∧LL E t (es.toList.map (·.val))
theorem zbH.map {E E':Env} {t:List C} {o:Obj} (h:zbH E t o) (hf:∀ ys,LL E t ys->LL E' t ys):zbH E' t o:=h.imp (hf _) fun ⟨es,k,e,hl⟩=>⟨es,k,e,hf _ hl⟩
theorem zbH.mono {E E':Env} {t:List C} {o:Obj} (h:zbH E t o) (hle:E.le E'):zbH E' t o:=h.map fun _ hl=>hl.mono hle
theorem zbH.loop {E:Env} {t:List C} {r:Loop} (h:zbH E t (.loop r)):LL E t r.tmps.toList:=h.elim id fun ⟨_,_,e,_⟩=>by cases e
theorem z8.zcK {w:World} {E:Env} {H:zk} {b:Nat} (h:z8 w E H) (ho:qX E H b):∃ cur e,w.heap[b]?= some (.cells cur e (0,0)):=by
 obtain ⟨id,hops,x,hx,rfl⟩:=ho;have hx':=hx;unfold zZ at hx';split at hx'
 ·rename_i ob hob;obtain ⟨cur,e,h1,_⟩:=(h.blk id ob hops x.1 x.2 hob hx).blk;exact ⟨cur,e,h1⟩
 ·cases hx'
structure Gro (w:World) (E:Env) (H:zk):Prop where
 val:∀ (id:Nat) (ob:Ob),H[id]?= some ob->ob.kind=4->∃ a cap,E.G id ob.rows.length=some (.slice a ob.rows.length cap)∧(cap=ob.rows.length∨∃ b,a=some ⟨b,0,none⟩∧ob.rows.length<=cap)
 blk:∀ (id b:Nat) (ob:Ob),qz E H id b->H[id]?= some ob->∃ cur cap,E.G id ob.rows.length=some (.slice (some ⟨b,0,none⟩) ob.rows.length cap)∧w.heap[b]?= some (.cells cur ob.ty (0,0))∧cur.size=cap * ob.sz
 sep:∀ id b,qz E H id b->¬qX E H b
 inj:∀ id id' b,qz E H id b->qz E H id' b->id=id'
 st:∀ (id b:Nat) (ob:Ob) o u,qz E H id b->H[id]?= some ob->E.St b o=some u->o < ob.rows.length * ob.sz
 top:∀ (id:Nat) (ob:Ob) (k:Nat) u,H[id]?= some ob->ob.kind=4->E.G id k=some u->k<=ob.rows.length
 lop:∀ (id:Nat) (ob:Ob) (o:Obj) (t:List C),H[id]?= some ob->ob.kind=4->(ob.rows=[.rc o::t]∧ob.fz=1)->(w.heap[ob.ty]?= some o∧zcY o=true)∧zbH E t o
 kQ:∀ id id' b,jm H id b->jm H id' b->id=id'
def jr (H H':zk):Prop:=∀ (id:Nat) (ob:Ob),ob.kind=4->(H'[id]?= some ob↔H[id]?= some ob)
theorem jr.refl (H:zk):jr H H:=fun _ _ _=>Iff.rfl
structure qq (w:World) (E:Env) (H:zk):Prop where
 base:z8 w E H
 gro:Gro w E H
theorem qq.n {w:World} {E:Env} {H:zk} (h:qq w E H):E.n=H.length:=h.base.n
def jV (E:Env) (H:zk) (b:Nat):Prop:=qX E H b∨∃ id,(qz E H id b∨jm H id b)
structure Grow (w:World) (E:Env) (H:zk) (w':World) (E':Env) (H':zk):Prop where
 le:E.le E'
 os:w'.os=w.os
 tape:w'.tape=w.tape
 output:w'.output=w.output
 size:w.heap.size<=w'.heap.size
 frame:∀ k,k < w.heap.size->¬jV E H k->w'.heap[k]?= w.heap[k]?
 jy:∀ b o u,E'.St b o=some u->E.St b o=some u∨w.heap.size<=b∨jV E H b
 own:∀ b,jV E' H' b->w.heap.size<=b∨jV E H b
theorem Grow.refl (w:World) (E:Env) (H:zk):Grow w E H w E H:=
 ⟨Env.le.refl E,rfl,rfl,rfl,Nat.le_refl _,fun _ _ _=>rfl,fun _ _ _ h=>.inl h,fun _ h=>.inr h⟩
theorem Grow.trans {w w1 w2:World} {E E1 E2:Env} {H H1 H2:zk} (g:Grow w E H w1 E1 H1) (h:Grow w1 E1 H1 w2 E2 H2):Grow w E H w2 E2 H2 where
 le:=g.le.trans h.le
 os:=h.os.trans g.os
 tape:=h.tape.trans g.tape
 output:=h.output.trans g.output
 size:=Nat.le_trans g.size h.size
 frame k hk ho:=(h.frame k (Nat.lt_of_lt_of_le hk g.size) fun hc=>(g.own k hc).elim (fun hs=>by omega) ho).trans (g.frame k hk ho)
 jy b o u hu:=by
  rcases h.jy b o u hu with h1 | h1 | h1
  ·exact g.jy b o u h1
  ·exact .inr (.inl (Nat.le_trans g.size h1))
  ·rcases g.own b h1 with h2 | h2
   ·exact .inr (.inl h2)
   ·exact .inr (.inr h2)
 own b hb:=by
  rcases h.own b hb with h1 | h1
  ·exact .inl (Nat.le_trans g.size h1)
  ·exact g.own b h1
theorem qz.back {w:World} {E E':Env} {H H':zk} (hg:Gro w E H) (hn:E.n=H.length) (hle:E.le E') (hk:jr H H') {id b:Nat} (h:qz E' H' id b):qz E H id b:=by
 obtain ⟨ob,cap,h1,h2,h3,h4⟩:=h;have h1':=(hk id ob h2).1 h1;obtain ⟨a,cap',e1,_⟩:=hg.val id ob h1' h2;have e2:=hle.G id ob.rows.length _ (by rw [hn];exact (List.getElem?_eq_some_iff.1 h1').1) e1;rw [h3] at e2;cases e2
 exact ⟨ob,cap,h1',h2,e1,h4⟩
theorem jm.back {H H':zk} (hk:jr H H') {id b:Nat} (h:jm H' id b):jm H id b:=by
 obtain ⟨ob,r,t,h1,h2,h3⟩:=h;exact ⟨ob,r,t,(hk id ob h2).1 h1,h2,h3⟩
theorem Gro.step {w w':World} {E E':Env} {H H':zk} (h:qq w E H) (g:qv w E H w' E' H') (hk:jr H H'):Gro w' E' H' where
 val id ob hob hkd:=by
  have hob':=(hk id ob hkd).1 hob;obtain ⟨a,cap,e1,e2⟩:=h.gro.val id ob hob' hkd;exact ⟨a,cap,g.le.G id ob.rows.length _ (by rw [h.n];exact (List.getElem?_eq_some_iff.1 hob').1) e1,e2⟩
 blk id b ob ho hob:=by
  have ho':=ho.back h.gro h.n g.le hk;obtain ⟨ob2,_,e1,e2,_⟩:=ho;rw [hob] at e1;cases e1
  have hob':=(hk id ob e2).1 hob;obtain ⟨cur,cap,e3,e4,e5⟩:=h.gro.blk id b ob ho' hob';refine ⟨cur,cap,g.le.G id ob.rows.length _ (by rw [h.n];exact (List.getElem?_eq_some_iff.1 hob').1) e3,?_,e5⟩;rw [g.frame b (Array.getElem?_eq_some_iff.1 e4).1 (h.gro.sep id b ho')];exact e4
 sep id b ho:=by
  have ho':=ho.back h.gro h.n g.le hk;intro hc;rcases g.own b hc with h1 | h1
  ·obtain ⟨ob,_,e1,_⟩:=ho';obtain ⟨cur,cap,e3,e4,e5⟩:=h.gro.blk id b ob (ho.back h.gro h.n g.le hk) e1;have:=(Array.getElem?_eq_some_iff.1 e4).1;omega
  ·exact h.gro.sep id b ho' h1
 inj id id' b h1 h2:=h.gro.inj id id' b (h1.back h.gro h.n g.le hk) (h2.back h.gro h.n g.le hk)
 st id b ob o u ho hob hu:=by
  have ho':=ho.back h.gro h.n g.le hk;obtain ⟨ob2,_,e1,e2,_⟩:=ho;rw [hob] at e1;cases e1
  have hob':=(hk id ob e2).1 hob;rcases g.jy b o u hu with h1 | h1 | h1
  ·exact h.gro.st id b ob o u ho' hob' h1
  ·obtain ⟨cur,cap,e3,e4,e5⟩:=h.gro.blk id b ob ho' hob';have:=(Array.getElem?_eq_some_iff.1 e4).1;omega
  ·exact absurd h1 (h.gro.sep id b ho')
 top id ob k u hob hkd hu:=by
  have hob':=(hk id ob hkd).1 hob;rw [g.zjJ id k (by rw [h.n];exact (List.getElem?_eq_some_iff.1 hob').1)] at hu;exact h.gro.top id ob k u hob' hkd hu
 lop id ob r t hob hkd hr:=by
  obtain ⟨⟨h1,hf⟩,hl⟩:=h.gro.lop id ob r t ((hk id ob hkd).1 hob) hkd hr;refine ⟨⟨?_,hf⟩,hl.mono g.le⟩;rw [g.frame ob.ty (Array.getElem?_eq_some_iff.1 h1).1 fun hc=>by obtain ⟨cur,e,h2⟩:=h.base.zcK hc;rw [h1] at h2;cases h2;cases hf];exact h1
 kQ id id' b h1 h2:=h.gro.kQ id id' b (h1.back hk) (h2.back hk)
theorem qv.up {w w':World} {E E':Env} {H H':zk} (h:qq w E H) (g:qv w E H w' E' H') (hk:jr H H'):Grow w E H w' E' H' where
 le:=g.le
 os:=g.os
 tape:=g.tape
 output:=g.output
 size:=g.size
 frame k h1 h2:=g.frame k h1 fun hc=>h2 (.inl hc)
 jy b o u hu:=(g.jy b o u hu).imp_right fun h=>h.imp_right .inl
 own b hb:=by
  rcases hb with hb | ⟨id,hb | hb⟩
  ·exact (g.own b hb).imp_right .inl
  ·exact .inr (.inr ⟨id,.inl (hb.back h.gro h.n g.le hk)⟩)
  ·exact .inr (.inr ⟨id,.inr (hb.back hk)⟩)
abbrev mkD (D:Nat):Deferred:={ target:=.collected D,args:= #[] }
def Marks (m:Nat) (w:World):List Deferred->Prop
 | []=>m<=w.heap.size
 | d::ds=>(∃ D,d=mkD D∧m<=D∧w.heap[D]?= some (.deferred (some []))∧mkD D ∉ ds)∧Marks m w ds
theorem Marks.mono {m:Nat} {w w':World} (hsz:w.heap.size<=w'.heap.size):∀ {ds:List Deferred},Marks m w ds->(∀ D,mkD D ∈ ds->w.heap[D]?= some (.deferred (some []))->w'.heap[D]?= w.heap[D]?)->Marks m w' ds
 | [],h,_=>Nat.le_trans h hsz
 | d::ds,⟨⟨D,h1,h2,h3,h4⟩,ht⟩,hk=>⟨⟨D,h1,h2,(hk D (by rw [h1];exact List.mem_cons_self ..) h3).trans h3,h4⟩,Marks.mono hsz ht fun D' hm hd=>hk D' (List.mem_cons_of_mem _ hm) hd⟩
theorem Marks.le {m:Nat} {w:World}:∀ {ds:List Deferred},Marks m w ds->m<=w.heap.size
 | [],h=>h
 | _::_,⟨_,h⟩=>Marks.le h
theorem qq.free {w:World} {E:Env} {H:zk} {D:Nat} {ds:Option (List Deferred)} (h:qq w E H) (hd:w.heap[D]?= some (.deferred ds)):¬jV E H D:=by
 rintro (ho | ⟨id,⟨ob,cap,hob,h4,hG,hne⟩ | ⟨ob,r,t,hob,h4,hr,rfl⟩⟩)
 ·obtain ⟨cur,e,h1⟩:=h.base.zcK ho;rw [hd] at h1;cases h1
 ·obtain ⟨cur,cap',_,h1,_⟩:=h.gro.blk id D ob ⟨ob,cap,hob,h4,hG,hne⟩ hob;rw [hd] at h1;cases h1
 ·obtain ⟨h1,hf⟩:=(h.gro.lop id ob r t hob h4 hr).1;rw [hd] at h1;cases h1
  cases hf
theorem Marks.grow {m:Nat} {w w':World} {E E':Env} {H H':zk} {ds:List Deferred} (h:Marks m w ds) (hh:qq w E H) (g:Grow w E H w' E' H'):Marks m w' ds:=
 Marks.mono g.size h fun D _ hD=>g.frame D (Array.getElem?_eq_some_iff.1 hD).1 (hh.free hD)
theorem qq.cells {w w':World} {E:Env} {H:zk} (hk:∀ (k:Nat) (o:Obj),w.heap[k]?= some o->(∀ ds,o≠.deferred ds)->w'.heap[k]?= w.heap[k]?) (h:qq w E H):qq w' E H where
 base:={
  n:=h.base.n
  blk:=fun id ob hops sz rows e1 e2=>
   let b:=h.base.blk id ob hops sz rows e1 e2
   ⟨b.len,b.row,let ⟨cur,e,h1,h2⟩:=b.blk;⟨cur,e,(hk _ _ h1 (by simp)).trans h1,h2⟩⟩
  inj:=h.base.inj
  qo:=fun b o u hu=>by
   obtain ⟨h1,h2⟩:=h.base.qo b o u hu;refine ⟨?_,h2⟩;unfold World.cell? at h1 ⊢;split at h1
   ·rename_i c t z hc;rw [hk _ _ hc (by simp),hc];exact h1
   ·cases h1
  sep:=h.base.sep
  ty:=fun id ob e1 e2=>let ⟨cur,h1⟩:=h.base.ty id ob e1 e2;⟨cur,(hk _ _ h1 (by simp)).trans h1⟩
  fz:=h.base.fz }
 gro:={
  val:=h.gro.val
  blk:=fun id b ob e1 e2=>let ⟨cur,cap,h1,h2,h3⟩:=h.gro.blk id b ob e1 e2;⟨cur,cap,h1,(hk _ _ h2 (by simp)).trans h2,h3⟩
  sep:=h.gro.sep
  inj:=h.gro.inj
  st:=h.gro.st
  top:=h.gro.top
  lop:=fun id ob r t e1 e2 e3=>let h1:=h.gro.lop id ob r t e1 e2 e3;⟨⟨(hk _ _ h1.1.1 (by intro ds e;have:=h1.1.2;rw [e] at this;cases this)).trans h1.1.1,h1.1.2⟩,h1.2⟩
  kQ:=h.gro.kQ }
structure xx (B m:Nat) (w:World) (E:Env) (s:S) (a:Act):Prop where
 heap:qq w E s.H
 tmps:LL E s.tmps a.tmps.toList
 defers:Marks m w a.defers
 base:B<=s.H.length
structure Env.leB (B:Nat) (E E':Env):Prop where
 β:∀ id hops,id < B->E'.β id hops=E.β id hops
 κ:∀ id hops,id < B->E'.κ id hops=E.κ id hops
 St:∀ b o u,E.St b o=some u->E'.St b o=some u
 G:∀ id k u,id < B->E.G id k=some u->E'.G id k=some u
theorem Env.leB.refl (B:Nat) (E:Env):E.leB B E:=⟨fun _ _ _=>rfl,fun _ _ _=>rfl,fun _ _ _ h=>h,fun _ _ _ _ h=>h⟩
theorem Env.leB.trans {B:Nat} {E E' E'':Env} (h:E.leB B E') (h':E'.leB B E''):E.leB B E'':=
 ⟨fun id hops hi=>(h'.β id hops hi).trans (h.β id hops hi),fun id hops hi=>(h'.κ id hops hi).trans (h.κ id hops hi),fun b o u hu=>h'.St b o u (h.St b o u hu),fun id k u hi hu=>h'.G id k u hi (h.G id k u hi hu)⟩
theorem Env.le.toB {B:Nat} {E E':Env} (h:E.le E') (hB:B<=E.n):E.leB B E':=
 ⟨fun id hops hi=>h.β id hops (Nat.lt_of_lt_of_le hi hB),fun id hops hi=>h.κ id hops (Nat.lt_of_lt_of_le hi hB),h.St,fun id k u hi=>h.G id k u (Nat.lt_of_lt_of_le hi hB)⟩
structure jn (B:Nat) (w:World) (E:Env) (H:zk) (w':World) (E':Env) (H':zk):Prop where
 le:E.leB B E'
 os:w'.os=w.os
 tape:w'.tape=w.tape
 output:w'.output=w.output
 size:w.heap.size<=w'.heap.size
 frame:∀ k,k < w.heap.size->¬jV E H k->w'.heap[k]?= w.heap[k]?
 jy:∀ b o u,E'.St b o=some u->E.St b o=some u∨w.heap.size<=b∨jV E H b
 own:∀ b,jV E' H' b->w.heap.size<=b∨jV E H b
theorem Grow.toB {B:Nat} {w w':World} {E E':Env} {H H':zk} (g:Grow w E H w' E' H') (hB:B<=E.n):jn B w E H w' E' H':=
 ⟨g.le.toB hB,g.os,g.tape,g.output,g.size,g.frame,g.jy,g.own⟩
theorem jn.refl (B:Nat) (w:World) (E:Env) (H:zk):jn B w E H w E H:=
 ⟨Env.leB.refl B E,rfl,rfl,rfl,Nat.le_refl _,fun _ _ _=>rfl,fun _ _ _ h=>.inl h,fun _ h=>.inr h⟩
theorem jn.trans {B:Nat} {w w1 w2:World} {E E1 E2:Env} {H H1 H2:zk} (g:jn B w E H w1 E1 H1) (h:jn B w1 E1 H1 w2 E2 H2):jn B w E H w2 E2 H2 where
 le:=g.le.trans h.le
 os:=h.os.trans g.os
 tape:=h.tape.trans g.tape
 output:=h.output.trans g.output
 size:=Nat.le_trans g.size h.size
 frame k hk ho:=(h.frame k (Nat.lt_of_lt_of_le hk g.size) fun hc=>(g.own k hc).elim (fun hs=>by omega) ho).trans (g.frame k hk ho)
 jy b o u hu:=by
  rcases h.jy b o u hu with h1 | h1 | h1
  ·exact g.jy b o u h1
  ·exact .inr (.inl (Nat.le_trans g.size h1))
  ·rcases g.own b h1 with h2 | h2
   ·exact .inr (.inl h2)
   ·exact .inr (.inr h2)
 own b hb:=by
  rcases h.own b hb with h1 | h1
  ·exact .inl (Nat.le_trans g.size h1)
  ·exact g.own b h1
def fw (q:Option Nat):Fence:={ Fence.wide with round:=q }
def xb:Code->Bool
 | .seq a b=>xb a || xb b
 | .cond _ a b=>xb a || xb b
 | .block _ a=>xb a
 | .loop a=>xb a
 | .scope a=>xb a
 | .rangeFunc ..=>true
 | _=>false
def qQ (P:Program) (B:Nat) (c:Code) (s:S) (R:Exit->S->Prop):Prop:=
 ∀ (q:Option Nat) (m:Nat) (w:World) (E:Env) (a:Act) (Q:Exit->Act->World->Prop),(xb c=true->q=none)->xx B m w E s a->
  (∀ ex s' w' E' a',R ex s'->xx B m w' E' s' a'->jn B w E s.H w' E' s'.H->Q ex a' w')->c.wpIn (fw q) 0 P Q a w
abbrev Run (P:Program) (B:Nat) (c:Code) (s:S) (ex:Exit) (s':S):Prop:=qQ P B c s fun e t=>e=ex∧t=s'
def zaG (P:Program) (B:Nat) (c:Code) (n:Nat) (s:S) (R:Exit->S->Prop):Prop:=
 ∀ (q:Option Nat) (m:Nat) (w:World) (E:Env) (a:Act) (Q:Exit->Act->World->Prop),(xb c=true->q=none)->xx B m w E s a->
  (∀ ex s' w' E' a',R ex s'->xx B m w' E' s' a'->jn B w E s.H w' E' s'.H->Q ex a' w')->Code.roundsIn (fw q) 0 P c Q n a w
def kn (P:Program) (B:Nat) (ops:Array Oper) (l:List Oper) (s:S) (R:S->Prop):Prop:=
 ∀ (q:Option Nat) (m:Nat) (w:World) (E:Env) (a:Act) (Q:Exit->Act->World->Prop),xx B m w E s a->
  (∀ s' w' E' a',R s'->xx B m w' E' s' a'->jn B w E s.H w' E' s'.H->Q .normal a' w')->wpListIn (fw q) 0 P ops Q l a w
def zbO (P:Program) (B:Nat) (o:Oper) (s:S) (R:S->Prop):Prop:=
 ∀ (q:Option Nat) (m:Nat) (w:World) (E:Env) (a:Act) (K:Act->World->Prop) (Q:Exit->Act->World->Prop),xx B m w E s a->
  (∀ s' w' E' a',R s'->xx B m w' E' s' a'->jn B w E s.H w' E' s'.H->K a' w')->o.wpIn (fw q) 0 P a w K Q
def zo (B:Nat) (s s':S):Prop:=
 ∀ (m:Nat) (w:World) (E:Env) (a:Act),xx B m w E s a->∃ E',xx B m w E' s' a∧jn B w E s.H w E' s'.H
theorem zeD {F:Fence} {k:Nat} {P:Program} {c:Code} {Q:Exit->Act->World->Prop}:∀ {n m:Nat},n<=m->∀ {a:Act} {w:World},Code.roundsIn F k P c Q n a w->Code.roundsIn F k P c Q m a w
 | 0,_,_,_,_,h=>(h:False).elim
 | n+1,0,hm,_,_,_=>absurd hm (Nat.not_succ_le_zero n)
 | n+1,m+1,hm,a,w,h=>by
  rw [roundsIn_succ] at h ⊢;refine wpIn_mono h fun e a1 w1 h1=>?_
  cases e with
  | normal=>exact zeD (Nat.le_of_succ_le_succ hm) h1
  | _=>exact h1
section scopes
variable {F:Fence} {n:Nat} {P:Program} {b:Frame} {a:Act} {k:List Item} {cs:List Frame} {w:World} {Q:Exit->Act->World->Prop}
theorem xA {c:Code}:step P (lone (b.atR a (.code (.scope c)::k)) cs w)=.next (lone (b.atR a (.code c:: .inScope c::k)) cs w):=
 step_lone_go (by simp [stepG,stepG.exec,Frame.atR])
theorem zbY {c:Code}:step P (lone (b.atR a (.inScope c::k)) cs w)=.next (lone (b.atR a k) cs w):=
 step_lone_go (by simp [stepG,stepG.exec,Frame.atR])
theorem zbN {c:Code} (h:c.wpIn F n P (Exit.noGoto Q) a w):(Code.scope c).wpIn F n P Q a w:=by
 intro b k cs hro hb hr;have h0:(lone (b.atR a (.code (.scope c)::k)) cs w).fenced P F:=fenced_calm hb hr rfl;obtain ⟨e,a₁,w₁,hq,harr⟩:=h b (.inScope c::k) cs hro hb hr;cases e with
 | normal=>exact ⟨.normal,a₁,w₁,hq,.head h0 xA (StepsIn.trans harr (.one (fenced_calm hb hr rfl) zbY))⟩
 | exit id=>
  have hx:exitTo id (.inScope c::k)=exitTo id k:=by simp [exitTo]
  exact ⟨.exit id,a₁,w₁,hq,fun k' hk=>.head h0 xA (harr.1 k' (by rw [hx];exact hk)),
   fun hr' hk=>let ⟨k₁,h1,h2⟩:=harr.2 hr' (by rw [hx];exact hk);⟨k₁,h1,.head h0 xA h2⟩⟩
 | goto l=>exact hq.elim
 | ret=>exact ⟨_,a₁,w₁,hq,.of_steps (.one h0 xA) harr⟩
 | panic ch=>exact ⟨_,a₁,w₁,hq,.of_steps (.one h0 xA) harr⟩
 | outgrown=>exact ⟨_,a₁,w₁,hq,.of_steps (.one h0 xA) harr⟩
inductive zcy (F:Fence) (n:Nat) (P:Program) (c:Code) (Q:Exit->Act->World->Prop):Nat->Act->World->Prop
 | mk {l:Nat} {a:Act} {w:World} {rest:Code} (Q':Exit->Act->World->Prop):findLabel c l=some rest->rest.wpIn F n P Q' a w->(∀ e a w,Q' e a w->(∀ l,e≠.goto l)->Q e a w)->
   (∀ l a w,Q' (.goto l) a w->zcy F n P c Q l a w)->zcy F n P c Q l a w
theorem zbR {c:Code} {m:Machine} {e:Exit} (hb:F.fn b.fn) (hr:F.room (cs.length+1+n)) (he:∀ l,e≠.goto l) (h:ArrivesIn (Machine.fenced P F) P m b (.inScope c::k) cs e a w):ArrivesIn (Machine.fenced P F) P m b k cs e a w:=by
 cases e with
 | normal=>exact StepsIn.trans h (.one (fenced_calm hb hr rfl) zbY)
 | exit id=>
  have hx:exitTo id (.inScope c::k)=exitTo id k:=by simp [exitTo]
  exact ⟨fun k' hk=>h.1 k' (by rw [hx];exact hk),fun hr' hk=>h.2 hr' (by rw [hx];exact hk)⟩
 | goto l=>exact absurd rfl (he l)
 | ret=>exact h
 | panic ch=>exact h
 | outgrown=>exact h
theorem zd9 {c:Code} {Q':Exit->Act->World->Prop} (h:c.wpIn F n P Q' a w) (hQ:∀ e a w,Q' e a w->(∀ l,e≠.goto l)->Q e a w) (hJ:∀ l a w,Q' (.goto l) a w->zcy F n P c Q l a w):(Code.scope c).wpIn F n P Q a w:=by
 intro b k cs hro hb hr;have h0:(lone (b.atR a (.code (.scope c)::k)) cs w).fenced P F:=fenced_calm hb hr rfl
 have key:∀ l a w,zcy F n P c Q l a w->∀ rest,findLabel c l=some rest->∃ e a' w',Q e a' w'∧ArrivesIn (Machine.fenced P F) P (lone (b.atR a (.code rest:: .inScope c::k)) cs w) b k cs e a' w':=by
  intro l a w hj
  induction hj with
  | mk Q1 hf h1 h2 h3 ih=>
   intro rest hf';rw [hf] at hf';cases hf'
   obtain ⟨e,a₁,w₁,hq,harr⟩:=h1 b (.inScope c::k) cs hro hb hr;by_cases he:∀ l,e≠.goto l
   ·exact ⟨e,a₁,w₁,h2 _ _ _ hq he,zbR hb hr he harr⟩
   ·obtain ⟨l',rfl⟩:∃ l',e=.goto l':=by
     cases e with
     | goto l'=>exact ⟨l',rfl⟩
     | _=>exact absurd (by simp) he
    have hj:=h3 _ _ _ hq;cases hj with
    | mk Q2 hf2 _ _ _=>
     obtain ⟨e₂,a₂,w₂,hq₂,harr₂⟩:=ih _ _ _ hq _ hf2;exact ⟨e₂,a₂,w₂,hq₂,.of_steps (harr.1 _ (by simp [gotoIn,hf2])) harr₂⟩
 obtain ⟨e,a₁,w₁,hq,harr⟩:=h b (.inScope c::k) cs hro hb hr;by_cases he:∀ l,e≠.goto l
 ·exact ⟨e,a₁,w₁,hQ _ _ _ hq he,.of_steps (.one h0 xA) (zbR hb hr he harr)⟩
 ·obtain ⟨l',rfl⟩:∃ l',e=.goto l':=by
   cases e with
   | goto l'=>exact ⟨l',rfl⟩
   | _=>exact absurd (by simp) he
  have hj:=hJ _ _ _ hq;have hj':=hj;cases hj' with
  | mk Q2 hf2 _ _ _=>
   obtain ⟨e₂,a₂,w₂,hq₂,harr₂⟩:=key _ _ _ hj _ hf2;exact ⟨e₂,a₂,w₂,hq₂,.of_steps (.head h0 xA (harr.1 _ (by simp [gotoIn,hf2]))) harr₂⟩
end scopes
section
variable {P:Program} {B:Nat} {s s1 s2 s':S} {ex:Exit}
theorem zo.refl (s:S):zo B s s:=fun m w E a h=>⟨E,h,jn.refl B w E s.H⟩
theorem zo.trans (h:zo B s s1) (h':zo B s1 s2):zo B s s2:=fun m w E a hs=>by
 obtain ⟨E1,h1,g1⟩:=h m w E a hs;obtain ⟨E2,h2,g2⟩:=h' m w E1 a h1;exact ⟨E2,h2,g1.trans g2⟩
variable {R R':Exit->S->Prop}
theorem qQ.pre {c:Code} (hw:zo B s s1) (h:qQ P B c s1 R):qQ P B c s R:=fun q m w E a Q hr hs hq=>by
 obtain ⟨E1,h1,g1⟩:=hw m w E a hs;exact h q m w E1 a Q hr h1 fun ex s' w' E' a' hR h2 g2=>hq ex s' w' E' a' hR h2 (g1.trans g2)
theorem qQ.post {c:Code} (h:qQ P B c s R') (hw:∀ ex s1,R' ex s1->∃ s2,zo B s1 s2∧R ex s2):qQ P B c s R:=fun q m w E a Q hr hs hq=>
 h q m w E a Q hr hs fun ex s1 w' E' a' hR h1 g1=>by
  obtain ⟨s2,hw2,hR2⟩:=hw ex s1 hR;obtain ⟨E2,h2,g2⟩:=hw2 m w' E' a' h1;exact hq ex s2 w' E2 a' hR2 h2 (g1.trans g2)
theorem qQ.mono {c:Code} (h:qQ P B c s R') (hw:∀ ex s1,R' ex s1->R ex s1):qQ P B c s R:=h.post fun ex s1 hR=>⟨s1,.refl s1,hw ex s1 hR⟩
theorem zaG.pre {c:Code} {n:Nat} (hw:zo B s s1) (h:zaG P B c n s1 R):zaG P B c n s R:=fun q m w E a Q hr hs hq=>by
 obtain ⟨E1,h1,g1⟩:=hw m w E a hs;exact h q m w E1 a Q hr h1 fun ex s' w' E' a' hR h2 g2=>hq ex s' w' E' a' hR h2 (g1.trans g2)
theorem qQ.skip (h:R .normal s):qQ P B .skip s R:=fun q m w E a Q hr hs hq=>wpIn_skip (hq _ _ w E a h hs (jn.refl B w E s.H))
theorem qQ.exit (id:Nat) (h:R (.exit id) s):qQ P B (.exit id) s R:=fun q m w E a Q hr hs hq=>wpIn_exit (hq _ _ w E a h hs (jn.refl B w E s.H))
theorem qQ.label (l:Nat) (h:R .normal s):qQ P B (.label l) s R:=fun q m w E a Q hr hs hq=>wpIn_label (hq _ _ w E a h hs (jn.refl B w E s.H))
theorem qQ.ret (h:R .ret s):qQ P B .ret s R:=fun q m w E a Q hr hs hq=>wpIn_ret (hq _ _ w E a h hs (jn.refl B w E s.H))
def zt4 (next:S->Prop) (R:Exit->S->Prop):Exit->S->Prop
 | .normal,s=>next s
 | ex,s=>R ex s
theorem qQ.seq {x y:Code} (h:qQ P B x s (zt4 (fun s1=>qQ P B y s1 R) R)):qQ P B (.seq x y) s R:=fun q m w E a Q hr hs hq=>
 wpIn_seq (h q m w E a _ (fun e=>hr (by simp [xb,e])) hs fun ex s1 w1 E1 a1 hR h1 g1=>by
  cases ex with
  | normal=>exact (hR:qQ P B y s1 R) q m w1 E1 a1 Q (fun e=>hr (by simp [xb,e])) h1 fun ex s2 w2 E2 a2 hR2 h2 g2=>hq ex s2 w2 E2 a2 hR2 h2 (g1.trans g2)
  | _=>exact hq _ s1 w1 E1 a1 hR h1 g1)
def zpq (id:Nat) (R:Exit->S->Prop):Exit->S->Prop
 | .exit id',s=>if id'=id then R .normal s else R (.exit id') s
 | ex,s=>R ex s
theorem qQ.block {id:Nat} {c:Code} (h:qQ P B c s (zpq id R)):qQ P B (.block id c) s R:=fun q m w E a Q hr hs hq=>
 wpIn_block (h q m w E a _ hr hs fun ex s1 w1 E1 a1 hR h1 g1=>by
  cases ex with
  | exit id'=>
   simp only [Exit.inBlock,zpq] at *;split
   ·rename_i hi;rw [if_pos hi] at hR;exact hq _ s1 w1 E1 a1 hR h1 g1
   ·rename_i hi;rw [if_neg hi] at hR;exact hq _ s1 w1 E1 a1 hR h1 g1
  | _=>exact hq _ s1 w1 E1 a1 hR h1 g1)
def ztq (R:Exit->S->Prop):Exit->S->Prop
 | .goto _,_=>False
 | ex,s=>R ex s
theorem qQ.scope {c:Code} (h:qQ P B c s (ztq R)):qQ P B (.scope c) s R:=fun q m w E a Q hr hs hq=>
 zbN (h q m w E a _ hr hs fun ex s1 w1 E1 a1 hR h1 g1=>by
  cases ex with
  | goto l=>exact (hR:False).elim
  | _=>exact hq _ s1 w1 E1 a1 hR h1 g1)
theorem qQ.goto (l:Nat) (h:R (.goto l) s):qQ P B (.goto l) s R:=fun q m w E a Q hr hs hq=>wpIn_goto (hq _ _ w E a h hs (jn.refl B w E s.H))
theorem zdN:∀ {c:Code} {l:Nat} {rest:Code},findLabel c l=some rest->xb rest=true->xb c=true:=by
 intro c
 induction c with
 | seq x y ihx ihy=>
  intro l rest h hr;simp only [findLabel] at h;split at h
  ·rename_i r hx;cases h
   simp only [xb,Bool.or_eq_true] at hr ⊢;exact hr.imp (ihx hx) id
  ·simp only [xb,Bool.or_eq_true];exact .inr (ihy h hr)
 | label l'=>
  intro l rest h hr;simp only [findLabel] at h;split at h
  ·cases h;cases hr
  ·cases h
 | _=>intro l rest h;simp [findLabel] at h
inductive zfk (P:Program) (B:Nat) (c:Code) (R:Exit->S->Prop):Nat->S->Prop
 | mk {l:Nat} {s:S} {rest:Code} (R':Exit->S->Prop):findLabel c l=some rest->qQ P B rest s R'->(∀ e s,R' e s->(∀ l,e≠.goto l)->R e s)->(∀ l s,R' (.goto l) s->zfk P B c R l s)->zfk P B c R l s
theorem zfk.zut {c:Code} {l:Nat} (h:zfk P B c R l s):∀ (q:Option Nat) (m:Nat) (w:World) (E:Env) (a:Act) (Q:Exit->Act->World->Prop),(xb c=true->q=none)->xx B m w E s a->
  (∀ ex s' w' E' a',R ex s'->xx B m w' E' s' a'->jn B w E s.H w' E' s'.H->Q ex a' w')->zcy (fw q) 0 P c Q l a w:=by
 induction h with
 | @mk l s rest R1 hf h1 h2 h3 ih=>
  intro q m w E a Q hr hs hq
  refine .mk (fun e a' w'=>∃ s' E',R1 e s'∧xx B m w' E' s' a'∧jn B w E s.H w' E' s'.H) hf (h1 q m w E a _ (fun e=>hr (zdN hf e)) hs fun ex s' w' E' a' hR h g=>⟨s',E',hR,h,g⟩)
   (fun e a' w' ⟨s',E',hR,h,g⟩ he=>hq _ _ _ _ _ (h2 _ _ hR he) h g) (fun l' a' w' ⟨s',E',hR,h,g⟩=>?_)
  exact ih _ _ hR q m w' E' a' Q hr h fun ex s2 w2 E2 a2 hR2 hs2 g2=>hq ex s2 w2 E2 a2 hR2 hs2 (g.trans g2)
def zsx (P:Program) (B:Nat) (c:Code) (R:Exit->S->Prop):Exit->S->Prop
 | .goto l,s=>zfk P B c R l s
 | ex,s=>R ex s
theorem qQ.zto {c:Code} (h:qQ P B c s (zsx P B c R)):qQ P B (.scope c) s R:=fun q m w E a Q hr hs hq=>
 zd9 (Q':=fun e a' w'=>∃ s' E',zsx P B c R e s'∧xx B m w' E' s' a'∧jn B w E s.H w' E' s'.H) (h q m w E a _ hr hs fun ex s' w' E' a' hR h g=>⟨s',E',hR,h,g⟩)
  (fun e a' w' ⟨s',E',hR,h,g⟩ he=>by
   cases e with
   | goto l=>exact absurd rfl (he l)
   | _=>exact hq _ _ _ _ _ hR h g)
  (fun l a' w' ⟨s',E',hR,h,g⟩=>zfk.zut hR q m w' E' a' Q hr h fun ex s2 w2 E2 a2 hR2 hs2 g2=>hq ex s2 w2 E2 a2 hR2 hs2 (g.trans g2))
theorem zaG.step {c:Code} {n:Nat} (h:qQ P B c s (zt4 (fun s1=>zaG P B c n s1 R) R)):zaG P B c (n+1) s R:=fun q m w E a Q hr hs hq=>by
 rw [roundsIn_succ]
 exact h q m w E a _ hr hs fun ex s1 w1 E1 a1 hR h1 g1=>by
  cases ex with
  | normal=>exact (hR:zaG P B c n s1 R) q m w1 E1 a1 Q hr h1 fun ex s2 w2 E2 a2 hR2 h2 g2=>hq ex s2 w2 E2 a2 hR2 h2 (g1.trans g2)
  | _=>exact hq _ s1 w1 E1 a1 hR h1 g1
theorem zaG.more {c:Code} {n m:Nat} (hm:n<=m) {s:S} (h:zaG P B c n s R):zaG P B c m s R:=fun q k w E a Q hr hs hq=>zeD hm (h q k w E a Q hr hs hq)
def qf (P:Program) (B:Nat) (c:Code) (s:S) (R:Exit->S->Prop):Prop:=∃ n,zaG P B c n s R
theorem qf.pre {c:Code} (hw:zo B s s1) (h:qf P B c s1 R):qf P B c s R:=let ⟨n,hn⟩:=h;⟨n,.pre hw hn⟩
theorem qQ.loop {c:Code} (h:qf P B c s R):qQ P B (.loop c) s R:=fun q m w E a Q hr hs hq=>let ⟨n,hn⟩:=h;wpIn_loop_rounds n (hn q m w E a Q hr hs hq)
def ofV:Value->C
 | .slice none 0 0=>.lst 1 0 []
 | .func (.func f) first caps=>if first.size=0∧caps.size=0 then .fn f [] [] else .za
 | .tuple vs=>if vs.size=0 then .un else .za
 | .agg _=>.za
 | x=>.v x
theorem zsB (E:Env) (x:Value):L E (ofV x) x:=by
 unfold ofV;split
 ·exact .xd _ _ (.inr rfl)
 ·rename_i f first caps;split
  ·rename_i h;obtain ⟨h1,h2⟩:=h;obtain rfl:first= #[]:=Array.eq_empty_of_size_eq_zero h1;obtain rfl:caps= #[]:=Array.eq_empty_of_size_eq_zero h2;exact .fn f [] [] #[] #[] rfl rfl (by simp) (by simp)
  ·exact .za _
 ·rename_i vs;split
  ·rename_i h;obtain rfl:vs= #[]:=Array.eq_empty_of_size_eq_zero h;exact .un
  ·exact .za _
 ·exact .za _
 ·rename_i h1 h2;refine .v _ ?_;cases x <;> simp_all [Value.oneCell']
def ev (tmps:List C):Operand->C
 | .tmp t=>(tmps[t]?).getD .za
 | .const v=>ofV v
 | .global g=>.v (.pointer (some ⟨g,0,none⟩))
 | .func f=>.fn f [] []
theorem zpE {E:Env} {tmps:List C} {a:Act} (h:LL E tmps a.tmps.toList) (x:Operand):L E (ev tmps x) (a.eval x):=by
 cases x with
 | tmp t=>
  simp only [ev,Act.eval];cases ht:tmps[t]? with
  | none=>exact .za _
  | some c=>
   obtain ⟨y,hy,hl⟩:=h.get ht
   have:a.tmps.getD t undef=y:=by
    rw [Array.getElem?_toList] at hy;rw [Array.getD_eq_getD_getElem?,hy];rfl
   rw [this];exact hl
 | const v=>exact zsB E v
 | global g=>exact .v _ rfl
 | func f=>exact .fn f [] [] #[] #[] rfl rfl (by simp) (by simp)
def zdy (ops:Array Oper) (tmps:List C) (j:Nat):Option (Option Bool):=
 match (ops[j]?).bind (·.dst) with
 | none=>some none
 | some d=>match tmps[d]? with
  | none=>some none
  | some (.v (.bool b))=>some (some b)
  | some .un=>some none
  | _=>none
theorem zha {E:Env} {ops:Array Oper} {tmps:List C} {a:Act} (h:LL E tmps a.tmps.toList) {j:Nat} {r:Option Bool} (hr:zdy ops tmps j=some r):yielded ops a.tmps j=r:=by
 unfold zdy at hr;unfold yielded;cases hd:(ops[j]?).bind (·.dst) with
 | none=>simp only [hd] at hr;cases hr;rfl
 | some d=>
  simp only [hd,Option.bind_some] at hr ⊢;cases ht:tmps[d]? with
  | none=>
   simp only [ht] at hr;cases hr
   have hn:a.tmps[d]?= none:=by
    rw [Array.getElem?_eq_none_iff];have:=List.getElem?_eq_none_iff.1 ht;have h1:=h.1;simp at h1;omega
   rw [hn]
  | some c=>
   simp only [ht] at hr;obtain ⟨y,hy,hl⟩:=h.get ht;rw [Array.getElem?_toList] at hy;rw [hy];split at hr
   ·rename_i e;cases e
   ·rename_i e;cases e;cases hr;cases hl;rfl
   ·rename_i e;cases e;cases hr;cases hl;rfl
   ·cases hr
def ju (ops:Array Oper) (tmps:List C) (o:Oper):Option Bool:=
 match o.guard with
 | none=>some true
 | some (j,want)=>match zdy ops tmps j with
  | some (some b)=>some (b == want)
  | some none=>some false
  | none=>none
theorem jD {E:Env} {ops:Array Oper} {tmps:List C} {a:Act} (h:LL E tmps a.tmps.toList) {o:Oper} {b:Bool} (hb:ju ops tmps o=some b):
  Region.wanted o (yielded ops a.tmps)=b:=by
 unfold ju at hb;unfold Region.wanted;split at hb
 ·rename_i hg;simp only [hg];cases hb;rfl
 ·rename_i j want hg;simp only [hg];split at hb
  ·rename_i x hx;rw [zha h hx];cases hb;cases x <;> cases want <;> rfl
  ·rename_i hx;rw [zha h hx];cases hb;rfl
  ·cases hb
def put (tmps:List C) (dst:Option Tmp) (c:C):List C:=
 match dst with
 | some d=>tmps.set d c
 | none=>tmps
theorem ziR {E:Env} {tmps:List C} {a:Act} (h:LL E tmps a.tmps.toList) {c:C} {y:Value} (hl:L E c y) (dst:Option Tmp):LL E (put tmps dst c) (a.put dst y).tmps.toList:=by
 cases dst with
 | none=>exact h
 | some d=>simpa [put,Act.put] using h.set hl d
theorem xx.put {m:Nat} {w:World} {E:Env} {s:S} {a:Act} (h:xx B m w E s a) {c:C} {y:Value} (hl:L E c y) (dst:Option Tmp):
  xx B m w E ⟨Ab.put s.tmps dst c,s.H⟩ (a.put dst y):=
 ⟨h.heap,ziR h.tmps hl dst,by cases dst <;> exact h.defers,h.base⟩
theorem kn.nil {ops:Array Oper} {R:S->Prop} (h:R s):kn P B ops [] s R:=fun q m w E a Q hs hq=>wpListIn_nil (hq s w E a h hs (jn.refl B w E s.H))
theorem kn.run {ops:Array Oper} {o:Oper} {l:List Oper} {R1 R:S->Prop} (hw:ju ops s.tmps o=some true) (h:zbO P B o s R1) (h':∀ s1,R1 s1->kn P B ops l s1 R):kn P B ops (o::l) s R:=fun q m w E a Q hs hq=>by
 unfold wpListIn;rw [if_pos (jD hs.tmps hw)];exact h q m w E a _ Q hs fun s1 w1 E1 a1 hR h1 g1=>h' s1 hR q m w1 E1 a1 Q h1 fun s2 w2 E2 a2 hR2 h2 g2=>hq s2 w2 E2 a2 hR2 h2 (g1.trans g2)
theorem kn.pass {ops:Array Oper} {o:Oper} {l:List Oper} {R:S->Prop} (hw:ju ops s.tmps o=some false) (h':kn P B ops l ⟨put s.tmps o.dst .un,s.H⟩ R):kn P B ops (o::l) s R:=fun q m w E a Q hs hq=>by
 unfold wpListIn;rw [if_neg (by rw [jD hs.tmps hw];decide)];exact ⟨fun _ _=>trivial,h' q m w E _ Q (hs.put (.un) o.dst) hq⟩
theorem qQ.region {id:Nat} {ops:Array Oper} {R:Exit->S->Prop} (h:kn P B ops ops.toList s (R .normal)):qQ P B (.region id ops false) s R:=fun q m w E a Q hs0 hs hq=>
 wpIn_region_list (h q m w E a Q hs fun s' w' E' a' hR h1 g1=>hq _ s' w' E' a' hR h1 g1)
theorem qQ.cond {c:Operand} {x y:Code} {b:Bool} {R:Exit->S->Prop} (hc:ev s.tmps c=.v (.bool b)) (h:qQ P B (if b then x else y) s R):qQ P B (.cond c x y) s R:=fun q m w E a Q hr hs hq=>by
 have:=zpE hs.tmps c;rw [hc] at this;have hb:a.eval c=.bool b:=by generalize a.eval c=z at *;cases this;rfl
 exact wpIn_cond hb (h q m w E a Q (fun e=>hr (by cases b <;> simp_all [xb])) hs hq)
end
def upV (P:Program) (K:Value->World->Prop):Result Next->Prop
 | .ok (.value v) w=>K v w
 | .ok .skip w=>K undef w
 | .ok (.enter f args) w=>Calls P f args w fun e w'=>∃ v,e=.returned v∧K v w'
 | .ok (.round l f tmps assign body) w=>RoundIn (fw none) 0 P l f tmps assign body w fun e w'=>∃ v,e=.returned v∧K v w'
 | _=>False
def OpV (P:Program) (o:Oper) (ρ:Operand->C) (H:zk) (c:C) (H':zk):Prop:=
 ∀ (w:World) (E:Env) (σ:Operand->Value),qq w E H->(∀ x ∈ o.op.operands,L E (ρ x) (σ x))->
  ∀ K:Value->World->Prop,(∀ v w' E',qq w' E' H'->L E' c v->Grow w E H w' E' H'->K v w')->upV P K ((execOp σ o).run P w)
def qB (P:Program) (o:Oper) (ρ:Operand->C) (H:zk) (c:C) (H':zk):Prop:=
 ∀ (w:World) (E:Env) (σ:Operand->Value),z8 w E H->(∀ x ∈ o.op.operands,L E (ρ x) (σ x))->
  ∀ K:Value->World->Prop,(∀ v w' E',z8 w' E' H'->L E' c v->qv w E H w' E' H'->K v w')->upV P K ((execOp σ o).run P w)
def zcB (P:Program) (o:Oper) (ρ:Operand->C) (H:zk) (c:C) (H':zk):Prop:=
 ∀ (w:World) (E:Env) (σ:Operand->Value),qq w E H->(∀ x ∈ o.op.operands,L E (ρ x) (σ x))->(∀ v,σ (.const v)=v)->
  ∀ K:Value->World->Prop,(∀ v w' E',qq w' E' H'->L E' c v->Grow w E H w' E' H'->K v w')->upV P K ((execOp σ o).run P w)
def jt (P:Program) (o:Oper) (ρ:Operand->C) (H:zk) (R:C->zk->Prop):Prop:=
 ∀ (w:World) (E:Env) (σ:Operand->Value),qq w E H->(∀ x ∈ o.op.operands,L E (ρ x) (σ x))->(∀ v,σ (.const v)=v)->
  ∀ K:Value->World->Prop,(∀ c H' v w' E',R c H'->qq w' E' H'->L E' c v->Grow w E H w' E' H'->K v w')->upV P K ((execOp σ o).run P w)
theorem zcB.toR {P:Program} {o:Oper} {ρ:Operand->C} {H H':zk} {c:C} {R:C->zk->Prop} (h:zcB P o ρ H c H') (hR:R c H'):jt P o ρ H R:=fun w E σ hh hl hc K hk=>h w E σ hh hl hc K fun v w' E'=>hk c H' v w' E' hR
theorem OpV.toR {P:Program} {o:Oper} {ρ:Operand->C} {H H':zk} {c:C} {R:C->zk->Prop} (h:OpV P o ρ H c H') (hR:R c H'):jt P o ρ H R:=fun w E σ hh hl _ K hk=>h w E σ hh hl K fun v w' E'=>hk c H' v w' E' hR
theorem zbO.zfe {P:Program} {B:Nat} {o:Oper} {s:S} {R:C->zk->Prop} (h:jt P o (ev s.tmps) s.H R):zbO P B o s (fun s'=>∃ c H',R c H'∧s'=⟨put s.tmps o.dst c,H'⟩):=fun q m w E a K Q hs hk=>by
 have:=h w E a.eval hs.heap (fun x _=>zpE hs.tmps x) (fun _=>rfl) (fun v w'=>K (a.put o.dst v) w') fun c H' v w' E' hR h1 h2 g=>
  hk _ w' E' _ ⟨c,H',hR,rfl⟩ ⟨h1,ziR (hs.tmps.mono g.le) h2 o.dst,by have:=hs.defers.grow hs.heap g;cases o.dst <;> exact this,by have:=g.le.n;rw [hs.heap.n,h1.n] at this;exact Nat.le_trans hs.base this⟩ (g.toB (by rw [hs.heap.n];exact hs.base))
 have hnd:∀ d,o.op≠.defer d:=fun d hd=>by
  have h2:=this;unfold execOp at h2;simp only [hd,Sem.run_bind] at h2;cases hr:(resolve a.eval d o.type).run P w with
  | ok x w1=>simp [hr,Result.andThen,upV] at h2
  | halt x w1=>simp [hr,Result.andThen,upV] at h2
 unfold Oper.wpIn;refine ⟨fun _ _=>trivial,?_⟩;rw [Oper.semAt_eq _ _ _ hnd];generalize (execOp a.eval o).run P w=r at this ⊢;unfold upV at this;split at this
 ·exact this
 ·exact this
 ·rw [Oper.uponIn_enter];refine ⟨fun h=>(by cases h),callsIn_wide.2 (Calls.mono this ?_)⟩;rintro e w' ⟨v,rfl,hv⟩;exact hv
 ·rw [Oper.uponIn_round];refine ⟨fun h=>(by cases h),RoundIn.mono (F:=fw q) this ?_⟩;rintro e w' ⟨v,rfl,hv⟩;exact hv
 ·exact this.elim
theorem zbO.ziI {P:Program} {B:Nat} {o:Oper} {s:S} {c:C} {H':zk} (h:OpV P o (ev s.tmps) s.H c H') (q:Option Nat) (m:Nat) (w:World) (E:Env) (a:Act) (K:Act->World->Prop) (Q:Exit->Act->World->Prop) (hs:xx B m w E s a)
  (hq:∀ w' E' a',xx B m w' E' ⟨put s.tmps o.dst c,H'⟩ a'->jn B w E s.H w' E' H'->K a' w'):o.wpIn (fw q) 0 P a w K Q:=
 zbO.zfe (B:=B) (h.toR (R:=fun x X=>x=c∧X=H') ⟨rfl,rfl⟩) q m w E a K Q hs fun s' w' E' a' ⟨x,X,⟨e1,e2⟩,e3⟩ h1 g1=>by subst e1 e2 e3;exact hq w' E' a' h1 g1
theorem OpV.congr {P:Program} {o:Oper} {ρ ρ':Operand->C} {H H':zk} {c:C} (h:OpV P o ρ H c H') (he:∀ x ∈ o.op.operands,ρ' x=ρ x):OpV P o ρ' H c H':=
 fun w E σ hh hl K hk=>h w E σ hh (fun x hx=>he x hx ▸ hl x hx) K hk
theorem qB.congr {P:Program} {o:Oper} {ρ ρ':Operand->C} {H H':zk} {c:C} (h:qB P o ρ H c H') (he:∀ x ∈ o.op.operands,ρ' x=ρ x):qB P o ρ' H c H':=
 fun w E σ hh hl K hk=>h w E σ hh (fun x hx=>he x hx ▸ hl x hx) K hk
theorem OpV.of0 {P:Program} {o:Oper} {ρ:Operand->C} {H H':zk} {c:C} (h:qB P o ρ H c H') (hk:jr H H'):OpV P o ρ H c H':=fun w E σ hh hl K hK=>
 h w E σ hh.base hl K fun v w' E' h1 h2 g=>hK v w' E' ⟨h1,Gro.step hh g hk⟩ h2 (g.up hh hk)
theorem OpV.same {P:Program} {o:Oper} {ρ:Operand->C} {H:zk} {c:C} (h:qB P o ρ H c H):OpV P o ρ H c H:=.of0 h (jr.refl H)
theorem jr.push (H:zk) (ob:Ob) (hk:ob.kind≠4):jr H (H++[ob]):=fun id ob' h4=>by
 by_cases hlt:id < H.length
 ·rw [List.getElem?_append_left hlt]
 ·rw [List.getElem?_append_right (by omega),List.getElem?_eq_none (l:=H) (by omega)];constructor
  ·intro h;cases hd:id - H.length with
   | zero=>rw [hd] at h;cases h;exact absurd h4 hk
   | succ n=>rw [hd] at h;simp at h
  ·intro h;cases h
theorem jr.modify (H:zk) (id:Nat) (f:Ob->Ob) (hf:∀ ob,H[id]?= some ob->ob.kind≠4∧(f ob).kind≠4):jr H (H.modify id f):=fun id' ob' h4=>by
 rw [List.getElem?_modify];by_cases he:id=id'
 ·subst he;cases hx:H[id]? with
  | none=>simp
  | some ob=>
   obtain ⟨h1,h2⟩:=hf ob hx;simp only [Option.map_eq_map,Option.map_some,if_true];constructor
   ·intro h;cases h;exact absurd h4 h2
   ·intro h;cases h;exact absurd h4 h1
 ·cases hx:H[id']? with
  | none=>simp
  | some ob=>simp [he]
theorem jr.trans {H H' H'':zk} (h:jr H H') (h':jr H' H''):jr H H'':=fun id ob h4=>(h' id ob h4).trans (h id ob h4)
def zbK (P:Program) {α:Type}:Sem α->Option α
 | .pure a=>some a
 | .program k=>zbK P (k P)
 | _=>none
theorem zqE {P:Program} {α:Type} (e:Sem α) {a:α} (h:zbK P e=some a) (w:World):e.run P w=.ok a w:=by
 induction e with
 | pure a'=>simp only [zbK,Option.some.injEq] at h;subst h;rfl
 | program k ih=>simp only [zbK] at h;exact ih P h
 | _=>simp [zbK] at h
def zg5:C->Value
 | .v x=>x
 | _=>undef
def isV:C->Bool
 | .v _=>true
 | _=>false
def xn (o:Oper):Bool:=match o.op with | .select ..=>false | _=>true
theorem qB.scalar {P:Program} {o:Oper} {ρ:Operand->C} {H:zk} {v:Value} (hs:xn o=true) (hv:o.op.operands.all (fun x=>isV (ρ x))=true)
  (hr:zbK P (execOp (fun x=>zg5 (ρ x)) o)=some (.value v)) (h1:v.oneCell'=true):qB P o ρ H (.v v) H:=fun w E σ hh hl K hk=>by
 have he:execOp σ o=execOp (fun x=>zg5 (ρ x)) o:=execOp_congr o (fun cs b hc=>by simp [xn,hc] at hs) fun x hx=>by
  have h1:isV (ρ x)=true:=by
   have:=Array.all_eq_true_iff_forall_mem.1 hv x hx;simpa using this
  have h2:=hl x hx;cases hc:ρ x with
  | v y=>rw [hc] at h2;cases h2;rfl
  | _=>rw [hc] at h1;cases h1
 rw [he,zqE _ hr w];exact hk v w E hh (.v v h1) (qv.refl w E H)
theorem zfr {w:World} {o:Obj} {b off:Nat} (h:b < w.heap.size):(w.alloc o).cell? ⟨b,off,none⟩=w.cell? ⟨b,off,none⟩:=
 World.cell?_alloc_lt _ _ _ h
theorem zbs {w:World} {b off:Nat} {u:Value} (h:w.cell? ⟨b,off,none⟩=some u):b < w.heap.size:=World.block_lt_of_cell? w _ h
def Env.push (E:Env) (g κ:Nat):Env:=
 { n:=E.n+1,β:=fun id hops=>if id=E.n then g else E.β id hops,κ:=fun id hops=>if id=E.n then κ else E.κ id hops,St:=E.St,G:=E.G }
theorem Env.ziQ (E:Env) (g κ:Nat):E.le (E.push g κ):=
 ⟨Nat.le_succ _,fun id hops h=>by simp [Env.push,Nat.ne_of_lt h],fun id hops h=>by simp [Env.push,Nat.ne_of_lt h],fun b o u h=>h,fun _ _ _ _ h=>h⟩
def zx:C->Bool
 | .lst 2 _ _=>false
 | _=>true
theorem qN.loose {E:Env} {kd id:Nat} {hops:List Hop} {i k:Nat} {c:C} {u:Value} (hn:zx c=true):qN E kd id hops i k c u↔L (E.at kd) c u∧u.oneCell'=true:=by
 unfold qN;split
 ·simp [zx] at hn
 ·rfl
theorem qN.mono {E E':Env} (h:E.le E') {kd id:Nat} (hid:id < E.n) {hops:List Hop} {i k:Nat} {c:C} {u:Value} (hc:qN E kd id hops i k c u):qN E' kd id hops i k c u:=by
 unfold qN at *;split at hc
 ·rw [h.β id _ hid,h.κ id _ hid];exact hc
 ·exact ⟨hc.1.mono (h.at kd),hc.2⟩
theorem zad {H:zk} {id:Nat} {hops:List Hop} {x:Nat × List (List C)} (h:zZ H id hops=some x):id < H.length:=by
 unfold zZ at h;split at h
 ·rename_i ob ho;exact (List.getElem?_eq_some_iff.1 ho).1
 ·cases h
theorem qZ {H:zk} {id:Nat} {hops:List Hop} {x:Nat × List (List C)} (h:zZ H id hops=some x):∃ ob,H[id]?= some ob∧(ob.kind=1∨ob.kind=2)∧y8 ob.sz ob.rows hops=some x:=by
 unfold zZ at h;split at h
 ·rename_i ob ho;split at h
  ·rename_i hk;exact ⟨ob,ho,hk,h⟩
  ·cases h
 ·cases h
theorem z8.lt {w:World} {E:Env} {H:zk} (h:z8 w E H) {id:Nat} {hops:List Hop} {x:Nat × List (List C)} (hx:zZ H id hops=some x):E.β id hops < w.heap.size:=by
 obtain ⟨ob,ho,_,_⟩:=qZ hx;obtain ⟨cur,e,hg,_⟩:=(h.blk id ob hops x.1 x.2 ho (by simpa using hx)).blk;exact (Array.getElem?_eq_some_iff.1 hg).1
theorem vx {H:zk} {id:Nat} {hops:List Hop} (h:id < H.length) (X:zk):zZ (H++X) id hops=zZ H id hops:=by
 unfold zZ;rw [List.getElem?_append_left h]
theorem zg8.zix {w:World} {E:Env} {kd id:Nat} {hops:List Hop} {sz:Nat} {rows:List (List C)} (h:zg8 w E kd id hops sz rows):E.β id hops < w.heap.size:=by
 obtain ⟨cur,e,hg,_⟩:=h.blk;exact (Array.getElem?_eq_some_iff.1 hg).1
theorem zg8.step {w w':World} {E E':Env} (hle:E.le E') {kd id:Nat} (hid:id < E.n) {hops:List Hop} {sz:Nat} {rows:List (List C)} (h:zg8 w E kd id hops sz rows)
  (hh:w'.heap[E.β id hops]?= w.heap[E.β id hops]?):zg8 w' E' kd id hops sz rows:=by
 obtain ⟨cur,e,hg,hsz,hc⟩:=h.blk;refine ⟨by rw [hle.κ id hops hid];exact h.len,h.row,cur,e,by rw [hle.β id hops hid,hh];exact hg,by rw [hle.κ id hops hid];exact hsz,?_⟩;intro i k c hcc;obtain ⟨u,hu,ho⟩:=hc i k c hcc;exact ⟨u,hu,ho.mono hle hid⟩
theorem kb {sz:Nat} {rows:List (List C)} (hn:∀ i k c,cellAt rows i k=some c->zx c=true) {hops:List Hop} {x:Nat × List (List C)} (h:y8 sz rows hops=some x):hops=[]∧x=(sz,rows):=by
 cases hops with
 | nil=>simp [y8] at h;exact ⟨rfl,h.symm⟩
 | cons hd tl=>
  obtain ⟨i,k⟩:=hd;simp only [y8] at h;split at h
  ·rename_i h1;have:=hn _ _ _ h1;simp [zx] at this
  ·cases h
theorem z8.push {w:World} {E:Env} {H:zk} (h:z8 w E H) (kind:Nat) (ty:TypeId) (sz κ:Nat) (rows:List (List C)) (cur:Array Value) (hk:kind=1∨kind=2) (hrow:∀ r ∈ rows,r.length=sz)
  (hlen:rows.length<=κ) (hcur:cur.size=κ * sz) (hn:∀ i k c,cellAt rows i k=some c->zx c=true)
  (hc:∀ i k c,cellAt rows i k=some c->∃ u,cur[i * sz+k]?= some u∧L (E.at kind) c u∧u.oneCell'=true):
  z8 (w.alloc (.cells cur ty)) (E.push w.heap.size κ) (H++[⟨kind,ty,sz,rows,0⟩])∧qv w E H (w.alloc (.cells cur ty)) (E.push w.heap.size κ) (H++[⟨kind,ty,sz,rows,0⟩]):=by
 have hle:=E.ziQ w.heap.size κ
 have get:∀ id hops x,zZ (H++[⟨kind,ty,sz,rows,0⟩]) id hops=some x->(id < H.length∧zZ H id hops=some x)∨(id=H.length∧hops=[]∧x=(sz,rows)):=by
  intro id hops x hx;by_cases hlt:id < H.length
  ·exact .inl ⟨hlt,by rw [vx hlt] at hx;exact hx⟩
  ·have h1:=zad hx;simp at h1;have:id=H.length:=by omega
   subst this;simp only [zZ,List.getElem?_append_right (Nat.le_refl _),Nat.sub_self,List.getElem?_cons_zero] at hx;rw [if_pos hk] at hx;obtain ⟨e1,e2⟩:=kb hn hx;exact .inr ⟨rfl,e1,e2⟩
 have hnew:∀ hops,(E.push w.heap.size κ).β H.length hops=w.heap.size:=fun hops=>by simp [Env.push,h.n]
 have hold:∀ id hops,id < H.length->(E.push w.heap.size κ).β id hops=E.β id hops:=fun id hops hlt=>hle.β id hops (by rw [h.n];exact hlt)
 refine ⟨⟨by simp [Env.push,h.n],?_,?_,?_,?_,?_,?_⟩,⟨hle,fun _ _ _=>rfl,rfl,rfl,rfl,by show _<=(w.heap.push _).size;simp,?_,?_,?_⟩⟩
 ·intro id ob hops sz' rows' hob hx;rcases get id hops _ hx with ⟨hlt,hx'⟩ | ⟨rfl,rfl,hx'⟩
  ·rw [List.getElem?_append_left hlt] at hob;have hb:=h.blk id ob hops sz' rows' hob hx';exact hb.step hle (by rw [h.n];exact hlt) (heap_alloc_old w _ hb.zix)
  ·cases hx'
   simp at hob;subst hob;refine ⟨by simp [Env.push,h.n,hlen],hrow,cur,ty,by rw [hnew];exact heap_alloc_new w _,by simp [Env.push,h.n,hcur],?_⟩;intro i k c hcc;obtain ⟨u,hu,hl,ho⟩:=hc i k c hcc;exact ⟨u,hu,(qN.loose (hn i k c hcc)).2 ⟨hl.mono (hle.at kind),ho⟩⟩
 ·intro id hops id' hops' x y hx hy he;rcases get id hops _ hx with ⟨hlt,hx'⟩ | ⟨rfl,rfl,hx'⟩ <;> rcases get id' hops' _ hy with ⟨hlt',hy'⟩ | ⟨rfl,rfl,hy'⟩
  ·rw [hold id hops hlt,hold id' hops' hlt'] at he;exact h.inj id hops id' hops' x y hx' hy' he
  ·rw [hold id hops hlt,hnew] at he;have:=h.lt hx';omega
  ·rw [hold id' hops' hlt',hnew] at he;have:=h.lt hy';omega
  ·exact ⟨rfl,rfl⟩
 ·intro b o u hu;have hs:=h.qo b o u hu;rw [zfr (zbs hs.1)];exact hs
 ·intro id hops x o u hx hu;rcases get id hops _ hx with ⟨hlt,hx'⟩ | ⟨rfl,rfl,hx'⟩
  ·rw [hold id hops hlt] at hu;obtain ⟨e1,ob,e2,e3⟩:=h.sep id hops x o u hx' hu;exact ⟨e1,ob,by rw [List.getElem?_append_left hlt];exact e2,e3⟩
  ·rw [hnew] at hu;have:=zbs (h.qo _ _ _ hu).1;omega
 ·intro id ob hob hkd;by_cases hlt:id < H.length
  ·rw [List.getElem?_append_left hlt] at hob;obtain ⟨cur',hc'⟩:=h.ty id ob hob hkd;refine ⟨cur',?_⟩;rw [hold id [] hlt,heap_alloc_old w _ (Array.getElem?_eq_some_iff.1 hc').1];exact hc'
  ·have h1:=(List.getElem?_eq_some_iff.1 hob).1;simp at h1;have:id=H.length:=by omega
   subst this;simp at hob;subst hob;exact ⟨cur,by rw [hnew];exact heap_alloc_new w _⟩
 ·intro id ob hob;by_cases hlt:id < H.length
  ·rw [List.getElem?_append_left hlt] at hob;exact h.fz id ob hob
  ·have h1:=(List.getElem?_eq_some_iff.1 hob).1;simp at h1;have:id=H.length:=by omega
   subst this;simp at hob;subst hob;exact Nat.zero_le _
 ·intro k hk' ho;exact heap_alloc_old w _ hk'
 ·intro b o u hu;exact .inl hu
 ·rintro b ⟨id,hops,x,hx,rfl⟩;rcases get id hops _ hx with ⟨hlt,hx'⟩ | ⟨rfl,rfl,hx'⟩
  ·exact .inr ⟨id,hops,x,hx',by rw [hold id hops hlt]⟩
  ·exact .inl (by rw [hnew];exact Nat.le_refl _)
section
variable {P:Program} {o:Oper} {ρ:Operand->C} {H:zk}
theorem jc {t:TypeId} {i:TypeInfo} (h:P.info? t=some i) (w:World):(sizeOf t).run P w=.ok i.size w:=by
 simp [sizeOf,typeInfo,h]
theorem xt {t:TypeId} {i:TypeInfo} {z:Value} (h:P.info? t=some i) (hz:i.zero=some z) (w:World):(zeroValue t).run P w=.ok z w:=by
 simp [zeroValue,typeInfo,h,hz]
theorem qB.move (x:Operand) (ho:o.op=.move x∨o.op=.assign x):qB P o ρ H (ρ x) H:=fun w E σ hh hl K hk=>by
 have h1:(execOp σ o).run P w=.ok (.value (σ x)) w:=by
  unfold execOp;rcases ho with ho | ho <;> simp only [ho] <;> rfl
 rw [h1];exact hk _ w E hh (hl x (by rcases ho with ho | ho <;> simp [ho,Op.operands])) (qv.refl w E H)
theorem qB.pick (x y z:Operand) (ho:o.op=.pick x y z) (b:Bool) (hb:ρ x=.v (.bool b)):qB P o ρ H (if b then ρ y else ρ z) H:=fun w E σ hh hl K hk=>by
 have h0:=hl x (by simp [ho,Op.operands]);rw [hb] at h0;have hx:σ x=.bool b:=by generalize σ x=u at *;cases h0;rfl
 have h1:(execOp σ o).run P w=.ok (.value (if b then σ y else σ z)) w:=by
  unfold execOp;simp only [ho,hx];cases b <;> rfl
 rw [h1];refine hk _ w E hh ?_ (qv.refl w E H);cases b
 ·exact hl z (by simp [ho,Op.operands])
 ·exact hl y (by simp [ho,Op.operands])
theorem yt {cs:List C} {i k:Nat} {c:C}:cellAt [cs] i k=some c↔i=0∧cs[k]?= some c:=by
 unfold cellAt;cases i <;> simp
theorem z8.znf {w:World} {E:Env} (h:z8 w E H) (ty:TypeId) (cs:List C) (ys:Array Value) (hl:LL E cs ys.toList) (hn:cs.all zx=true) (h1:∀ y ∈ ys,y.oneCell'=true):
  z8 (w.alloc (.cells ys ty)) (E.push w.heap.size 1) (H++[⟨1,ty,cs.length,[cs],0⟩])∧qv w E H (w.alloc (.cells ys ty)) (E.push w.heap.size 1) (H++[⟨1,ty,cs.length,[cs],0⟩]):=by
 refine h.push 1 ty cs.length 1 [cs] ys (.inl rfl) (by simp) (by simp) (by have:=hl.1;simp at this;omega) ?_ ?_
 ·intro i k c hc;obtain ⟨_,hc⟩:=yt.1 hc;exact List.all_eq_true.1 hn c (List.mem_of_getElem? hc)
 ·intro i k c hc;obtain ⟨rfl,hc⟩:=yt.1 hc;obtain ⟨y,hy,hly⟩:=hl.get hc;refine ⟨y,by simpa using hy,by simpa [Env.at] using hly,h1 y ?_⟩;have:=List.mem_of_getElem? hy;simpa using this
def zaz (P:Program) (t:TypeId):Option (List C):=
 match P.info? t with
 | some i=>match i.zero with
  | some z=>if z.cells.toList.all (·.oneCell') && (z.cells.size == i.size) then some (z.cells.toList.map ofV) else none
  | none=>none
 | none=>none
theorem kN {t:TypeId} {cs:List C} (h:zaz P t=some cs) (E:Env):∃ i z,P.info? t=some i∧i.zero=some z∧LL E cs z.cells.toList∧(∀ y ∈ z.cells,y.oneCell'=true)∧z.cells.size=i.size∧cs.all zx=true∧cs.length=i.size:=by
 unfold zaz at h;split at h
 ·rename_i i hi;split at h
  ·rename_i z hz;split at h
   ·rename_i hc;cases h
    simp only [Bool.and_eq_true,beq_iff_eq,List.all_eq_true] at hc;refine ⟨i,z,hi,hz,⟨by simp,?_⟩,fun y hy=>hc.1 y (by simpa using hy),hc.2,?_,by simp [hc.2]⟩
    ·intro k c y h1 h2;rw [List.getElem?_map,h2] at h1;cases h1
     exact zsB E y
    ·rw [List.all_eq_true];intro c hcm;obtain ⟨y,hy,rfl⟩:=List.mem_map.1 hcm;unfold ofV;split <;> (try split) <;> rfl
   ·cases h
  ·cases h
 ·cases h
theorem zsq {w:World} {E:Env} (h:z8 w E H) (g κ sz:Nat):L (E.push g κ) (.ref H.length [] sz 0 0) (.pointer (some ⟨g,0,none⟩)):=by
 have:=L.ref (E:=E.push g κ) H.length [] sz 0 0 (by simp [Env.push,h.n]);have hb:(E.push g κ).β H.length []=g:=by simp [Env.push,h.n]
 rw [hb] at this;simpa using this
theorem qB.alloc (t:TypeId) (ho:o.op=.alloc t) {cs:List C} (hz:zaz P t=some cs):qB P o ρ H (.ref H.length [] cs.length 0 0) (H++[⟨1,t,cs.length,[cs],0⟩]):=fun w E σ hh hl K hk=>by
 obtain ⟨i,z,hi,hz,hll,h1,hsz,hn,hlen⟩:=kN hz E
 have hr:(execOp σ o).run P w=.ok (.value (.pointer (some ⟨w.heap.size,0,none⟩))) (w.alloc (.cells z.cells t)):=by
  unfold execOp;simp only [ho,Instr.alloc,Sem.run_bind,xt hi hz,Result.andThen_ok,newVar,newRow]
  rfl
 rw [hr];obtain ⟨a,b⟩:=hh.znf t cs z.cells hll hn h1;exact hk _ _ _ a (zsq hh _ _ _) b
def zaM:C->Bool
 | .v _=>true
 | .lst o _ _=>o != 2
 | .jG _ | .ref .. | .sl .. | .fn .. | .mp _ | .gl .. | .ifc .. | .rc _=>true
 | _=>false
theorem znD {E:Env} {c:C} {y:Value} (h:L E c y) (hc:zaM c=true):y.oneCell'=true:=by
 cases h with
 | v x hx=>exact hx
 | agg=>simp [zaM] at hc
 | tup=>simp [zaM] at hc
 | un=>simp [zaM] at hc
 | za=>simp [zaM] at hc
 | gl id sz rows y hn hg h=>cases h <;> rfl
 | _=>rfl
theorem znE {c:C} (hc:zaM c=true):zx c=true:=by
 unfold zaM at hc;unfold zx;split at hc <;> first | rfl | (split <;> simp_all) | cases hc
def zcw:C->Bool
 | .agg cs=>cs.all zx
 | c=>zaM c
theorem zcx {E:Env} {c:C} {y:Value} (h:L E c y) (hc:zcw c=true):LL E c.cells y.cells.toList∧(∀ u ∈ y.cells,u.oneCell'=true)∧c.cells.all zx=true:=by
 cases c with
 | agg cs=>
  cases h with
  | agg _ ys h1 h2 h3=>exact ⟨⟨by simpa [C.cells,Value.cells] using h1,fun i c y e1 e2=>h2 i c y e1 (by simpa [Value.cells] using e2)⟩,h3,by simpa [zcw,C.cells] using hc⟩
 | za=>simp [zcw,zaM] at hc
 | un=>simp [zcw,zaM] at hc
 | tup=>simp [zcw,zaM] at hc
 | _=>
  have ho:=znD h (by simpa [zcw] using hc);have hcell:y.cells= #[y]:=by cases y <;> first | rfl | (simp [Value.oneCell'] at ho)
  refine ⟨h.cells (by simp) (by simp),by rw [hcell];simpa using ho,?_⟩;have:=znE (by simpa [zcw] using hc);simpa [C.cells] using this
theorem qB.box (t:TypeId) (x:Operand) (ho:o.op=.box t x) (hc:zcw (ρ x)=true):qB P o ρ H (.ref H.length [] (ρ x).cells.length 0 0) (H++[⟨1,t,(ρ x).cells.length,[(ρ x).cells],0⟩]):=fun w E σ hh hl K hk=>by
 obtain ⟨hll,h1,hn⟩:=zcx (hl x (by simp [ho,Op.operands])) hc
 have hr:(execOp σ o).run P w=.ok (.value (.pointer (some ⟨w.heap.size,0,none⟩))) (w.alloc (.cells (σ x).cells t)):=by
  unfold execOp;simp only [ho,Instr.box,newVar,newRow]
  rfl
 rw [hr];obtain ⟨a,b⟩:=hh.znf t _ _ hll hn h1;exact hk _ _ _ a (zsq hh _ _ _) b
theorem xg (b off n:Nat):(⟨b,off,none⟩:Addr).add n=⟨b,off+n,none⟩:=by
 unfold Addr.add;split <;> simp_all
def kV (c:C) (n:Nat):Option C:=
 match c with
 | .ref id hops sz i k=>some (.ref id hops sz i (k+n))
 | .jG cells=>some (.jG (cells.drop n))
 | _=>none
theorem zhr {E:Env} {c c':C} {y:Value} {n:Nat} (h:L E c y) (hf:kV c n=some c'):∃ a,y=.pointer (some a)∧L E c' (.pointer (some (a.add n))):=by
 cases h with
 | ref id hops sz i k hn=>
  simp only [kV] at hf;cases hf
  refine ⟨_,rfl,?_⟩;rw [xg,Nat.add_assoc];exact .ref id hops sz i (k+n) hn
 | jG cells b off us hst hL=>
  simp only [kV] at hf;cases hf
  refine ⟨_,rfl,?_⟩;rw [xg];exact .jG _ b (off+n) (fun k=>us (n+k)) (fun k c hc=>by rw [List.getElem?_drop] at hc;rw [Nat.add_assoc];exact hst _ c hc) (fun k c hc=>by rw [List.getElem?_drop] at hc;exact hL _ c hc)
 | _=>simp [kV] at hf
theorem qB.fieldAddr (t:TypeId) (x:Operand) (f:Nat) (ho:o.op=.fieldAddr t x f) {fs:Array Field} {fd:Field} {i:TypeInfo} (ht:P.underlying t=some (.struct fs)) (hf:fs[f]?= some fd)
  (hi:P.info? fd.type=some i) (hsz:i.size≠0) {c:C} (hc:kV (ρ x) fd.offset=some c):qB P o ρ H c H:=fun w E σ hh hl K hk=>by
 obtain ⟨a,ha,hla⟩:=zhr (hl x (by simp [ho,Op.operands])) hc
 have hr:(execOp σ o).run P w=.ok (.value (.pointer (some (a.add fd.offset)))) w:=by
  unfold execOp;simp [ho,Instr.fieldAt,run_underlying ht,hf,ha,Instr.sureAddr,fieldPlace,jc hi,hsz]
 rw [hr];exact hk _ w E hh hla (qv.refl w E H)
def zei (c:C) (size n:Nat):Option C:=
 match c with
 | .lst o sz rows=>if (o == 0 || o == 1) && (sz == size) then (rows[n]?).map .jG else none
 | .sl id hops sz lo len _=>if decide (n < len) && (sz == size) then some (.ref id hops sz (lo+n) 0) else none
 | _=>none
def zrA:C->Option Nat
 | .lst _ _ rows=>some rows.length
 | .sl _ _ _ _ len _=>some len
 | _=>none
theorem zro {E:Env} {c c':C} {y:Value} {size n:Nat} (h:L E c y) (hf:zei c size n=some c'):
  ∃ a len cap,y=.slice (some a) len cap∧n < len∧L E c' (.pointer (some (a.add (n * size)))):=by
 cases h with
 | lst o sz rows b off cap us ho hc hsz hst hL=>
  simp only [zei] at hf;split at hf
  ·rename_i hcond;simp only [Bool.and_eq_true,beq_iff_eq] at hcond;obtain ⟨_,rfl⟩:=hcond;cases hr:rows[n]? with
   | none=>rw [hr] at hf;cases hf
   | some r=>
    rw [hr] at hf;cases hf
    refine ⟨_,_,_,rfl,(List.getElem?_eq_some_iff.1 hr).1,?_⟩;rw [xg];exact .jG r b (off+n * sz) (us n) (fun k c hc=>hst n r k c hr hc) (fun k c hc=>hL n r k c hr hc)
  ·cases hf
 | xd o sz ho=>
  simp [zei] at hf
 | sl id hops sz lo len full cap hn hlen hfull hf'=>
  simp only [zei] at hf;split at hf
  ·rename_i hcond;simp only [Bool.and_eq_true,beq_iff_eq,decide_eq_true_eq] at hcond;obtain ⟨hlt,rfl⟩:=hcond;cases hf
   refine ⟨_,_,_,rfl,hlt,?_⟩;rw [xg,<- Nat.add_mul];exact .ref id hops sz (lo+n) 0 hn
  ·cases hf
 | _=>simp [zei] at hf
theorem qB.indexAddr (t:TypeId) (x y:Operand) (ho:o.op=.indexAddr t x y) {e:TypeId} {i:TypeInfo} (ht:P.underlying t=some (.slice e)) (hi:P.info? e=some i)
  {k:IntKind} {n:Int} (hy:ρ y=.v (.int k n)) (h0:0<=n) {c:C} (hc:zei (ρ x) i.size n.toNat=some c):qB P o ρ H c H:=fun w E σ hh hl K hk=>by
 obtain ⟨a,len,cap,ha,hlt,hla⟩:=zro (hl x (by simp [ho,Op.operands])) hc;have h1:=hl y (by simp [ho,Op.operands]);rw [hy] at h1;have hyv:σ y=.int k n:=by generalize σ y=u at *;cases h1;rfl
 have hn:0<=n∧n < (len:Int):=⟨h0,by omega⟩
 have hr:(execOp σ o).run P w=.ok (.value (.pointer (some (a.add (n.toNat * i.size))))) w:=by
  unfold execOp;simp [ho,Instr.indexAt,asIntOf,hyv,ha,run_underlying ht,hn.1,hn.2,jc hi]
 rw [hr];exact hk _ w E hh hla (qv.refl w E H)
theorem qB.zp1 (t:TypeId) (x y:Operand) (ho:o.op=.indexAddr t x y) {len:Nat} {e:TypeId} {i:TypeInfo} (ht:P.underlying t=some (.array len e)) (hi:P.info? e=some i)
  {k:IntKind} {n:Int} (hy:ρ y=.v (.int k n)) (h0:0<=n) (h1:n < len) {c:C} (hc:kV (ρ x) (n.toNat * i.size)=some c):qB P o ρ H c H:=fun w E σ hh hl K hk=>by
 obtain ⟨a,ha,hla⟩:=zhr (hl x (by simp [ho,Op.operands])) hc;have hy1:=hl y (by simp [ho,Op.operands]);rw [hy] at hy1;have hyv:σ y=.int k n:=by generalize σ y=u at *;cases hy1;rfl
 have hr:(execOp σ o).run P w=.ok (.value (.pointer (some (a.add (n.toNat * i.size))))) w:=by
  unfold execOp;simp [ho,Instr.indexAt,asIntOf,hyv,ha,run_underlying ht,h0,h1,jc hi,Instr.sureAddr]
 rw [hr];exact hk _ w E hh hla (qv.refl w E H)
end
def zkC (id:Nat) (hops:List Hop) (i k:Nat):C->C
 | .lst 2 sz rows=>.sl id (hops++[(i,k)]) sz 0 rows.length false
 | c=>c
def yV (id:Nat) (hops:List Hop) (i:Nat):Nat->List C->List C
 | _,[]=>[]
 | k,c::cs=>zkC id hops i k c::yV id hops i (k+1) cs
theorem qL (sz:Nat) (rows:List (List C)):y8 sz rows []=some (sz,rows):=rfl
theorem xk (sz:Nat) (rows:List (List C)) (i k:Nat) (hs:List Hop):y8 sz rows ((i,k)::hs)=match cellAt rows i k with
  | some (.lst 2 sz' rows')=>y8 sz' rows' hs
  | _=>none:=rfl
theorem zht {i k sz2:Nat} {rows2:List (List C)}:∀ (hops:List Hop) (sz:Nat) (rows:List (List C)) (sz':Nat) (rows':List (List C)),y8 sz rows hops=some (sz',rows')->
  cellAt rows' i k=some (.lst 2 sz2 rows2)->y8 sz rows (hops++[(i,k)])=some (sz2,rows2)
 | [],sz,rows,sz',rows',h,hc=>by
  rw [qL] at h;cases h
  rw [List.nil_append,xk,hc]
  rfl
 | (i',k')::tl,sz,rows,sz',rows',h,hc=>by
  rw [xk] at h;rw [List.cons_append,xk];split at h
  ·exact zht tl _ _ _ _ h hc
  ·cases h
theorem znQ {H:zk} {id:Nat} {hops:List Hop} {sz':Nat} {rows':List (List C)} (h:zZ H id hops=some (sz',rows')) {i k:Nat} {sz2:Nat} {rows2:List (List C)}
  (hc:cellAt rows' i k=some (.lst 2 sz2 rows2)):zZ H id (hops++[(i,k)])=some (sz2,rows2):=by
 obtain ⟨ob,ho,hk,hg⟩:=qZ h;unfold zZ;rw [ho];simp only [hk,if_true];exact zht _ _ _ _ _ hg hc
theorem ztB {w:World} {E:Env} {H:zk} (h:z8 w E H) {id:Nat} {hops:List Hop} {sz:Nat} {rows:List (List C)} (hb:zZ H id hops=some (sz,rows)) {kd i k:Nat} {c:C} {u:Value}
  (hc:cellAt rows i k=some c) (ho:qN E kd id hops i k c u):L E (zkC id hops i k c) u:=by
 unfold qN at ho;split at ho
 ·rename_i sz' rows';subst ho;have hb':=znQ hb hc;obtain ⟨ob,hob,_,_⟩:=qZ hb';have hlen:=(h.blk id ob _ _ _ hob hb').len;have:=L.sl (E:=E) id (hops++[(i,k)]) sz' 0 rows'.length false _ (by rw [h.n];exact zad hb') hlen (by simp) (by intro _;rw [Nat.zero_add]);rw [Nat.zero_mul] at this;exact this
 ·rename_i h2
  have:zkC id hops i k c=c:=by
   unfold zkC;split
   ·exact absurd rfl (h2 _ _)
   ·rfl
  rw [this];exact ho.1.mono (E.zsr kd)
theorem zeR {id:Nat} {hops:List Hop} {i:Nat}:∀ (cs:List C) (k j:Nat) (c':C),(yV id hops i k cs)[j]?= some c'->∃ c,cs[j]?= some c∧c'=zkC id hops i (k+j) c
 | [],k,j,c',h=>by simp [yV] at h
 | c::cs,k,0,c',h=>by simp [yV] at h;exact ⟨c,rfl,h.symm⟩
 | c::cs,k,j+1,c',h=>by
  simp [yV] at h;obtain ⟨c0,h0,e⟩:=zeR cs (k+1) j c' h;exact ⟨c0,by simpa using h0,by rw [e];congr 1;omega⟩
theorem zbn {id:Nat} {hops:List Hop} {i:Nat}:∀ (cs:List C) (k:Nat),(yV id hops i k cs).length=cs.length
 | [],_=>rfl
 | c::cs,k=>by simp [yV,zbn cs (k+1)]
def za8 (H:zk) (c:C) (n:Nat):Option (List C):=
 match c with
 | .ref id hops sz i k=>match zZ H id hops with
  | some (sz',rows)=>if sz' == sz then match rows[i]? with
    | some r=>if decide (k+n<=r.length) then some (yV id hops i k ((r.drop k).take n)) else none
    | none=>none
   else none
  | none=>none
 | .jG cells=>if decide (n<=cells.length) then some (cells.take n) else none
 | _=>none
theorem zfg {w:World} {E:Env} {H:zk} (h:z8 w E H) {c:C} {y:Value} (hl:L E c y) {n:Nat} {cs:List C} (hr:za8 H c n=some cs):
  ∃ a us,y=.pointer (some a)∧(∀ (j:Nat) u,us[j]?= some u->w.cell? (a.add j)=some u)∧LL E cs us∧us.length=n∧(∀ u ∈ us,u.oneCell'=true):=by
 cases hl with
 | ref id hops sz i k hn=>
  simp only [za8] at hr;split at hr
  ·rename_i sz' rows hb;split at hr
   ·rename_i hsz;have hsz:sz'=sz:=by simpa using hsz
    subst hsz;split at hr
    ·rename_i r hrow;split at hr
     ·rename_i hlen;simp only [decide_eq_true_eq] at hlen;cases hr
      obtain ⟨ob,hob,_,_⟩:=qZ hb;have hB:=h.blk id ob hops sz' rows hob hb;obtain ⟨cur,e,hg,hcs,hcell⟩:=hB.blk;have hrl:r.length=sz':=hB.row r (List.mem_of_getElem? hrow)
      have hcc:∀ j,j < n->∃ c u,r[k+j]?= some c∧cellAt rows i (k+j)=some c∧cur[i * sz'+(k+j)]?= some u∧qN E ob.kind id hops i (k+j) c u:=fun j hj=>by
       have hj':k+j < r.length:=by omega
       have h1:r[k+j]?= some r[k+j]:=by simp [hj']
       have h2:cellAt rows i (k+j)=some r[k+j]:=by simp [cellAt,hrow,hj']
       obtain ⟨u,hu,ho⟩:=hcell i (k+j) _ h2;exact ⟨_,u,h1,h2,hu,ho⟩
      refine ⟨_,(List.range n).map (fun j=>cur.getD (i * sz'+(k+j)) undef),rfl,?_,⟨?_,?_⟩,by simp,?_⟩
      ·intro j u hju;simp only [List.getElem?_map] at hju;cases hjr:(List.range n)[j]? with
       | none=>rw [hjr] at hju;cases hju
       | some j'=>
        rw [hjr] at hju;obtain ⟨hjlt,hj'⟩:=List.getElem?_eq_some_iff.1 hjr;simp at hj' hjlt;subst hj';obtain ⟨c,u',h1,h2,hu,ho⟩:=hcc j hjlt;simp only [Option.map_some,Option.some.injEq] at hju;rw [Array.getD_eq_getD_getElem?,hu] at hju;simp at hju;subst hju;rw [xg];unfold World.cell?;simp only [hg];rw [if_neg (by simp),Nat.add_assoc];exact hu
      ·rw [zbn];simp;omega
      ·intro j c' u hc' hu';obtain ⟨c,hc,rfl⟩:=zeR _ _ _ _ hc';rw [List.getElem?_take] at hc;split at hc
       ·rename_i hj;rw [List.getElem?_drop] at hc;obtain ⟨c2,u2,h1,h2,hu,ho⟩:=hcc j hj;rw [h1] at hc;cases hc
        simp only [List.getElem?_map,List.getElem?_range hj,Option.map_some,Option.some.injEq] at hu';rw [Array.getD_eq_getD_getElem?,hu] at hu';simp at hu';subst hu';exact ztB h hb h2 ho
       ·cases hc
      ·intro u hu;obtain ⟨j,hj,rfl⟩:=List.mem_map.1 hu;obtain ⟨c,u',h1,h2,hu',ho⟩:=hcc j (by simpa using hj);rw [Array.getD_eq_getD_getElem?,hu'];simp only [Option.getD_some];unfold qN at ho;split at ho
       ·rw [ho];rfl
       ·exact ho.2
     ·cases hr
    ·cases hr
   ·cases hr
  ·cases hr
 | jG cells b off us hst hL=>
  simp only [za8] at hr;split at hr
  ·rename_i hlen;simp only [decide_eq_true_eq] at hlen;cases hr
   refine ⟨_,(List.range n).map us,rfl,?_,⟨by simp;omega,?_⟩,by simp,?_⟩
   ·intro j u hju;simp only [List.getElem?_map] at hju;cases hjr:(List.range n)[j]? with
    | none=>rw [hjr] at hju;cases hju
    | some j'=>
     rw [hjr] at hju;obtain ⟨hjlt,hj'⟩:=List.getElem?_eq_some_iff.1 hjr;simp at hj' hjlt;subst hj';cases hju
     rw [xg];have hj2:j < cells.length:=by omega
     exact (h.qo _ _ _ (hst j cells[j] (by simp [hj2]))).1
   ·intro j c u hc hu;rw [List.getElem?_take] at hc;split at hc
    ·rename_i hj;simp only [List.getElem?_map,List.getElem?_range hj,Option.map_some,Option.some.injEq] at hu;subst hu;exact (hL j c hc).mono E.zdr
    ·cases hc
   ·intro u hu;obtain ⟨j,hj,rfl⟩:=List.mem_map.1 hu
    have hj2:j < cells.length:=by have:j < n:=by simpa using hj
                                  omega
    exact (h.qo _ _ _ (hst j cells[j] (by simp [hj2]))).2
  ·cases hr
 | _=>simp [za8] at hr
def zbv:TypeDesc->Bool
 | .struct _ | .array _ _=>true
 | _=>false
theorem kj {P:Program} {t:TypeId} {d:TypeDesc} (h:P.underlying t=some d) (w:World):(isAgg t).run P w=.ok (zbv d) w:=by
 simp only [isAgg,Sem.run_bind,run_underlying h,Result.andThen_ok];cases d <;> rfl
def kG (P:Program) (H:zk) (t:TypeId) (c:C):Option C:=
 match P.underlying t,P.info? t with
 | some d,some i=>
  if zbv d then (za8 H c i.size).map .agg
  else match za8 H c 1 with
   | some [x]=>some x
   | _=>none
 | _,_=>none
section
variable {P:Program} {o:Oper} {ρ:Operand->C} {H:zk}
theorem qB.load (t:TypeId) (x:Operand) (ho:o.op=.load t x) {c:C} (hc:kG P H t (ρ x)=some c):qB P o ρ H c H:=fun w E σ hh hl K hk=>by
 have hx:=hl x (by simp [ho,Op.operands]);unfold kG at hc;split at hc
 ·rename_i d i hd hi;by_cases hag:zbv d=true
  ·rw [if_pos hag] at hc;cases hr:za8 H (ρ x) i.size with
   | none=>rw [hr] at hc;cases hc
   | some cs=>
    rw [hr] at hc;cases hc
    obtain ⟨a,us,ha,hcell,hll,hlen,hone⟩:=zfg hh hx hr
    have hr':(execOp σ o).run P w=.ok (.value (.agg us.toArray)) w:=by
     unfold execOp;have h3:=run_loadCells_list (P:=P) (w:=w) a us (fun j v hj=>hcell j v hj);rw [hlen] at h3;simp [ho,Instr.loadAt,Instr.sureAddr,ha,loadVar,kj hd,hag,jc hi,h3]
    rw [hr'];exact hk _ w E hh (.agg cs us.toArray (by simpa using hll.1) (fun i c y e1 e2=>hll.2 i c y e1 (by simpa using e2)) (fun u hu=>hone u (by simpa using hu))) (qv.refl w E H)
  ·rw [if_neg hag] at hc;split at hc
   ·rename_i x0 hr;cases hc
    obtain ⟨a,us,ha,hcell,hll,hlen,hone⟩:=zfg hh hx hr
    obtain ⟨u,rfl⟩:∃ u,us=[u]:=by
     match us,hlen with
     | [u],_=>exact ⟨u,rfl⟩
    have hu:=hcell 0 u rfl;have ha0:a.add 0=a:=by simp [Addr.add]
    rw [ha0] at hu
    have hr':(execOp σ o).run P w=.ok (.value u) w:=by
     unfold execOp;simp [ho,Instr.loadAt,Instr.sureAddr,ha,loadVar,kj hd,hag,hu]
    rw [hr'];exact hk _ w E hh hll.cons_inv.1 (qv.refl w E H)
   ·cases hc
 ·cases hc
end
def setCell (rows:List (List C)) (i k:Nat) (c:C):List (List C):=rows.modify i (·.set k c)
def xu:List (List C)->List Hop->(List (List C)->List (List C))->List (List C)
 | rows,[],f=>f rows
 | rows,(i,k)::hs,f=>match cellAt rows i k with
  | some (.lst 2 sz' rows')=>setCell rows i k (.lst 2 sz' (xu rows' hs f))
  | _=>rows
theorem zdo (rows:List (List C)) (f:List (List C)->List (List C)):xu rows [] f=f rows:=rfl
theorem zbD (rows:List (List C)) (i k:Nat) (hs:List Hop) (f:List (List C)->List (List C)):xu rows ((i,k)::hs) f=match cellAt rows i k with
  | some (.lst 2 sz' rows')=>setCell rows i k (.lst 2 sz' (xu rows' hs f))
  | _=>rows:=rfl
theorem zbc (rows:List (List C)) (i k:Nat) (c:C):(setCell rows i k c).length=rows.length:=by simp [setCell]
theorem zaK (rows:List (List C)) (i k:Nat) (c:C) (i' k':Nat):cellAt (setCell rows i k c) i' k'=if i=i'∧k=k' then (cellAt rows i' k').map (fun _=>c) else cellAt rows i' k':=by
 unfold cellAt setCell;rw [List.getElem?_modify];by_cases hi:i=i'
 ·subst hi;cases hr:rows[i]? with
  | none=>simp
  | some r=>
   simp only [if_true,Option.map_eq_map,Option.map_some,Option.bind_some,true_and];rw [List.getElem?_set];by_cases hk:k=k'
   ·subst hk;simp only [if_true];by_cases hlt:k < r.length
    ·simp [hlt]
    ·simp [hlt]
   ·simp [hk]
 ·simp [hi]
theorem zkf {rows:List (List C)} {sz:Nat} (h:∀ r ∈ rows,r.length=sz) (i k:Nat) (c:C):∀ r ∈ setCell rows i k c,r.length=sz:=by
 intro r hr;obtain ⟨j,hj⟩:=List.mem_iff_getElem?.1 hr;unfold setCell at hj;rw [List.getElem?_modify] at hj;cases hx:rows[j]? with
 | none=>rw [hx] at hj;cases hj
 | some r0=>
  rw [hx] at hj;have h0:=h r0 (List.mem_of_getElem? hx);simp only [Option.map_eq_map,Option.map_some,Option.some.injEq] at hj;subst hj;split <;> simp [h0]
structure zpb (rows rows':List (List C)):Prop where
 len:rows'.length=rows.length
 own:∀ i k s r,cellAt rows' i k=some (.lst 2 s r)↔cellAt rows i k=some (.lst 2 s r)
structure zkH (rows rows':List (List C)):Prop where
 len:rows'.length=rows.length
 cell:∀ i k c',cellAt rows' i k=some c'->∃ c,cellAt rows i k=some c∧(c=c'∨∃ s r r',c=.lst 2 s r∧c'=.lst 2 s r'∧r'.length=r.length)
 row:∀ sz,(∀ r ∈ rows,r.length=sz)->∀ r ∈ rows',r.length=sz
theorem zkH.refl (rows:List (List C)):zkH rows rows:=⟨rfl,fun i k c h=>⟨c,h,.inl rfl⟩,fun _ h=>h⟩
theorem zeI {f:List (List C)->List (List C)}:∀ (hops:List Hop) (sz:Nat) (rows:List (List C)) (sz':Nat) (rows':List (List C)),y8 sz rows hops=some (sz',rows')->zpb rows' (f rows')->(xu rows hops f).length=rows.length
 | [],sz,rows,sz',rows',h,ht=>by rw [qL] at h;cases h;rw [zdo];exact ht.len
 | (i,k)::hs,sz,rows,sz',rows',h,ht=>by
  rw [zbD];split
  ·exact zbc _ _ _ _
  ·rfl
theorem zhs {f:List (List C)->List (List C)}:∀ (hops:List Hop) (sz:Nat) (rows:List (List C)) (sz':Nat) (rows':List (List C)),y8 sz rows hops=some (sz',rows')->zpb rows' (f rows')->
  ∀ (p:List Hop) (sz2:Nat) (rows2':List (List C)),y8 sz (xu rows hops f) p=some (sz2,rows2')->
   ∃ rows2,y8 sz rows p=some (sz2,rows2)∧((p=hops∧rows2'=f rows2)∨(p≠hops∧zkH rows2 rows2'))
 | [],sz,rows,sz',rows',h,ht,p,sz2,rows2',hp=>by
  rw [qL] at h;cases h
  rw [zdo] at hp;cases p with
  | nil=>rw [qL] at hp;cases hp;exact ⟨rows,rfl,.inl ⟨rfl,rfl⟩⟩
  | cons hd q=>
   obtain ⟨i,k⟩:=hd;rw [xk] at hp;split at hp
   ·rename_i s r hc;rw [ht.own] at hc;exact ⟨rows2',by rw [xk,hc];exact hp,.inr ⟨by simp,zkH.refl _⟩⟩
   ·cases hp
 | (i,k)::hs,sz,rows,sz',rows',h,ht,p,sz2,rows2',hp=>by
  rw [xk] at h;split at h
  ·rename_i s r hc;have hset:xu rows ((i,k)::hs) f=setCell rows i k (.lst 2 s (xu r hs f)):=by rw [zbD,hc];rfl
   rw [hset] at hp;cases p with
   | nil=>
    rw [qL] at hp;cases hp
    refine ⟨rows,rfl,.inr ⟨by simp,zbc _ _ _ _,?_,fun sz0 h0=>zkf h0 _ _ _⟩⟩;intro i' k' c' hcc;rw [zaK] at hcc;split at hcc
    ·rename_i hik;obtain ⟨rfl,rfl⟩:=hik;rw [hc] at hcc;simp only [Option.map_some,Option.some.injEq] at hcc;subst hcc;exact ⟨_,hc,.inr ⟨s,r,_,rfl,rfl,zeI hs s r sz' rows' h ht⟩⟩
    ·exact ⟨c',hcc,.inl rfl⟩
   | cons hd q=>
    obtain ⟨i',k'⟩:=hd;rw [xk,zaK] at hp;by_cases hik:i=i'∧k=k'
    ·obtain ⟨rfl,rfl⟩:=hik;rw [if_pos ⟨rfl,rfl⟩,hc] at hp;simp only [Option.map_some] at hp;obtain ⟨rows2,h2,h3⟩:=zhs hs s r sz' rows' h ht q sz2 rows2' hp;refine ⟨rows2,by rw [xk,hc];exact h2,?_⟩;rcases h3 with ⟨rfl,e⟩ | ⟨hne,hlk⟩
     ·exact .inl ⟨rfl,e⟩
     ·exact .inr ⟨fun e=>hne (by simpa using e),hlk⟩
    ·rw [if_neg hik] at hp;refine ⟨rows2',by rw [xk];exact hp,.inr ⟨?_,zkH.refl _⟩⟩;intro e;simp at e;exact hik ⟨e.1.1.symm,e.1.2.symm⟩
  ·cases h
def zdn (H:zk) (id:Nat) (hops:List Hop) (f:List (List C)->List (List C)):zk:=H.modify id fun ob=>match ob with
 | ⟨kind,ty,sz,rows,fz⟩=>⟨kind,ty,sz,xu rows hops f,fz⟩
theorem zbb (H:zk) (id:Nat) (hops:List Hop) (f:List (List C)->List (List C)) (j:Nat):(zdn H id hops f)[j]?= (H[j]?).map fun ob=>if id=j then { ob with rows:=xu ob.rows hops f } else ob:=by
 unfold zdn;rw [List.getElem?_modify]
 rfl
theorem wz {H:zk} {id:Nat} {hops:List Hop} {f:List (List C)->List (List C)} {sz:Nat} {rows:List (List C)} (hb:zZ H id hops=some (sz,rows)) (ht:zpb rows (f rows)) {id':Nat} {p:List Hop}
  {sz2:Nat} {rows2':List (List C)} (hp:zZ (zdn H id hops f) id' p=some (sz2,rows2')):
  ∃ rows2,zZ H id' p=some (sz2,rows2)∧((id'=id∧p=hops∧rows2'=f rows2)∨(¬(id'=id∧p=hops)∧zkH rows2 rows2')):=by
 obtain ⟨ob,hob,hk,hg⟩:=qZ hb;obtain ⟨ob',hob',hk',hg'⟩:=qZ hp;rw [zbb] at hob';by_cases hid:id=id'
 ·subst hid;rw [hob] at hob';simp only [Option.map_some,if_true,Option.some.injEq] at hob';subst hob';obtain ⟨rows2,h2,h3⟩:=zhs hops ob.sz ob.rows sz rows hg ht p sz2 rows2' hg';refine ⟨rows2,?_,?_⟩
  ·unfold zZ;rw [hob];simp only [hk,if_true];exact h2
  ·rcases h3 with ⟨rfl,e⟩ | ⟨hne,hlk⟩
   ·exact .inl ⟨rfl,rfl,e⟩
   ·exact .inr ⟨fun e=>hne e.2,hlk⟩
 ·cases hx:H[id']? with
  | none=>rw [hx] at hob';cases hob'
  | some ob2=>
   rw [hx] at hob';simp only [Option.map_some,hid,if_false,Option.some.injEq] at hob';subst hob';refine ⟨rows2',?_,.inr ⟨fun e=>hid e.1.symm,zkH.refl _⟩⟩;unfold zZ;rw [hx];simp only [hk',if_true];exact hg'
theorem z8.write {w:World} {E:Env} {H:zk} (h:z8 w E H) {id:Nat} {hops:List Hop} {ob:Ob} {sz:Nat} {rows:List (List C)} {f:List (List C)->List (List C)} (hob:H[id]?= some ob)
  (hb:zZ H id hops=some (sz,rows)) (ht:zpb rows (f rows)) (hrow:∀ r ∈ f rows,r.length=sz) {cur cur':Array Value} {e:TypeId} (hg:w.heap[E.β id hops]?= some (.cells cur e (0,0))) (hsz:cur'.size=cur.size)
  (hst:∀ o u,E.St (E.β id hops) o=some u->cur'[o]?= some u)
  (hc:∀ i k c,cellAt (f rows) i k=some c->∃ u,cur'[i * sz+k]?= some u∧qN E ob.kind id hops i k c u):
  z8 (w.setRow (E.β id hops) cur') E (zdn H id hops f)∧qv w E H (w.setRow (E.β id hops) cur') E (zdn H id hops f):=by
 have hown:∀ b,qX E (zdn H id hops f) b->qX E H b:=by
  rintro b ⟨id',p,⟨s2,r2⟩,hx,rfl⟩;obtain ⟨rows2,h2,_⟩:=wz hb ht hx;exact ⟨id',p,_,h2,rfl⟩
 refine ⟨⟨by rw [h.n];simp [zdn],?_,?_,?_,?_,?_,?_⟩,⟨Env.le.refl E,fun _ _ _=>rfl,rfl,rfl,rfl,by simp [World.setRow],?_,fun b o u hu=>.inl hu,fun b hb'=>.inr (hown b hb')⟩⟩
 ·intro id' ob' p sz2 rows2' hob' hx;obtain ⟨rows2,h2,h3⟩:=wz hb ht hx
  have hkd:∃ ob0,H[id']?= some ob0∧ob'.kind=ob0.kind:=by
   rw [zbb] at hob';cases hx':H[id']? with
   | none=>rw [hx'] at hob';cases hob'
   | some ob0=>
    rw [hx'] at hob';simp only [Option.map_some,Option.some.injEq] at hob';subst hob';exact ⟨ob0,rfl,by split <;> rfl⟩
  obtain ⟨ob0,hob0,hkd⟩:=hkd;have hB:=h.blk id' ob0 p sz2 rows2 hob0 h2;rw [hkd];rcases h3 with ⟨rfl,rfl,rfl⟩ | ⟨hne,hlk⟩
  ·rw [hb] at h2;cases h2
   rw [hob] at hob0;cases hob0
   obtain ⟨cur0,e0,hg0,hs0,_⟩:=hB.blk;rw [hg] at hg0;cases hg0
   exact ⟨by rw [ht.len];exact hB.len,hrow,cur',e,setRow_heap w _ cur cur' e _ hg,by rw [hsz];exact hs0,hc⟩
  ·obtain ⟨cur0,e0,hg0,hs0,hc0⟩:=hB.blk
   have hdiff:E.β id' p≠E.β id hops:=fun he=>hne (by
    have:=h.inj id' p id hops _ _ h2 hb he;exact this)
   refine ⟨by rw [hlk.len];exact hB.len,hlk.row sz2 hB.row,cur0,e0,by rw [setRow_other w _ _ _ hdiff];exact hg0,hs0,?_⟩;intro i k c' hcc;obtain ⟨c,h4,h5⟩:=hlk.cell i k c' hcc;obtain ⟨u,hu,ho⟩:=hc0 i k c h4;refine ⟨u,hu,?_⟩;rcases h5 with rfl | ⟨s,r,r',rfl,rfl,hl⟩
   ·exact ho
   ·simp only [qN] at ho ⊢;rw [hl];exact ho
 ·intro id1 p1 id2 p2 x y hx hy he;obtain ⟨r1,h1,_⟩:=wz hb ht (rows2':=x.2) (sz2:=x.1) (by simpa using hx);obtain ⟨r2,h2,_⟩:=wz hb ht (rows2':=y.2) (sz2:=y.1) (by simpa using hy);exact h.inj id1 p1 id2 p2 _ _ h1 h2 he
 ·intro b o u hu;refine ⟨?_,(h.qo b o u hu).2⟩;by_cases hbb:b=E.β id hops
  ·subst hbb;unfold World.cell?;rw [setRow_heap w _ cur cur' e _ hg];simp;exact hst o u hu
  ·have:=(h.qo b o u hu).1;unfold World.cell? at this ⊢;simp only [setRow_other w _ _ _ hbb];exact this
 ·intro id' p x o u hx hu;obtain ⟨r1,h1,_⟩:=wz hb ht (rows2':=x.2) (sz2:=x.1) (by simpa using hx);obtain ⟨e1,ob',e2,e3⟩:=h.sep id' p _ o u h1 hu;refine ⟨e1,?_⟩;rw [zbb,e2];exact ⟨_,rfl,by split <;> exact e3⟩
 ·intro id' ob' hob' hk;rw [zbb] at hob';cases hx':H[id']? with
  | none=>rw [hx'] at hob';cases hob'
  | some ob0=>
   rw [hx'] at hob';simp only [Option.map_some,Option.some.injEq] at hob';have hk0:ob0.kind=2∧ob'.ty=ob0.ty:=by subst hob';revert hk;split <;> exact fun h=>⟨h,rfl⟩
   obtain ⟨cur0,hc0⟩:=h.ty id' ob0 hx' hk0.1;rw [hk0.2];by_cases hbb:E.β id' []=E.β id hops
   ·rw [hbb] at hc0 ⊢;rw [hg] at hc0;cases hc0
    exact ⟨cur',setRow_heap w _ cur cur' _ _ hg⟩
   ·exact ⟨cur0,by rw [setRow_other w _ _ _ hbb];exact hc0⟩
 ·intro id' ob' hob';rw [zbb] at hob';cases hx':H[id']? with
  | none=>rw [hx'] at hob';cases hob'
  | some ob0=>
   rw [hx'] at hob';simp only [Option.map_some,Option.some.injEq] at hob';have h0:=h.fz id' ob0 hx';subst hob';split
   ·rename_i hid;subst hid;rw [hob] at hx';cases hx'
    obtain ⟨ob2,h1,_,h2⟩:=qZ hb;rw [hob] at h1;cases h1
    dsimp only;rw [zeI hops _ _ _ _ h2 ht];exact h0
   ·exact h0
 ·intro k hk ho;rw [setRow_other w _ _ _ (fun e'=>ho ⟨id,hops,_,hb,e'.symm⟩)]
def xN (k:Nat) (cs:List C) (r:List C):List C:=r.take k++cs++r.drop (k+cs.length)
def vW (i k:Nat) (cs:List C) (rows:List (List C)):List (List C):=rows.modify i (xN k cs)
theorem zay {k:Nat} {cs r:List C} (h:k+cs.length<=r.length):(xN k cs r).length=r.length:=by
 simp [xN];omega
theorem zdx {k:Nat} {cs r:List C} (h:k+cs.length<=r.length) (j:Nat):(xN k cs r)[j]?= if k<=j∧j < k+cs.length then cs[j - k]? else r[j]?:=by
 unfold xN;rw [List.append_assoc];by_cases h1:j < k
 ·rw [List.getElem?_append_left (by simp;omega),List.getElem?_take,if_pos h1,if_neg (by omega)]
 ·rw [List.getElem?_append_right (by simp;omega)];have hk:(r.take k).length=k:=by simp;omega
  rw [hk];by_cases h2:j < k+cs.length
  ·rw [List.getElem?_append_left (by omega),if_pos ⟨by omega,h2⟩]
  ·rw [List.getElem?_append_right (by omega),List.getElem?_drop,if_neg (by omega)]
   congr 1
   omega
theorem zaL {i k:Nat} {cs:List C} {rows:List (List C)} {r:List C} (hr:rows[i]?= some r) (h:k+cs.length<=r.length) (i' k':Nat):
  cellAt (vW i k cs rows) i' k'=if i=i'∧k<=k'∧k' < k+cs.length then cs[k' - k]? else cellAt rows i' k':=by
 unfold cellAt vW;rw [List.getElem?_modify];by_cases hi:i=i'
 ·subst hi;rw [hr];simp only [if_true,Option.map_eq_map,Option.map_some,Option.bind_some,true_and];rw [zdx h]
 ·simp [hi]
def yU (P:Program) (H:zk) (t:TypeId) (a x:C):Option zk:=
 match a,P.info? t with
 | .ref id hops sz i k,some inf=>
  match zZ H id hops,H[id]? with
  | some (sz',rows),some ob=>
   match rows[i]? with
   | some r=>
    if (sz' == sz) && zcw x && (x.cells.length == inf.size) && decide (k+x.cells.length<=r.length) && ((r.drop k).take x.cells.length).all zx && (ob.kind == 1 || x.cells.all q8) && (!hops.isEmpty || decide (ob.fz<=i)) && (hops.isEmpty || ob.fz == 0)
    then some (zdn H id hops (vW i k x.cells)) else none
   | none=>none
  | _,_=>none
 | _,_=>none
section
variable {P:Program} {o:Oper} {ρ:Operand->C} {H:zk}
theorem qB.store (t:TypeId) (x y:Operand) (ho:o.op=.store t x y) {H':zk} (hs:yU P H t (ρ x) (ρ y)=some H'):qB P o ρ H .un H':=fun w E σ hh hl K hk=>by
 have hx:=hl x (by simp [ho,Op.operands]);have hy:=hl y (by simp [ho,Op.operands]);unfold yU at hs;split at hs
 rotate_left
 ·cases hs
 rename_i id hops sz i k inf ha hinf;split at hs
 rotate_left
 ·cases hs
 rename_i sz' rows ob hb hob;split at hs
 rotate_left
 ·cases hs
 rename_i r hr;split at hs
 rotate_left
 ·cases hs
 rename_i hcond;cases hs
 simp only [Bool.and_eq_true,beq_iff_eq,decide_eq_true_eq,Bool.or_eq_true,List.all_eq_true] at hcond;obtain ⟨⟨⟨⟨⟨⟨⟨rfl,hval⟩,hlen⟩,hfit⟩,hold⟩,hkd⟩,hfz⟩,_⟩:=hcond;obtain ⟨hll,hone,hno⟩:=zcx hy hval;rw [ha] at hx;have hB:=hh.blk id ob hops sz' rows hob hb;obtain ⟨cur,e,hg,hcs,hcell⟩:=hB.blk;have hrl:r.length=sz':=hB.row r (List.mem_of_getElem? hr);have hil:i < rows.length:=(List.getElem?_eq_some_iff.1 hr).1;have hx':σ x=.pointer (some ⟨E.β id hops,i * sz'+k,none⟩):=by generalize σ x=u at *;cases hx;rfl
 obtain ⟨vs,hvs⟩:∃ vs,vs=(σ y).cells.toList:=⟨_,rfl⟩;rw [<- hvs] at hll;have hvl:vs.length=(ρ y).cells.length:=hll.1.symm
 have hend:i * sz'+k+vs.length<=cur.size:=by
  have h1:(i+1) * sz'<=E.κ id hops * sz':=Nat.mul_le_mul_right _ (Nat.le_trans hil hB.len);rw [Nat.add_mul] at h1;omega
 have hrun:=run_storeCells_at P (E.β id hops) (i * sz'+k) e vs 0 cur w hg (by simpa using hend) (fun v hv=>hone v (by rw [hvs] at hv;simpa using hv));simp only [Nat.add_zero] at hrun;obtain ⟨cur',hcur'⟩:∃ cur',cur'=(cur.toList.take (i * sz'+k)++vs++cur.toList.drop (i * sz'+k+vs.length)).toArray:=⟨_,rfl⟩;rw [<- hcur'] at hrun
 have hcget:∀ j:Nat,cur'[j]?= if i * sz'+k<=j∧j < i * sz'+k+vs.length then vs[j - (i * sz'+k)]? else cur[j]?:=by
  intro j;rw [hcur'];simp only [List.getElem?_toArray];rw [List.append_assoc];by_cases h1:j < i * sz'+k
  ·rw [List.getElem?_append_left (by simp;omega),List.getElem?_take,if_pos h1,if_neg (by omega),Array.getElem?_toList]
  ·rw [List.getElem?_append_right (by simp;omega)];have hk':(cur.toList.take (i * sz'+k)).length=i * sz'+k:=by simp;omega
   rw [hk'];by_cases h2:j < i * sz'+k+vs.length
   ·rw [List.getElem?_append_left (by omega),if_pos ⟨by omega,h2⟩]
   ·rw [List.getElem?_append_right (by omega),List.getElem?_drop,if_neg (by omega),Array.getElem?_toList]
    congr 1
    omega
 have hr':(execOp σ o).run P w=.ok .skip (w.setRow (E.β id hops) cur'):=by
  unfold execOp
  have hsz2:(σ y).cells.size=inf.size:=by
   have:vs.length=(σ y).cells.size:=by rw [hvs];simp
   omega
  simp [ho,Instr.storeAt,Instr.sureAddr,hx',storeVar,jc hinf,hsz2,<- hvs,hrun]
 rw [hr']
 have hpos:∀ i' k',i' < rows.length->k' < sz'->(i * sz'+k<=i' * sz'+k'∧i' * sz'+k' < i * sz'+k+vs.length↔i=i'∧k<=k'∧k' < k+vs.length):=by
  intro i' k' hi' hk';constructor
  ·rintro ⟨h1,h2⟩
   have:i=i':=by
    rcases Nat.lt_trichotomy i i' with h | h | h
    ·exfalso
     have:(i+1) * sz'<=i' * sz':=Nat.mul_le_mul_right _ h;rw [Nat.add_mul] at this;omega
    ·exact h
    ·exfalso
     have:(i'+1) * sz'<=i * sz':=Nat.mul_le_mul_right _ h;rw [Nat.add_mul] at this;omega
   subst this;omega
  ·rintro ⟨rfl,h1,h2⟩;omega
 have htame:zpb rows (vW i k (ρ y).cells rows):=by
  refine ⟨by simp [vW],?_⟩;intro i' k' s r0;rw [zaL hr hfit];split
  ·rename_i hin;obtain ⟨rfl,h1,h2⟩:=hin;constructor
   ·intro h;have:=List.all_eq_true.1 hno _ (List.mem_of_getElem? h);simp [zx] at this
   ·intro h;simp only [cellAt,hr,Option.bind_some] at h
    have hm:C.lst 2 s r0 ∈ (r.drop k).take (ρ y).cells.length:=by
     apply List.mem_iff_getElem?.2
     refine ⟨k' - k,?_⟩;rw [List.getElem?_take,if_pos (by omega),List.getElem?_drop,show k+(k' - k)=k' from by omega];exact h
    have:=hold _ hm;simp [zx] at this
  ·rfl
 have hW:=hh.write hob hb htame (cur:=cur) (cur':=cur') (e:=e) ?_ hg ?_ ?_ ?_
 ·exact hk _ _ E hW.1 .un hW.2
 ·intro r0 hr0;obtain ⟨j,hj⟩:=List.mem_iff_getElem?.1 hr0;unfold vW at hj;rw [List.getElem?_modify] at hj;cases hx0:rows[j]? with
  | none=>rw [hx0] at hj;cases hj
  | some r1=>
   rw [hx0] at hj;simp only [Option.map_eq_map,Option.map_some,Option.some.injEq] at hj;subst hj;by_cases hij:i=j
   ·subst hij;rw [hr] at hx0;cases hx0
    rw [if_pos rfl,zay hfit];exact hrl
   ·rw [if_neg hij];exact hB.row r1 (List.mem_of_getElem? hx0)
 ·rw [hcur'];simp;omega
 ·intro off u hu;obtain ⟨e1,ob',e2,e3⟩:=hh.sep id hops _ off u hb hu;rw [hob] at e2;cases e2
  subst e1;simp at hfz
  have hsz0:ob.sz=sz':=by
   obtain ⟨ob2,h1,_,h2⟩:=qZ hb;rw [hob] at h1;cases h1
   rw [qL] at h2;cases h2
   rfl
  have hlt:off < i * sz':=by
   rw [hsz0] at e3;exact Nat.lt_of_lt_of_le e3 (Nat.mul_le_mul_right _ hfz)
  rw [hcget,if_neg (by omega)];have:=(hh.qo _ _ _ hu).1;unfold World.cell? at this;rw [hg] at this;simpa using this
 ·intro i' k' c hcc;rw [zaL hr hfit] at hcc;split at hcc
  ·rename_i hin;obtain ⟨rfl,h1,h2⟩:=hin;obtain ⟨u,hu,hlu⟩:=hll.get hcc;have hnoc:=List.all_eq_true.1 hno _ (List.mem_of_getElem? hcc);refine ⟨u,?_,(qN.loose hnoc).2 ⟨?_,hone u ?_⟩⟩
   ·rw [hcget,if_pos (by omega),show i * sz'+k' - (i * sz'+k)=k' - k from by omega];exact hu
   ·rcases hkd with hkd | hkd
    ·simpa [Env.at,hkd] using hlu
    ·unfold Env.at
     split
     ·exact hlu.vi (hkd _ (List.mem_of_getElem? hcc))
     ·exact hlu
   ·have:=List.mem_of_getElem? hu;rw [hvs] at this;simpa using this
  ·rename_i hnot;obtain ⟨u,hu,hou⟩:=hcell i' k' c hcc;refine ⟨u,?_,hou⟩
   have hi'k':i' < rows.length∧k' < sz':=by
    unfold cellAt at hcc;cases hx0:rows[i']? with
    | none=>rw [hx0] at hcc;cases hcc
    | some r1=>
     rw [hx0] at hcc;refine ⟨(List.getElem?_eq_some_iff.1 hx0).1,?_⟩;have:=hB.row r1 (List.mem_of_getElem? hx0);rw [<- this];exact (List.getElem?_eq_some_iff.1 hcc).1
   rw [hcget,if_neg]
   ·exact hu
   ·rw [hpos i' k' hi'k'.1 hi'k'.2,hvl];exact hnot
def zb (P:Program) (f:FuncId) (H:zk) (args:List C) (r:C) (H':zk):Prop:=
 ∀ (w:World) (E:Env) (vs:Array Value),qq w E H->LL E args vs.toList->
  Calls P f vs w fun e w'=>∃ v E',e=.returned v∧qq w' E' H'∧L E' r v∧Grow w E H w' E' H'
def qm (P:Program) (f:FuncId):Bool:=
 match P.funcs[f]? with
 | some fn => !(fn.name == "runtime.NumGoroutine") && fn.body.isSome
 | none=>false
theorem OpV.call (cl:Call) (ho:o.op=.call cl) (x:Operand) (hcl:cl.callee=.value x) {f:FuncId} {first caps:List C} (hf:ρ x=.fn f first caps) (hcb:qm P f=true) {r:C} {H':zk}
  (hs:zb P f H (first++(cl.args.toList.map ρ)++caps) r H'):OpV P o ρ H r H':=fun w E σ hh hl K hk=>by
 have h0:=hl x (by simp [ho,Op.operands,Call.operands,hcl]);rw [hf] at h0
 obtain ⟨ys,zs,hv,h1,h2,h3,h4⟩:∃ ys zs,σ x=.func (.func f) ys zs∧first.length=ys.size∧caps.length=zs.size∧(∀ (i:Nat) c y,first[i]?= some c->ys[i]?= some y->L E c y)∧(∀ (i:Nat) c y,caps[i]?= some c->zs[i]?= some y->L E c y):=by
  generalize σ x=u at *;cases h0 with
  | fn f first caps ys zs h1 h2 h3 h4=>exact ⟨ys,zs,rfl,h1,h2,h3,h4⟩
 unfold qm at hcb;split at hcb
 rotate_left
 ·cases hcb
 rename_i fn hfn;simp only [Bool.and_eq_true,Bool.not_eq_true'] at hcb;have hname : fn.name ≠ "runtime.NumGoroutine" := by simpa using hcb.1
 have hbody:fn.body≠none:=by intro hb;simp [hb] at hcb
 have hr:(execOp σ o).run P w=.ok (.enter f (ys++cl.args.map σ++zs)) w:=by
  unfold execOp;simp [ho,resolve,hcl,hv,Deferred.ofValue,invoke,callFunc,hfn,hname,hbody]
 rw [hr];refine (hs w E (ys++cl.args.map σ++zs) hh ?_).mono ?_
 ·have e1:LL E first ys.toList:=⟨by simpa using h1,fun i c y e1 e2=>h3 i c y e1 (by simpa using e2)⟩;have e2:LL E caps zs.toList:=⟨by simpa using h2,fun i c y e1 e2=>h4 i c y e1 (by simpa using e2)⟩
  have e3:LL E (cl.args.toList.map ρ) (cl.args.map σ).toList:=by
   refine ⟨by simp,?_⟩;intro i c y hc hy;rw [List.getElem?_map] at hc;rw [Array.toList_map,List.getElem?_map] at hy;cases ha:cl.args.toList[i]? with
   | none=>rw [ha] at hc;cases hc
   | some a=>
    rw [ha] at hc hy;cases hc
    cases hy
    exact hl a (by simp [ho,Op.operands,Call.operands];right;have:=List.mem_of_getElem? ha;simpa using this)
  have:=(e1.append e3).append e2;simpa using this
 ·rintro e w' ⟨v,E',rfl,h5,h6,h7⟩;exact ⟨v,rfl,hk v w' E' h5 h6 h7⟩
end
section
variable {P:Program} {o:Oper} {ρ:Operand->C} {H:zk}
theorem qB.extract (x:Operand) (n:Nat) (ho:o.op=.extract x n) {vs:List C} (hx:ρ x=.tup vs) {c:C} (hc:vs[n]?= some c):qB P o ρ H c H:=fun w E σ hh hl K hk=>by
 have h0:=hl x (by simp [ho,Op.operands]);rw [hx] at h0
 obtain ⟨ys,hy,hlen,hll⟩:∃ ys,σ x=.tuple ys∧vs.length=ys.size∧∀ (i:Nat) c y,vs[i]?= some c->ys[i]?= some y->L E c y:=by
  generalize σ x=u at *;cases h0 with
  | tup _ ys h1 h2=>exact ⟨ys,rfl,h1,h2⟩
 have hlt:n < ys.size:=by rw [<- hlen];exact (List.getElem?_eq_some_iff.1 hc).1
 have hr:(execOp σ o).run P w=.ok (.value ys[n]) w:=by
  unfold execOp;simp [ho,Instr.extract,hy,hlt]
 rw [hr];exact hk _ w E hh (hll n c _ hc (by simp [hlt])) (qv.refl w E H)
def ziH:C->Bool
 | .ref .. | .jG _ | .fn ..=>true
 | _=>false
theorem qB.nilCheck (x:Operand) (ho:o.op=.nilCheck x) (hx:ziH (ρ x)=true):qB P o ρ H (ρ x) H:=fun w E σ hh hl K hk=>by
 have h0:=hl x (by simp [ho,Op.operands])
 have hr:(execOp σ o).run P w=.ok (.value (σ x)) w:=by
  unfold execOp;generalize ρ x=c at *;generalize hu:σ x=u at *;cases h0 <;> first | (simp [ziH] at hx;done) | (simp only [ho,hu];rfl)
 rw [hr];exact hk _ w E hh h0 (qv.refl w E H)
theorem qB.makeFunc (f:FuncId) (first caps:Array Operand) (ho:o.op=.makeFunc (.func f) first caps):qB P o ρ H (.fn f (first.toList.map ρ) (caps.toList.map ρ)) H:=fun w E σ hh hl K hk=>by
 have hr:(execOp σ o).run P w=.ok (.value (.func (.func f) (first.map σ) (caps.map σ))) w:=by
  unfold execOp;simp only [ho]
  rfl
 rw [hr];refine hk _ w E hh (.fn f _ _ _ _ (by simp) (by simp) ?_ ?_) (qv.refl w E H)
 ·intro i c y hc hy;rw [List.getElem?_map] at hc;rw [Array.getElem?_map] at hy;cases ha:first[i]? with
  | none=>rw [ha] at hy;cases hy
  | some a=>
   rw [Array.getElem?_toList,ha] at hc;rw [ha] at hy;cases hc
   cases hy
   exact hl a (by simp [ho,Op.operands];left;exact Array.mem_of_getElem? ha)
 ·intro i c y hc hy;rw [List.getElem?_map] at hc;rw [Array.getElem?_map] at hy;cases ha:caps[i]? with
  | none=>rw [ha] at hy;cases hy
  | some a=>
   rw [Array.getElem?_toList,ha] at hc;rw [ha] at hy;cases hc
   cases hy
   exact hl a (by simp [ho,Op.operands];right;exact Array.mem_of_getElem? ha)
def zcT (place:Nat->Option (Nat × Nat)):List C->List (Nat × C)->Option (List C)
 | cells,[]=>some cells
 | cells,(i,c)::rest=>match place i with
  | none=>none
  | some (off,size)=>if zcw c && (c.cells.length == size) && decide (off+size<=cells.length) then zcT place (xN off c.cells cells) rest else none
theorem zhp:∀ (vs:List Value) (off k:Nat) (cells:Array Value),off+k+vs.length<=cells.size->
  ((vs.zipIdx k).foldl (fun cs (p:Value × Nat)=>cs.setIfInBounds (off+p.2) p.1) cells).size=cells.size∧
  ∀ j:Nat,((vs.zipIdx k).foldl (fun cs (p:Value × Nat)=>cs.setIfInBounds (off+p.2) p.1) cells)[j]?= if off+k<=j∧j < off+k+vs.length then vs[j - (off+k)]? else cells[j]?
 | [],off,k,cells,h=>⟨rfl,fun j=>by rw [if_neg (by simp)];rfl⟩
 | v::vs,off,k,cells,h=>by
  simp only [List.zipIdx_cons,List.foldl_cons,List.length_cons] at h ⊢;have ih:=zhp vs off (k+1) (cells.setIfInBounds (off+k) v) (by simp;omega);refine ⟨by rw [ih.1];simp,?_⟩;intro j;rw [ih.2 j];by_cases h1:off+k=j
  ·subst h1;rw [if_neg (by omega),if_pos (by omega),Array.getElem?_setIfInBounds];simp;omega
  ·by_cases h2:off+(k+1)<=j∧j < off+(k+1)+vs.length
   ·rw [if_pos h2,if_pos (by omega),show j - (off+k)=(j - (off+(k+1)))+1 from by omega];simp
   ·rw [if_neg h2,if_neg (by omega),Array.getElem?_setIfInBounds];simp [h1]
theorem zfc {E:Env} {place:Nat->Option (Nat × Nat)} {ρ:Operand->C} {σ:Operand->Value}:∀ (parts:List (Nat × Operand)) (cs:List C) (arr:Array Value),LL E cs arr.toList->(∀ u ∈ arr,u.oneCell'=true)->cs.all zx=true->
  (∀ p ∈ parts,L E (ρ p.2) (σ p.2))->∀ cs',zcT place cs (parts.map fun p=>(p.1,ρ p.2))=some cs'->
  ∃ arr',Instr.fill place arr (parts.map fun p=>(p.1,σ p.2))=some arr'∧LL E cs' arr'.toList∧(∀ u ∈ arr',u.oneCell'=true)∧cs'.all zx=true
 | [],cs,arr,hl,h1,hno,_,cs',h=>by
  simp only [List.map_nil,zcT,Option.some.injEq] at h;subst h;exact ⟨arr,rfl,hl,h1,hno⟩
 | (i,x)::rest,cs,arr,hl,h1,hno,hp,cs',h=>by
  simp only [List.map_cons,zcT] at h;split at h
  ·cases h
  ·rename_i off size hpl;split at h
   ·rename_i hcond;simp only [Bool.and_eq_true,beq_iff_eq,decide_eq_true_eq] at hcond;obtain ⟨⟨hv,hsz⟩,hfit⟩:=hcond;have hx:=hp (i,x) (by simp);obtain ⟨hll,hone,hnoc⟩:=zcx hx hv;have hlen:(σ x).cells.size=size:=by have:=hll.1;simp at this;omega
    have hal:arr.size=cs.length:=by have:=hl.1;simp at this;omega
    obtain ⟨vs,hvs⟩:∃ vs,vs=(σ x).cells.toList:=⟨_,rfl⟩;have hvl:vs.length=size:=by rw [hvs];simpa using hlen
    have hfold:=zhp vs off 0 arr (by omega)
    have hfe:(σ x).cells.zipIdx.foldl (fun cs (p:Value × Nat)=>cs.setIfInBounds (off+p.2) p.1) arr=(vs.zipIdx 0).foldl (fun cs (p:Value × Nat)=>cs.setIfInBounds (off+p.2) p.1) arr:=by
     rw [<- Array.foldl_toList,Array.toList_zipIdx,hvs]
    obtain ⟨arr2,harr2⟩:∃ arr2,arr2=(vs.zipIdx 0).foldl (fun cs (p:Value × Nat)=>cs.setIfInBounds (off+p.2) p.1) arr:=⟨_,rfl⟩;rw [<- harr2] at hfold hfe;have hcl:(ρ x).cells.length=size:=hsz
    have hl2:LL E (xN off (ρ x).cells cs) arr2.toList:=by
     refine ⟨by rw [zay (by omega)];simp [hfold.1,hal],?_⟩;intro j c y hc hy;rw [zdx (by omega)] at hc;rw [Array.getElem?_toList,hfold.2 j] at hy;simp only [Nat.add_zero] at hy;split at hc
     ·rename_i hin;rw [if_pos (by omega)] at hy;exact hll.2 _ c y hc (by rw [<- hvs];exact hy)
     ·rename_i hin;rw [if_neg (by omega)] at hy;exact hl.2 j c y hc (by simpa using hy)
    have hone2:∀ u ∈ arr2,u.oneCell'=true:=by
     intro u hu;obtain ⟨j,hj⟩:=Array.mem_iff_getElem?.1 hu;rw [hfold.2 j] at hj;split at hj
     ·have:=List.mem_of_getElem? hj;rw [hvs] at this;exact hone u (by simpa using this)
     ·exact h1 u (Array.mem_of_getElem? hj)
    have hno2:(xN off (ρ x).cells cs).all zx=true:=by
     rw [List.all_eq_true];intro c hc;unfold xN at hc;simp only [List.mem_append] at hc;rcases hc with (hc | hc) | hc
     ·exact List.all_eq_true.1 hno c (List.mem_of_mem_take hc)
     ·exact List.all_eq_true.1 hnoc c hc
     ·exact List.all_eq_true.1 hno c (List.mem_of_mem_drop hc)
    obtain ⟨arr',e1,e2,e3,e4⟩:=zfc rest _ arr2 hl2 hone2 hno2 (fun p hpm=>hp p (by simp [hpm])) cs' h;refine ⟨arr',?_,e2,e3,e4⟩;simp only [List.map_cons,Instr.fill,hpl];rw [if_neg (by simp [hlen];omega),hfe];exact e1
   ·cases h
def zh8 (P:Program) (t:TypeId) (parts:List (Nat × C)):Option (List C):=
 match zaz P t,P.underlying t with
 | some z,some (.array _ e)=>
  match P.info? e with
  | some ie=>zcT (fun i=>some (i * ie.size,ie.size)) z parts
  | none=>none
 | some z,some (.struct fields)=>
  match fields.toList.mapM (fun f=>(P.info? f.type).map fun i=>(f.offset,i.size)) with
  | some places=>zcT (places.toArray[·]?) z parts
  | none=>none
 | _,_=>none
theorem qB.build (t:TypeId) (parts:Array (Nat × Operand)) (ho:o.op=.build t parts) {cs:List C} (hb:zh8 P t (parts.toList.map fun p=>(p.1,ρ p.2))=some cs):qB P o ρ H (.agg cs) H:=fun w E σ hh hl K hk=>by
 have hp:∀ p ∈ parts.toList,L E (ρ p.2) (σ p.2):=fun p hpm=>hl p.2 (by
  simp only [ho,Op.operands];exact (List.mem_toArray).2 (List.mem_map.2 ⟨p,hpm,rfl⟩))
 have main:∃ arr,P.built t (parts.map fun (i,x)=>(i,σ x)).toList=some arr∧LL E cs arr.toList∧(∀ u ∈ arr,u.oneCell'=true):=by
  have e0:(parts.map fun (i,x)=>(i,σ x)).toList=parts.toList.map fun p=>(p.1,σ p.2):=by simp
  rw [e0];unfold zh8 at hb;split at hb
  ·rename_i z n e hz hu;split at hb
   ·rename_i ie hie;obtain ⟨it,zv,h1,h2,h3,h4,h5,h6,h7⟩:=kN hz E;obtain ⟨arr,a1,a2,a3,a4⟩:=zfc parts.toList z zv.cells h3 h4 h6 hp cs hb;exact ⟨arr,by simp only [Program.built,h1,hu,h2,hie];exact a1,a2,a3⟩
   ·cases hb
  ·rename_i z fields hz hu;split at hb
   ·rename_i places hpl;obtain ⟨it,zv,h1,h2,h3,h4,h5,h6,h7⟩:=kN hz E;obtain ⟨arr,a1,a2,a3,a4⟩:=zfc parts.toList z zv.cells h3 h4 h6 hp cs hb;exact ⟨arr,by simp only [Program.built,h1,hu,h2,hpl];exact a1,a2,a3⟩
   ·cases hb
  ·cases hb
 obtain ⟨arr,h1,h2,h3⟩:=main
 have hr:(execOp σ o).run P w=.ok (.value (.agg arr)) w:=by
  unfold execOp;simp only [ho,Sem.run_bind,run_build w t _ arr h1,Result.andThen_ok]
  rfl
 rw [hr];exact hk _ w E hh (.agg cs arr (by simpa using h2.1) (fun i c y e1 e2=>h2.2 i c y e1 (by simpa using e2)) h3) (qv.refl w E H)
theorem qB.len (cl:Call) (ho:o.op=.call cl) (hcl:cl.callee=.builtin .len) (x:Operand) (hx:cl.args= #[x]) {t:TypeId} (ht:cl.argTypes= #[t]) {e:TypeId} (hu:P.underlying t=some (.slice e))
  {n:Nat} (hn:zrA (ρ x)=some n):qB P o ρ H (.v (.int .i64 n)) H:=fun w E σ hh hl K hk=>by
 have h0:=hl x (by simp [ho,Op.operands,Call.operands,hcl,hx])
 have hv:∃ a cap,σ x=.slice a n cap:=by
  generalize ρ x=c at *;generalize σ x=u at *;cases h0 <;> first | (simp [zrA] at hn;done) | (simp only [zrA,Option.some.injEq] at hn;subst hn;exact ⟨_,_,rfl⟩)
 obtain ⟨a,cap,hv⟩:=hv
 have hr:(execOp σ o).run P w=.ok (.value (.int .i64 n)) w:=by
  unfold execOp;simp [ho,resolve,hcl,hx,ht,invoke,builtin,Builtin.len_,hv,run_underlying hu,goInt]
 rw [hr];exact hk _ w E hh (.v _ rfl) (qv.refl w E H)
def zbW (P:Program) (t:TypeId) (cs:List C) (off:Nat):Option C:=
 match P.underlying t,P.info? t with
 | some d,some i=>if zbv d then (if decide (off+i.size<=cs.length) then some (.agg ((cs.drop off).take i.size)) else none) else cs[off]?
 | _,_=>none
theorem wO {E:Env} {w:World} {t:TypeId} {cs:List C} {ys:Array Value} (hll:LL E cs ys.toList) (h1:∀ y ∈ ys,y.oneCell'=true) {off:Nat} {c:C} (hc:zbW P t cs off=some c):
  ∃ y,(part t ys off).run P w=.ok y w∧L E c y:=by
 unfold zbW at hc;split at hc
 ·rename_i d i hd hi;split at hc
  ·rename_i hag;split at hc
   ·rename_i hlen;simp only [decide_eq_true_eq] at hlen;cases hc
    have hy:=hll.1;simp at hy;refine ⟨.agg (ys.extract off (off+i.size)),by simp [part,kj hd,hag,jc hi],.agg _ _ (by simp;omega) ?_ ?_⟩
    ·intro k c y hc hy';rw [List.getElem?_take] at hc;split at hc
     ·rename_i hk;rw [List.getElem?_drop] at hc;rw [Array.getElem?_extract] at hy';split at hy'
      ·exact hll.2 _ c y hc (by simpa using hy')
      ·cases hy'
     ·cases hc
    ·intro y hym;obtain ⟨k,hk⟩:=Array.mem_iff_getElem?.1 hym;rw [Array.getElem?_extract] at hk;split at hk
     ·exact h1 y (Array.mem_of_getElem? hk)
     ·cases hk
   ·cases hc
  ·rename_i hag;obtain ⟨y,hy,hly⟩:=hll.get hc;rw [Array.getElem?_toList] at hy;exact ⟨y,by simp [part,kj hd,hag,hy],hly⟩
 ·cases hc
theorem qB.field (t:TypeId) (x:Operand) (f:Nat) (ho:o.op=.field t x f) {fs:Array Field} {fd:Field} (ht:P.underlying t=some (.struct fs)) (hf:fs[f]?= some fd) {cs:List C} (hx:ρ x=.agg cs) {c:C}
  (hc:zbW P fd.type cs fd.offset=some c):qB P o ρ H c H:=fun w E σ hh hl K hk=>by
 have h0:=hl x (by simp [ho,Op.operands]);rw [hx] at h0
 obtain ⟨ys,hy,hll,h1⟩:∃ ys,σ x=.agg ys∧LL E cs ys.toList∧∀ y ∈ ys,y.oneCell'=true:=by
  generalize σ x=u at *;cases h0 with
  | agg _ ys h1 h2 h3=>exact ⟨ys,rfl,⟨by simpa using h1,fun i c y e1 e2=>h2 i c y e1 (by simpa using e2)⟩,h3⟩
 obtain ⟨y,hr0,hly⟩:=wO (w:=w) hll h1 hc
 have hr:(execOp σ o).run P w=.ok (.value y) w:=by
  unfold execOp;simp [ho,Instr.field,run_underlying ht,hf,hy,asAgg,hr0]
 rw [hr];exact hk _ w E hh hly (qv.refl w E H)
theorem qB.zlF (t:TypeId) (x y:Operand) (ho:o.op=.index t x y) {n:Nat} {e:TypeId} {i:TypeInfo} (ht:P.underlying t=some (.array n e)) (hi:P.info? e=some i) {cs:List C} (hx:ρ x=.agg cs)
  {k:IntKind} {j:Int} (hy:ρ y=.v (.int k j)) (h0:0<=j) (h1:j < n) {c:C} (hc:zbW P e cs (j.toNat * i.size)=some c):qB P o ρ H c H:=fun w E σ hh hl K hk=>by
 have hlx:=hl x (by simp [ho,Op.operands]);have hly:=hl y (by simp [ho,Op.operands]);rw [hx] at hlx;rw [hy] at hly
 obtain ⟨ys,hyx,hll,hone⟩:∃ ys,σ x=.agg ys∧LL E cs ys.toList∧∀ y ∈ ys,y.oneCell'=true:=by
  generalize σ x=u at *;cases hlx with
  | agg _ ys h1 h2 h3=>exact ⟨ys,rfl,⟨by simpa using h1,fun i c y e1 e2=>h2 i c y e1 (by simpa using e2)⟩,h3⟩
 have hyv:σ y=.int k j:=by generalize σ y=u at *;cases hly;rfl
 obtain ⟨y',hr0,hly'⟩:=wO (w:=w) hll hone hc
 have hr:(execOp σ o).run P w=.ok (.value y') w:=by
  unfold execOp;simp [ho,Instr.index,asIntOf,hyv,run_underlying ht,hyx,h0,h1,jc hi,hr0]
 rw [hr];exact hk _ w E hh hly' (qv.refl w E H)
end
section
variable {P:Program} {o:Oper} {ρ:Operand->C} {H:zk}
def xr (H:zk):C->Option (Nat × List (List C))
 | .lst o sz rows=>if o == 0 || o == 1 then some (sz,rows) else none
 | .sl id hops sz lo len _=>match H[id]?,zZ H id hops with
  | some ob,some (sz',rows)=>if (sz' == sz) && (ob.kind == 2) && decide (lo+len<=rows.length) && ((rows.drop lo).take len).all (·.all zx) then some (sz,(rows.drop lo).take len) else none
  | _,_=>none
 | _=>none
structure vM (E:Env) (sz:Nat) (rows:List (List C)) (vals:List Value):Prop where
 len:vals.length=rows.length * sz
 row:∀ r ∈ rows,r.length=sz
 cell:∀ i k c,cellAt rows i k=some c->∃ u,vals[i * sz+k]?= some u∧L E.shut c u
 one:∀ u ∈ vals,u.oneCell'=true
theorem zbr {rows:List (List C)} {sz:Nat} (hrow:∀ r ∈ rows,r.length=sz) {i k:Nat} {c:C} (h:cellAt rows i k=some c):i < rows.length∧k < sz:=by
 unfold cellAt at h;cases hx:rows[i]? with
 | none=>rw [hx] at h;cases h
 | some r=>
  rw [hx] at h;refine ⟨(List.getElem?_eq_some_iff.1 hx).1,?_⟩;rw [<- hrow r (List.mem_of_getElem? hx)];exact (List.getElem?_eq_some_iff.1 h).1
theorem kS {rows:List (List C)} {sz:Nat} (hrow:∀ r ∈ rows,r.length=sz) {i k:Nat} (hi:i < rows.length) (hk:k < sz):∃ c,cellAt rows i k=some c:=by
 have hr:rows[i]?= some rows[i]:=by simp [hi]
 have hl:=hrow _ (List.mem_of_getElem? hr);exact ⟨rows[i][k]'(by omega),by simp only [cellAt,hr,Option.bind_some];exact List.getElem?_eq_getElem (by omega)⟩
theorem zaX {sz n j:Nat} (h:j < n * sz):j / sz < n∧j % sz < sz∧j / sz * sz+j % sz=j:=by
 have hsz:0 < sz:=by rcases Nat.eq_zero_or_pos sz with rfl | h' <;> simp_all
 refine ⟨Nat.div_lt_of_lt_mul (by rw [Nat.mul_comm];exact h),Nat.mod_lt _ hsz,?_⟩;rw [Nat.mul_comm];exact Nat.div_add_mod j sz
theorem vM.append {E:Env} {sz:Nat} {rows rows':List (List C)} {vals vals':List Value} (h:vM E sz rows vals) (h':vM E sz rows' vals'):vM E sz (rows++rows') (vals++vals') where
 len:=by rw [List.length_append,List.length_append,h.len,h'.len,Nat.add_mul]
 row r hr:=by rcases List.mem_append.1 hr with hr | hr;exact h.row r hr;exact h'.row r hr
 cell i k c hc:=by
  by_cases hi:i < rows.length
  ·have hc':cellAt rows i k=some c:=by unfold cellAt at hc ⊢;rw [List.getElem?_append_left hi] at hc;exact hc
   obtain ⟨u,hu,hl⟩:=h.cell i k c hc';exact ⟨u,by rw [List.getElem?_append_left ((List.getElem?_eq_some_iff.1 hu).1)];exact hu,hl⟩
  ·have hc':cellAt rows' (i - rows.length) k=some c:=by unfold cellAt at hc ⊢;rw [List.getElem?_append_right (by omega)] at hc;exact hc
   obtain ⟨u,hu,hl⟩:=h'.cell _ k c hc';refine ⟨u,?_,hl⟩;have hge:rows.length * sz<=i * sz:=Nat.mul_le_mul_right _ (by omega);rw [List.getElem?_append_right (by rw [h.len];omega),h.len];have:i * sz+k - rows.length * sz=(i - rows.length) * sz+k:=by rw [Nat.sub_mul];omega
   rw [this];exact hu
 one u hu:=by rcases List.mem_append.1 hu with hu | hu;exact h.one u hu;exact h'.one u hu
theorem xQ {w:World} {E:Env} (h:z8 w E H) {c:C} {y:Value} (hl:L E c y) {sz:Nat} {rows:List (List C)} (hr:xr H c=some (sz,rows)):
  (rows=[]∧y=.slice none 0 0)∨∃ a cap vals,y=.slice (some a) rows.length cap∧rows.length<=cap∧vM E sz rows vals∧(∀ (j:Nat) u,vals[j]?= some u->w.cell? (a.add j)=some u):=by
 cases hl with
 | xd o sz' ho a=>
  simp only [xr] at hr;split at hr
  ·cases hr
   cases a with
   | none=>exact .inl ⟨rfl,rfl⟩
   | some a=>exact .inr ⟨a,0,[],rfl,Nat.le_refl _,⟨by simp,by simp,by simp [cellAt],by simp⟩,by simp⟩
  ·cases hr
 | lst o sz' rows' b off cap us ho hc hsz hst hL=>
  simp only [xr] at hr;split at hr
  ·cases hr
   right
   have key:∀ j,j < rows.length * sz->∃ c,cellAt rows (j / sz) (j % sz)=some c∧E.St b (off+j)=some (us (j / sz) (j % sz)):=by
    intro j hj;obtain ⟨h1,h2,h3⟩:=zaX hj;obtain ⟨c,hcc⟩:=kS hsz h1 h2;refine ⟨c,hcc,?_⟩;have hr0:rows[j / sz]?= some rows[j / sz]:=by simp [h1]
    have:=hst (j / sz) _ (j % sz) c hr0 (by unfold cellAt at hcc;rw [hr0] at hcc;exact hcc);rw [Nat.add_assoc,h3] at this;exact this
   refine ⟨_,cap,(List.range (rows.length * sz)).map (fun j=>us (j / sz) (j % sz)),rfl,hc,⟨by simp,hsz,?_,?_⟩,?_⟩
   ·intro i k c hcc;obtain ⟨h1,h2⟩:=zbr hsz hcc;have hr0:rows[i]?= some rows[i]:=by simp [h1]
    have hlt:i * sz+k < rows.length * sz:=by
     have:(i+1) * sz<=rows.length * sz:=Nat.mul_le_mul_right _ h1;rw [Nat.add_mul] at this;omega
    have e1:(i * sz+k) / sz=i:=by rw [Nat.mul_comm,Nat.mul_add_div (by omega),Nat.div_eq_of_lt h2];rfl
    have e2:(i * sz+k) % sz=k:=by rw [Nat.mul_comm,Nat.mul_add_mod,Nat.mod_eq_of_lt h2]
    refine ⟨us i k,by simp [hlt,e1,e2],hL i _ k c hr0 (by unfold cellAt at hcc;rw [hr0] at hcc;exact hcc)⟩
   ·intro u hu;obtain ⟨j,hj,rfl⟩:=List.mem_map.1 hu;obtain ⟨c,_,hs⟩:=key j (by simpa using hj);exact (h.qo _ _ _ hs).2
   ·intro j u hj;rw [List.getElem?_map] at hj;cases hjr:(List.range (rows.length * sz))[j]? with
    | none=>rw [hjr] at hj;cases hj
    | some j'=>
     rw [hjr] at hj;obtain ⟨hjlt,hj'⟩:=List.getElem?_eq_some_iff.1 hjr;simp at hj' hjlt;subst hj';cases hj
     obtain ⟨c,_,hs⟩:=key j hjlt;rw [xg];exact (h.qo _ _ _ hs).1
  ·cases hr
 | sl id hops sz' lo len full cap hn hlen hf hf'=>
  simp only [xr] at hr;split at hr
  rotate_left
  ·cases hr
  rename_i ob sz2 rows2 hob hb;split at hr
  rotate_left
  ·cases hr
  rename_i hcond;simp only [Bool.and_eq_true,beq_iff_eq,decide_eq_true_eq,List.all_eq_true] at hcond;obtain ⟨⟨⟨rfl,hkd⟩,hfit⟩,hno⟩:=hcond;cases hr
  right
  have hB:=h.blk id ob hops _ rows2 hob hb;obtain ⟨cur,e,hg,hcs,hcell⟩:=hB.blk;have hrl:((rows2.drop lo).take len).length=len:=by simp;omega
  have hsub:∀ i k,cellAt ((rows2.drop lo).take len) i k=if i < len then cellAt rows2 (lo+i) k else none:=by
   intro i k;unfold cellAt;rw [List.getElem?_take];split
   ·rw [List.getElem?_drop]
   ·rfl
  have hrow:∀ r ∈ (rows2.drop lo).take len,r.length=sz:=fun r hr=>hB.row r (List.mem_of_mem_drop (List.mem_of_mem_take hr))
  have key:∀ j,j < len * sz->∃ c u,cellAt ((rows2.drop lo).take len) (j / sz) (j % sz)=some c∧cur[lo * sz+j]?= some u∧L E.shut c u∧u.oneCell'=true:=by
   intro j hj;obtain ⟨h1,h2,h3⟩:=zaX hj;obtain ⟨c,hcc⟩:=kS hrow (by rw [hrl];exact h1) h2;have hcc2:=hcc;rw [hsub,if_pos h1] at hcc2;obtain ⟨u,hu,ho⟩:=hcell _ _ c hcc2
   have hnc:zx c=true:=by
    unfold cellAt at hcc;cases hx:((rows2.drop lo).take len)[j / sz]? with
    | none=>rw [hx] at hcc;cases hcc
    | some r=>
     rw [hx] at hcc;exact hno r (List.mem_of_getElem? hx) c (List.mem_of_getElem? hcc)
   rw [qN.loose hnc] at ho;refine ⟨c,u,hcc,?_,by simpa [Env.at,hkd] using ho.1,ho.2⟩;have:(lo+j / sz) * sz+j % sz=lo * sz+j:=by rw [Nat.add_mul];omega
   rw [<- this];exact hu
  have hlen2:len=((rows2.drop lo).take len).length:=hrl.symm;refine ⟨_,cap,(List.range (len * sz)).map (fun j=>cur.getD (lo * sz+j) undef),by rw [<- hlen2],by rw [<- hlen2];exact hlen,⟨by simp [hrl],hrow,?_,?_⟩,?_⟩
  ·intro i k c hcc;obtain ⟨h1,h2⟩:=zbr hrow hcc;rw [hrl] at h1
   have hlt:i * sz+k < len * sz:=by
    have:(i+1) * sz<=len * sz:=Nat.mul_le_mul_right _ h1;rw [Nat.add_mul] at this;omega
   obtain ⟨c',u,h3,h4,h5,_⟩:=key _ hlt;have e1:(i * sz+k) / sz=i:=by rw [Nat.mul_comm,Nat.mul_add_div (by omega),Nat.div_eq_of_lt h2];rfl
   have e2:(i * sz+k) % sz=k:=by rw [Nat.mul_comm,Nat.mul_add_mod,Nat.mod_eq_of_lt h2]
   rw [e1,e2,hcc] at h3;cases h3
   refine ⟨u,?_,h5⟩;simp only [List.getElem?_map,List.getElem?_range hlt,Option.map_some,Array.getD_eq_getD_getElem?,h4,Option.getD_some]
  ·intro u hu;obtain ⟨j,hj,rfl⟩:=List.mem_map.1 hu;obtain ⟨c,u,_,h4,_,h6⟩:=key j (by simpa using hj);simpa [Array.getD_eq_getD_getElem?,h4] using h6
  ·intro j u hj;rw [List.getElem?_map] at hj;cases hjr:(List.range (len * sz))[j]? with
   | none=>rw [hjr] at hj;cases hj
   | some j'=>
    rw [hjr] at hj;obtain ⟨hjlt,hj'⟩:=List.getElem?_eq_some_iff.1 hjr;simp at hj' hjlt;subst hj';obtain ⟨c,u',_,h4,_,_⟩:=key j hjlt;simp only [Option.map_some,Array.getD_eq_getD_getElem?,h4,Option.getD_some,Option.some.injEq] at hj;subst hj;rw [xg];unfold World.cell?;rw [hg];simpa using h4
 | _=>simp [xr] at hr
end
abbrev tY (l:List C):List C:=.za::.za::.za::.za::.za::.za::.za::.za::l
theorem zz {H:zk}{q:Prop}(h:q):H=H∧q:=⟨rfl,h⟩
theorem dd {p q:Prop}(h:q)(e:q→p:=by intro zh;(conv=>whnf);(try apply zz;conv=>whnf);exact zh):p:=e h
theorem ya {p q:Prop}(h:p):(true=true→p)∧(true=false→q):=⟨fun _=>h,fun h=>nomatch h⟩
theorem yb {p q:Prop}(h:q):(false=true→p)∧(false=false→q):=⟨fun h=>(nomatch h),fun _=>h⟩
theorem uA {a b p s q:Prop}(h:q)(n:b->False:=by intro h;first | (simp [hpc] at h;done) | (have h:=of_decide_eq_true h;omega) | (have h:=of_decide_eq_false h;omega))(e:q->p:=by intro zh;(conv=>whnf);(try apply zz;conv=>whnf);exact zh):(a->p)∧(b->s):=⟨fun _=>e h,fun x=>(n x).elim⟩
theorem uB {a b p s q:Prop}(h:q)(n:a->False:=by intro h;first | (simp [hpc] at h;done) | (have h:=of_decide_eq_true h;omega) | (have h:=of_decide_eq_false h;omega))(e:q->s:=by intro zh;(conv=>whnf);(try apply zz;conv=>whnf);exact zh):(a->p)∧(b->s):=⟨fun x=>(n x).elim,fun _=>e h⟩
theorem uC {g q:Prop}(h:q)(e:q->g:=by intro zh;(first | apply ya | apply yb);(conv=>whnf);(try apply zz;conv=>whnf);exact zh):g:=e h
theorem uD {g q:Prop}(h:q)(e:q->g:=by intro zh;(conv=>whnf);(refine ⟨fun h=>absurd h (by simp),fun _=>?_⟩);(conv=>whnf);(try apply zz;conv=>whnf);(refine ⟨by simp,?_⟩);(conv=>whnf);exact zh):g:=e h
theorem uE {g q:Prop}(h:q)(e:q->g:=by intro zh;refine .inl ⟨⟨false,[],[],[]⟩,by kernel_rfl,?_⟩;(conv=>whnf);exact zh):g:=e h
theorem uF {a b p s q:Prop}(h:q)(n:b->False:=by intro h;exact absurd h (by simp;omega))(e:q->p:=by intro zh;(conv=>whnf);(try apply zz;conv=>whnf);exact zh):(a->p)∧(b->s):=⟨fun _=>e h,fun x=>(n x).elim⟩
theorem uG {g q:Prop}(h:q)(e:q->g:=by intro zh;refine ⟨fun h=>absurd h (by simp),fun _=>?_⟩;(conv=>whnf);(try apply zz;conv=>whnf);exact zh):g:=e h
theorem uH {g q:Prop}(h:q)(e:q->g:=by intro zh;(conv=>whnf);exact zh):g:=e h
theorem uI {g:Prop}(e:g:=by exact ⟨.inl rfl,_,.refl _,rfl⟩):g:=e
theorem uJ {g:Prop}(e:g:=by exact ⟨.inl rfl,_,.refl _,rfl,rfl⟩):g:=e
theorem uK {p q:Prop}(n:p->q:=by intro h;dsimp only at h;omega):p->q:=n
theorem uL {p:Prop}(n:p:=by dsimp only;omega):p:=n
theorem uM {p:Prop}(n:p:=by (try dsimp only);(repeat' split) <;> omega):p:=n
theorem uN {b b2:Bool}(h:b=b2):some (C.v (Value.bool b))=some (C.v (Value.bool b2)):=congrArg (fun b=>some (C.v (Value.bool b))) h
theorem uO {p:Prop}(n:p:=by exact ⟨tm.listen,tm.word,tm.link,tm.host,tm.path,tm.d0,tm.d1,tm.cfg,tm.ans⟩):p:=n
theorem uP {p:Prop}(n:p:=by exact ⟨tm.listen,tm.word,tm.link,tm.host,tm.path,tm.d0,tm.d1,tm.cfg,(fun h=>absurd ((show m.op.kind=6 from h).symm.trans hk) (by decide))⟩):p:=n
theorem uQ {p:Prop}(n:p:=by exact ⟨su.world,su.zj,su.done,su.version,su.atv,su.zf,su.atg,su.end_,su.ate,su.other,su.slot,su.listen,su.i,su.k⟩):p:=n
theorem uR {p:Prop}(n:p:=by exact ⟨su.world,su.zj,su.done,su.version,su.atv,su.zf,su.atg,su.end_,su.ate,su.other,su.slot,su.listen,(by show 0<=m.i+1;omega),su.k⟩):p:=n
theorem uS {p:Prop}(n:p:=by exact ⟨su.world,su.zj,su.done,su.version,su.atv,su.zf,su.atg,su.end_,su.ate,su.other,su.slot,su.listen,Int.le_refl _,su.k⟩):p:=n
theorem uT {p:Prop}(n:p:=by (show zK _ _::zK _ _::zK _ ⟨1,0,5,_,0⟩::zK _ ⟨1,0,2,_,0⟩::zK _ ⟨1,0,3,_,0⟩::_=_);(rw [zG (enc:=zI) (fun _=>rfl),zG (enc:=zE) (fun _=>rfl),zG (enc:=zu) (fun _=>rfl)]);rfl):p:=n
theorem uU {p:Prop}(n:p:=by (show zF _ _::zF _ _::zF _ ⟨1,0,5,_,0⟩::zF _ ⟨1,0,2,_,0⟩::zF _ ⟨1,0,3,_,0⟩::_=_);(rw [zB (enc:=zI) (fun _=>rfl),zB (enc:=zE) (fun _=>rfl),zB (enc:=zu) (fun _=>rfl)]);rfl):p:=n
theorem uV {p:Prop}(n:p:=by show _::_::_::_::_::zF _ ⟨1,0,5,_,0⟩::zF _ ⟨1,0,2,_,0⟩::zF _ ⟨1,0,3,_,0⟩::_=_;rw [zB (enc:=zI) (fun _=>rfl),zB (enc:=zE) (fun _=>rfl),zB (enc:=zu) (fun _=>rfl)];rfl):p:=n
theorem uW {p:Prop}(n:p:=by show (1:Int)≠0;decide):p:=n
theorem uX {p:Prop}(n:p:=by simp [ho,Op.operands]):p:=n
theorem uY {p:Prop}(n:p:=by simpa using e2):p:=n
theorem uZ {p:Prop}(n:p:=by simp [ho,Op.operands,Call.operands,ht.callee,ht.args]):p:=n
theorem tA {p:Prop}(n:p:=by show zK _ _::zK _ _::zK _ ⟨1,0,5,_,0⟩::zK _ ⟨1,0,2,_,0⟩::zK _ ⟨1,0,3,_,0⟩::_=_;rw [zG (enc:=zI) (fun _=>rfl),zG (enc:=zE) (fun _=>rfl),zG (enc:=zu) (fun _=>rfl)];rfl):p:=n
theorem tB {p:Prop}(n:p:=by rw [hs.heap.n];exact hs.base):p:=n
theorem tD {p:Prop}(n:p:=by rw [<- hh.n];exact hi):p:=n
theorem tE {p:Prop}(n:p:=by simpa using h1):p:=n
theorem tG {p:Prop}(n:p:=by rw [hx];exact List.getElem_mem hk):p:=n
theorem tH {p:Prop}(n:p:=by show _::_::_::_::_::zF _ ⟨1,0,1,_,0⟩::_=_;rw [zB (enc:=zN) (fun _=>rfl)];rfl):p:=n
theorem tI {p:Prop}(n:p:=by show (2:Int)≠0;decide):p:=n
theorem tJ {p:Prop}(n:p:=by rw [show B=0 from by simpa using h];rfl):p:=n
theorem tK {p:Prop}(n:p:=by simpa using le):p:=n
theorem tL {p:Prop}(n:p:=by subst e;simp [ho,Op.operands]):p:=n
theorem tM {p:Prop}(n:p:=by show (3:Int)≠0;decide):p:=n
theorem tN {p:Prop}(n:p:=by simpa using lg):p:=n
theorem tO {p:Prop}(n:p:=by rw [hh.n];exact hi):p:=n
theorem tP {p:Prop}(n:p:=by simpa using lv):p:=n
theorem tR {p:Prop}(n:p:=by show 0+1<=1;decide):p:=n
theorem tS {p:Prop}(n:p:=by simpa using h2):p:=n
end Go.Ab
