import Derived.WalkKit
import Derived.Still
import Derived.LoopN
import Derived.LoopNIn
import Derived.ControlIn
import Derived.CallsIn
import Derived.TacticsIn
import Derived.OrdersIn
import Derived.Scope
import Derived.RangeFuncLeaves
import Derived.RangeFuncRecord
set_option linter.unusedVariables false
set_option linter.unusedSimpArgs false
set_option linter.unusedSectionVars false
set_option maxRecDepth 100000
set_option maxHeartbeats 4000000
namespace Go.Ab
abbrev Hop:=Nat × Nat
inductive C where
 | v (x:Value)
 | lst (o sz:Nat) (rows:List (List C))
 | qv (cells:List C)
 | ref (id:Nat) (hops:List Hop) (sz i k:Nat)
 | sl (id:Nat) (hops:List Hop) (sz lo len:Nat) (full:Bool)
 | fn (f:FuncId) (first caps:List C)
 | mp (id:Nat)
 | agg (cs:List C)
 | tup (vs:List C)
 | un
 | za
 | gl (id sz:Nat) (rows:List (List C))
 | ifc (t:TypeId) (c:C)
 | rc (o:Obj)
structure Ob where
 kind:Nat
 ty:TypeId
 sz:Nat
 rows:List (List C)
 fz:Nat:=0
abbrev ze:=List Ob
structure Env where
 n:Nat
 β:Nat->List Hop->Nat
 κ:Nat->List Hop->Nat
 St:Nat->Nat->Option Value
 G:Nat->Nat->Option Value:=fun _ _=>none
def Env.shut (E:Env):Env:={ E with n:=0 }
def Env.at (E:Env) (kd:Nat):Env:=if kd=2 then E.shut else E
inductive L:Env->C->Value->Prop
 | v {E:Env} (x:Value) (h:x.oneCell'=true):L E (.v x) x
 | lst {E:Env} (o sz:Nat) (rows:List (List C)) (b off cap:Nat) (us:Nat->Nat->Value) (ho:o=0∨o=1∧cap=rows.length) (hc:rows.length<=cap)
   (hsz:∀ r ∈ rows,r.length=sz)
   (hst:∀ (i:Nat) r (k:Nat) c,rows[i]?= some r->r[k]?= some c->E.St b (off+i * sz+k)=some (us i k))
   (hL:∀ (i:Nat) r (k:Nat) c,rows[i]?= some r->r[k]?= some c->L E.shut c (us i k)):
   L E (.lst o sz rows) (.slice (some ⟨b,off,none⟩) rows.length cap)
 | qP {E:Env} (o sz:Nat) (ho:o=0∨o=1) (a:Option Addr:=none):L E (.lst o sz []) (.slice a 0 0)
 | qv {E:Env} (cells:List C) (b off:Nat) (us:Nat->Value) (hst:∀ (k:Nat) c,cells[k]?= some c->E.St b (off+k)=some (us k))
   (hL:∀ (k:Nat) c,cells[k]?= some c->L E.shut c (us k)):L E (.qv cells) (.pointer (some ⟨b,off,none⟩))
 | ref {E:Env} (id:Nat) (hops:List Hop) (sz i k:Nat) (hn:id < E.n):L E (.ref id hops sz i k) (.pointer (some ⟨E.β id hops,i * sz+k,none⟩))
 | sl {E:Env} (id:Nat) (hops:List Hop) (sz lo len:Nat) (full:Bool) (cap:Nat) (hn:id < E.n) (hlen:len<=cap) (hf:full=true->cap=len) (hf':full=false->lo+cap=E.κ id hops):
   L E (.sl id hops sz lo len full) (.slice (some ⟨E.β id hops,lo * sz,none⟩) len cap)
 | fn {E:Env} (f:FuncId) (first caps:List C) (ys zs:Array Value) (h1:first.length=ys.size) (h2:caps.length=zs.size)
   (h3:∀ (i:Nat) c y,first[i]?= some c->ys[i]?= some y->L E c y) (h4:∀ (i:Nat) c y,caps[i]?= some c->zs[i]?= some y->L E c y):
   L E (.fn f first caps) (.func (.func f) ys zs)
 | mp {E:Env} (id:Nat) (hn:id < E.n):L E (.mp id) (.map (some (E.β id [])))
 | agg {E:Env} (cs:List C) (ys:Array Value) (h1:cs.length=ys.size) (h2:∀ (i:Nat) c y,cs[i]?= some c->ys[i]?= some y->L E c y) (h3:∀ y ∈ ys,y.oneCell'=true):L E (.agg cs) (.agg ys)
 | tup {E:Env} (cs:List C) (ys:Array Value) (h1:cs.length=ys.size) (h2:∀ (i:Nat) c y,cs[i]?= some c->ys[i]?= some y->L E c y):L E (.tup cs) (.tuple ys)
 | un {E:Env}:L E .un undef
 | za {E:Env} (y:Value):L E .za y
 | gl {E:Env} (id sz:Nat) (rows:List (List C)) (y:Value) (hn:id < E.n) (hg:E.G id rows.length=some y) (h:L E.shut (.lst 0 sz rows) y):L E (.gl id sz rows) y
 | ifc {E:Env} (t:TypeId) (c:C) (y:Value) (h:L E c y):L E (.ifc t c) (.iface t y)
structure Env.le (E E':Env):Prop where
 n:E.n<=E'.n
 β:∀ id hops,id < E.n->E'.β id hops=E.β id hops
 κ:∀ id hops,id < E.n->E'.κ id hops=E.κ id hops
 St:∀ b o u,E.St b o=some u->E'.St b o=some u
 G:∀ id k u,id < E.n->E.G id k=some u->E'.G id k=some u
theorem Env.le.refl (E:Env):E.le E:=⟨Nat.le_refl _,fun _ _ _=>rfl,fun _ _ _=>rfl,fun _ _ _ h=>h,fun _ _ _ _ h=>h⟩
theorem Env.le.trans {E E' E'':Env} (h:E.le E') (h':E'.le E''):E.le E'':=
 ⟨Nat.le_trans h.n h'.n,fun id hops hi=>(h'.β id hops (Nat.lt_of_lt_of_le hi h.n)).trans (h.β id hops hi),fun id hops hi=>(h'.κ id hops (Nat.lt_of_lt_of_le hi h.n)).trans (h.κ id hops hi),
  fun b o u hu=>h'.St b o u (h.St b o u hu),fun id k u hi hu=>h'.G id k u (Nat.lt_of_lt_of_le hi h.n) (h.G id k u hi hu)⟩
theorem Env.wI (E:Env):E.shut.le E:=⟨Nat.zero_le _,fun _ _ h=>absurd h (Nat.not_lt_zero _),fun _ _ h=>absurd h (Nat.not_lt_zero _),fun _ _ _ h=>h,fun _ _ _ h _=>absurd h (Nat.not_lt_zero _)⟩
theorem Env.le.shut {E E':Env} (h:E.le E'):E.shut.le E'.shut:=⟨Nat.le_refl _,fun _ _ h=>absurd h (Nat.not_lt_zero _),fun _ _ h=>absurd h (Nat.not_lt_zero _),h.St,fun _ _ _ h _=>absurd h (Nat.not_lt_zero _)⟩
theorem Env.le.at {E E':Env} (h:E.le E') (kd:Nat):(E.at kd).le (E'.at kd):=by unfold Env.at;split;exact h.shut;exact h
theorem Env.zkY (E:Env) (kd:Nat):(E.at kd).le E:=by unfold Env.at;split;exact E.wI;exact .refl E
theorem L.mono {E E':Env} (h:E.le E') {c:C} {y:Value} (hl:L E c y):L E' c y:=by
 induction hl generalizing E' with
 | v x hx=>exact .v x hx
 | lst o sz rows b off cap us ho hc hsz hst _ ih=>exact .lst o sz rows b off cap us ho hc hsz (fun i r k c h1 h2=>h.St _ _ _ (hst i r k c h1 h2)) (fun i r k c h1 h2=>ih i r k c h1 h2 h.shut)
 | qP o sz ho a=>exact .qP o sz ho a
 | qv cells b off us hst _ ih=>exact .qv cells b off us (fun k c h1=>h.St _ _ _ (hst k c h1)) (fun k c h1=>ih k c h1 h.shut)
 | ref id hops sz i k hn=>rw [<- h.β id hops hn];exact .ref id hops sz i k (Nat.lt_of_lt_of_le hn h.n)
 | sl id hops sz lo len full cap hn hlen hf hf'=>
  rw [<- h.β id hops hn];exact .sl id hops sz lo len full cap (Nat.lt_of_lt_of_le hn h.n) hlen hf (fun e=>by rw [h.κ id hops hn];exact hf' e)
 | fn f first caps ys zs h1 h2 _ _ ih1 ih2=>exact .fn f first caps ys zs h1 h2 (fun i c y e1 e2=>ih1 i c y e1 e2 h) (fun i c y e1 e2=>ih2 i c y e1 e2 h)
 | mp id hn=>rw [<- h.β id [] hn];exact .mp id (Nat.lt_of_lt_of_le hn h.n)
 | agg cs ys h1 _ h3 ih=>exact .agg cs ys h1 (fun i c y e1 e2=>ih i c y e1 e2 h) h3
 | tup cs ys h1 _ ih=>exact .tup cs ys h1 (fun i c y e1 e2=>ih i c y e1 e2 h)
 | un=>exact .un
 | za y=>exact .za y
 | gl id sz rows y hn hg _ ih=>exact .gl id sz rows y (Nat.lt_of_lt_of_le hn h.n) (h.G _ _ _ hn hg) (ih h.shut)
 | ifc t c y _ ih=>exact .ifc t c y (ih h)
def wG:C->Bool
 | .v _ | .lst .. | .qv _=>true
 | _=>false
def zdj:C->Bool
 | .agg cs=>cs.all wG
 | c=>wG c
def jz:C->Bool
 | .fn _ first caps=>first.all zdj && caps.all zdj
 | c=>wG c
theorem L.xH {E:Env} {c:C} {y:Value} (h:L E c y) (hc:wG c=true):L E.shut c y:=by
 cases h with
 | v x hx=>exact .v _ hx
 | lst o sz rows b off cap us ho h2 hsz hst hL=>exact .lst o sz rows b off cap us ho h2 hsz hst hL
 | qP o sz ho a=>exact .qP o sz ho a
 | qv cells b off us hst hL=>exact .qv cells b off us hst hL
 | _=>simp [wG] at hc
theorem L.zhy {E:Env} {c:C} {y:Value} (h:L E c y) (hc:zdj c=true):L E.shut c y:=by
 cases h with
 | agg cs ys h1 h2 h3=>
  refine .agg cs ys h1 (fun i c y e1 e2=>(h2 i c y e1 e2).xH ?_) h3
  exact List.all_eq_true.1 (show cs.all wG=true from hc) _ (List.mem_of_getElem? e1)
 | v x hx=>exact (L.v (E:=E) _ hx).xH hc
 | lst o sz rows b off cap us ho h2 hsz hst hL=>exact (L.lst (E:=E) o sz rows b off cap us ho h2 hsz hst hL).xH hc
 | qP o sz ho a=>exact (L.qP (E:=E) o sz ho a).xH hc
 | qv cells b off us hst hL=>exact (L.qv (E:=E) cells b off us hst hL).xH hc
 | _=>simp [zdj,wG] at hc
theorem L.xn {E:Env} {c:C} {y:Value} (h:L E c y) (hc:jz c=true):L E.shut c y:=by
 cases h with
 | fn f first caps ys zs h1 h2 h3 h4=>
  have hc:(first.all zdj && caps.all zdj)=true:=hc
  rw [Bool.and_eq_true] at hc
  exact .fn f first caps ys zs h1 h2 (fun i c y e1 e2=>(h3 i c y e1 e2).zhy (List.all_eq_true.1 hc.1 _ (List.mem_of_getElem? e1))) (fun i c y e1 e2=>(h4 i c y e1 e2).zhy (List.all_eq_true.1 hc.2 _ (List.mem_of_getElem? e1)))
 | v x hx=>exact (L.v (E:=E) _ hx).xH hc
 | lst o sz rows b off cap us ho h2 hsz hst hL=>exact (L.lst (E:=E) o sz rows b off cap us ho h2 hsz hst hL).xH hc
 | qP o sz ho a=>exact (L.qP (E:=E) o sz ho a).xH hc
 | qv cells b off us hst hL=>exact (L.qv (E:=E) cells b off us hst hL).xH hc
 | _=>simp [jz,wG] at hc
def LL (E:Env) (cs:List C) (ys:List Value):Prop:=cs.length=ys.length∧∀ (i:Nat) c y,cs[i]?= some c->ys[i]?= some y->L E c y
theorem LL.mono {E E':Env} (h:E.le E') {cs:List C} {ys:List Value} (hl:LL E cs ys):LL E' cs ys:=
 ⟨hl.1,fun i c y h1 h2=>(hl.2 i c y h1 h2).mono h⟩
theorem LL.nil {E:Env}:LL E [] []:=⟨rfl,by simp⟩
theorem LL.cons {E:Env} {c:C} {y:Value} {cs:List C} {ys:List Value} (h:L E c y) (hl:LL E cs ys):LL E (c::cs) (y::ys):=by
 refine ⟨by simp [hl.1],?_⟩
 intro i c' y' h1 h2
 cases i with
 | zero=>simp at h1 h2;subst h1;subst h2;exact h
 | succ i=>simp at h1 h2;exact hl.2 i c' y' h1 h2
theorem LL.cons_inv {E:Env} {c:C} {y:Value} {cs:List C} {ys:List Value} (h:LL E (c::cs) (y::ys)):L E c y∧LL E cs ys:=
 ⟨h.2 0 c y rfl rfl,by simpa using h.1,fun i c' y' h1 h2=>h.2 (i+1) c' y' (by simpa using h1) (by simpa using h2)⟩
theorem LL.one {E:Env} {c:C} {y:Value} (h:L E c y):LL E [c] [y]:=LL.cons h LL.nil
theorem LL.append {E:Env} {cs cs':List C} {ys ys':List Value} (h:LL E cs ys) (h':LL E cs' ys'):LL E (cs++cs') (ys++ys'):=by
 refine ⟨by simp [h.1,h'.1],?_⟩
 intro i c y h1 h2
 by_cases hi:i < cs.length
 ·rw [List.getElem?_append_left hi] at h1
  rw [List.getElem?_append_left (by rw [<- h.1];exact hi)] at h2
  exact h.2 i c y h1 h2
 ·rw [List.getElem?_append_right (by omega)] at h1
  rw [List.getElem?_append_right (by rw [<- h.1];omega),<- h.1] at h2
  exact h'.2 _ c y h1 h2
theorem LL.get {E:Env} {cs:List C} {ys:List Value} (h:LL E cs ys) {i:Nat} {c:C} (hc:cs[i]?= some c):∃ y,ys[i]?= some y∧L E c y:=by
 have hi:i < ys.length:=by rw [<- h.1];exact (List.getElem?_eq_some_iff.1 hc).1
 exact ⟨ys[i],by simp [hi],h.2 i c ys[i] hc (by simp [hi])⟩
theorem LL.take {E:Env} {cs:List C} {ys:List Value} (h:LL E cs ys) (n:Nat):LL E (cs.take n) (ys.take n):=by
 refine ⟨by simp [h.1],?_⟩
 intro i c y h1 h2
 rw [List.getElem?_take] at h1 h2
 split at h1
 ·rename_i hi;rw [if_pos hi] at h2;exact h.2 i c y h1 h2
 ·cases h1
theorem LL.drop {E:Env} {cs:List C} {ys:List Value} (h:LL E cs ys) (n:Nat):LL E (cs.drop n) (ys.drop n):=by
 refine ⟨by simp [h.1],?_⟩
 intro i c y h1 h2
 rw [List.getElem?_drop] at h1 h2
 exact h.2 _ c y h1 h2
theorem LL.set {E:Env} {cs:List C} {ys:List Value} (h:LL E cs ys) {c:C} {y:Value} (hl:L E c y) (i:Nat):LL E (cs.set i c) (ys.set i y):=by
 refine ⟨by simp [h.1],?_⟩
 intro j c' y' h1 h2
 rw [List.getElem?_set] at h1 h2
 by_cases hij:i=j
 ·subst hij
  rw [if_pos rfl] at h1 h2
  split at h1
  ·split at h2
   ·cases h1;cases h2;exact hl
   ·cases h2
  ·cases h1
 ·rw [if_neg hij] at h1 h2
  exact h.2 j c' y' h1 h2
def C.cells:C->List C
 | .agg cs=>cs
 | c=>[c]
theorem L.cells {E:Env} {c:C} {y:Value} (h:L E c y) (hj:c≠.za) (hu:c≠.un):LL E c.cells y.cells.toList:=by
 have one:∀ (c:C) (y:Value),L E c y->c.cells=[c]->y.cells= #[y]->LL E c.cells y.cells.toList:=fun c y h e1 e2=>by
  rw [e1,e2];exact LL.cons h LL.nil
 cases h with
 | v x hx=>exact one _ _ (.v _ hx) rfl (by cases y <;> simp_all [Value.cells,Value.oneCell'])
 | agg cs ys h1 h2 h3=>exact ⟨by simpa [C.cells,Value.cells] using h1,fun i c y e1 e2=>h2 i c y e1 (by simpa [Value.cells] using e2)⟩
 | un=>exact absurd rfl hu
 | za=>exact absurd rfl hj
 | tup cs ys h1 h2=>exact one _ _ (.tup cs ys h1 h2) rfl rfl
 | lst o sz rows b off cap us ho hc hsz hst hL=>exact one _ _ (.lst o sz rows b off cap us ho hc hsz hst hL) rfl rfl
 | qP o sz ho a=>exact one _ _ (.qP o sz ho a) rfl rfl
 | qv cells b off us hst hL=>exact one _ _ (.qv cells b off us hst hL) rfl rfl
 | ref id hops sz i k hn=>exact one _ _ (.ref id hops sz i k hn) rfl rfl
 | sl id hops sz lo len full cap hn hlen hf hf'=>exact one _ _ (.sl id hops sz lo len full cap hn hlen hf hf') rfl rfl
 | fn f first caps ys zs h1 h2 h3 h4=>exact one _ _ (.fn f first caps ys zs h1 h2 h3 h4) rfl rfl
 | mp id hn=>exact one _ _ (.mp id hn) rfl rfl
 | gl id sz rows y hn hg h=>exact one _ _ (.gl id sz rows y hn hg h) rfl (by cases h <;> rfl)
 | ifc t c y h=>exact one _ _ (.ifc t c y h) rfl rfl
def cellAt (rows:List (List C)) (i k:Nat):Option C:=(rows[i]?).bind (·[k]?)
def xb:Nat->List (List C)->List Hop->Option (Nat × List (List C))
 | sz,rows,[]=>some (sz,rows)
 | _,rows,(i,k)::hs=>match cellAt rows i k with
  | some (.lst 2 sz' rows')=>xb sz' rows' hs
  | _=>none
def zy (H:ze) (id:Nat) (hops:List Hop):Option (Nat × List (List C)):=
 match H[id]? with
 | some ob=>if ob.kind=1∨ob.kind=2 then xb ob.sz ob.rows hops else none
 | none=>none
def zV (E:Env) (kd:Nat) (id:Nat) (hops:List Hop) (i k:Nat) (c:C) (u:Value):Prop:=
 match c with
 | .lst 2 _ rows'=>u=.slice (some ⟨E.β id (hops++[(i,k)]),0,none⟩) rows'.length (E.κ id (hops++[(i,k)]))
 | c=>L (E.at kd) c u∧u.oneCell'=true
structure zcN (w:World) (E:Env) (kd:Nat) (id:Nat) (hops:List Hop) (sz:Nat) (rows:List (List C)):Prop where
 len:rows.length<=E.κ id hops
 row:∀ r ∈ rows,r.length=sz
 blk:∃ cur e,w.heap[E.β id hops]?= some (.cells cur e (0,0))∧cur.size=E.κ id hops * sz∧
  ∀ i k c,cellAt rows i k=some c->∃ u,cur[i * sz+k]?= some u∧zV E kd id hops i k c u
structure zB (w:World) (E:Env) (H:ze):Prop where
 n:E.n=H.length
 blk:∀ id ob hops sz rows,H[id]?= some ob->zy H id hops=some (sz,rows)->zcN w E ob.kind id hops sz rows
 inj:∀ id hops id' hops' x y,zy H id hops=some x->zy H id' hops'=some y->E.β id hops=E.β id' hops'->id=id'∧hops=hops'
 zG:∀ b o u,E.St b o=some u->w.cell? ⟨b,o,none⟩=some u∧u.oneCell'=true
 sep:∀ id hops x o u,zy H id hops=some x->E.St (E.β id hops) o=some u->hops=[]∧∃ ob,H[id]?= some ob∧o < ob.fz * ob.sz
 ty:∀ id ob,H[id]?= some ob->ob.kind=2->∃ cur,w.heap[E.β id []]?= some (.cells cur ob.ty (0,0))
 fz:∀ (id:Nat) (ob:Ob),H[id]?= some ob->ob.fz<=ob.rows.length
end Go.Ab
namespace Go.Ab
structure S where
 tmps:List C
 H:ze
def z5 (E:Env) (H:ze) (b:Nat):Prop:=∃ id hops x,zy H id hops=some x∧E.β id hops=b
structure zL (w:World) (E:Env) (H:ze) (w':World) (E':Env) (H':ze):Prop where
 le:E.le E'
 ze6:∀ (id k:Nat),id < E.n->E'.G id k=E.G id k
 os:w'.os=w.os
 tape:w'.tape=w.tape
 output:w'.output=w.output
 size:w.heap.size<=w'.heap.size
 frame:∀ k,k < w.heap.size->¬z5 E H k->w'.heap[k]?= w.heap[k]?
 qs:∀ b o u,E'.St b o=some u->E.St b o=some u∨w.heap.size<=b∨z5 E H b
 own:∀ b,z5 E' H' b->w.heap.size<=b∨z5 E H b
theorem zL.refl (w:World) (E:Env) (H:ze):zL w E H w E H:=
 ⟨Env.le.refl E,fun _ _ _=>rfl,rfl,rfl,rfl,Nat.le_refl _,fun _ _ _=>rfl,fun _ _ _ h=>.inl h,fun _ h=>.inr h⟩
theorem zL.trans {w w1 w2:World} {E E1 E2:Env} {H H1 H2:ze} (g:zL w E H w1 E1 H1) (h:zL w1 E1 H1 w2 E2 H2):zL w E H w2 E2 H2 where
 le:=g.le.trans h.le
 ze6 id k hi:=(h.ze6 id k (Nat.lt_of_lt_of_le hi g.le.n)).trans (g.ze6 id k hi)
 os:=h.os.trans g.os
 tape:=h.tape.trans g.tape
 output:=h.output.trans g.output
 size:=Nat.le_trans g.size h.size
 frame k hk ho:=(h.frame k (Nat.lt_of_lt_of_le hk g.size) fun hc=>(g.own k hc).elim (fun hs=>by omega) ho).trans (g.frame k hk ho)
 qs b o u hu:=by
  rcases h.qs b o u hu with h1 | h1 | h1
  ·exact g.qs b o u h1
  ·exact .inr (.inl (Nat.le_trans g.size h1))
  ·rcases g.own b h1 with h2 | h2
   ·exact .inr (.inl h2)
   ·exact .inr (.inr h2)
 own b hb:=by
  rcases h.own b hb with h1 | h1
  ·exact .inl (Nat.le_trans g.size h1)
  ·exact g.own b h1
def zO (E:Env) (H:ze) (id b:Nat):Prop:=∃ ob cap,H[id]?= some ob∧ob.kind=4∧E.G id ob.rows.length=some (.slice (some ⟨b,0,none⟩) ob.rows.length cap)∧cap≠ob.rows.length
def qh (H:ze) (id b:Nat):Prop:=∃ ob o t,H[id]?= some ob∧ob.kind=4∧(ob.rows=[.rc o::t]∧ob.fz=1)∧ob.ty=b
def wh:Obj->Bool
 | .loop _=>true
 | .map ..=>true
 | .mapIter ..=>true
 | _=>false
def zlK:Obj->List Value
 | .loop r=>r.tmps.toList
 | _=>[]
def vX (E:Env) (t:List C) (o:Obj):Prop:=LL E t (zlK o)∨∃ es k,o=.map es k∧LL E t (es.toList.map (·.val))
theorem vX.map {E E':Env} {t:List C} {o:Obj} (h:vX E t o) (hf:∀ ys,LL E t ys->LL E' t ys):vX E' t o:=h.imp (hf _) fun ⟨es,k,e,hl⟩=>⟨es,k,e,hf _ hl⟩
theorem vX.mono {E E':Env} {t:List C} {o:Obj} (h:vX E t o) (hle:E.le E'):vX E' t o:=h.map fun _ hl=>hl.mono hle
theorem vX.loop {E:Env} {t:List C} {r:Loop} (h:vX E t (.loop r)):LL E t r.tmps.toList:=h.elim id fun ⟨_,_,e,_⟩=>by cases e
theorem zB.kT {w:World} {E:Env} {H:ze} {b:Nat} (h:zB w E H) (ho:z5 E H b):∃ cur e,w.heap[b]?= some (.cells cur e (0,0)):=by
 obtain ⟨id,hops,x,hx,rfl⟩:=ho
 have hx':=hx
 unfold zy at hx'
 split at hx'
 ·rename_i ob hob
  obtain ⟨cur,e,h1,_⟩:=(h.blk id ob hops x.1 x.2 hob hx).blk
  exact ⟨cur,e,h1⟩
 ·cases hx'
structure Gro (w:World) (E:Env) (H:ze):Prop where
 val:∀ (id:Nat) (ob:Ob),H[id]?= some ob->ob.kind=4->∃ a cap,E.G id ob.rows.length=some (.slice a ob.rows.length cap)∧(cap=ob.rows.length∨∃ b,a=some ⟨b,0,none⟩∧ob.rows.length<=cap)
 blk:∀ (id b:Nat) (ob:Ob),zO E H id b->H[id]?= some ob->∃ cur cap,E.G id ob.rows.length=some (.slice (some ⟨b,0,none⟩) ob.rows.length cap)∧w.heap[b]?= some (.cells cur ob.ty (0,0))∧cur.size=cap * ob.sz
 sep:∀ id b,zO E H id b->¬z5 E H b
 inj:∀ id id' b,zO E H id b->zO E H id' b->id=id'
 st:∀ (id b:Nat) (ob:Ob) o u,zO E H id b->H[id]?= some ob->E.St b o=some u->o < ob.rows.length * ob.sz
 top:∀ (id:Nat) (ob:Ob) (k:Nat) u,H[id]?= some ob->ob.kind=4->E.G id k=some u->k<=ob.rows.length
 lop:∀ (id:Nat) (ob:Ob) (o:Obj) (t:List C),H[id]?= some ob->ob.kind=4->(ob.rows=[.rc o::t]∧ob.fz=1)->(w.heap[ob.ty]?= some o∧wh o=true)∧vX E t o
 yg:∀ id id' b,qh H id b->qh H id' b->id=id'
def qj (H H':ze):Prop:=∀ (id:Nat) (ob:Ob),ob.kind=4->(H'[id]?= some ob↔H[id]?= some ob)
theorem qj.refl (H:ze):qj H H:=fun _ _ _=>Iff.rfl
structure zH (w:World) (E:Env) (H:ze):Prop where
 base:zB w E H
 gro:Gro w E H
theorem zH.n {w:World} {E:Env} {H:ze} (h:zH w E H):E.n=H.length:=h.base.n
def qz (E:Env) (H:ze) (b:Nat):Prop:=z5 E H b∨∃ id,(zO E H id b∨qh H id b)
structure Grow (w:World) (E:Env) (H:ze) (w':World) (E':Env) (H':ze):Prop where
 le:E.le E'
 os:w'.os=w.os
 tape:w'.tape=w.tape
 output:w'.output=w.output
 size:w.heap.size<=w'.heap.size
 frame:∀ k,k < w.heap.size->¬qz E H k->w'.heap[k]?= w.heap[k]?
 qs:∀ b o u,E'.St b o=some u->E.St b o=some u∨w.heap.size<=b∨qz E H b
 own:∀ b,qz E' H' b->w.heap.size<=b∨qz E H b
theorem Grow.refl (w:World) (E:Env) (H:ze):Grow w E H w E H:=
 ⟨Env.le.refl E,rfl,rfl,rfl,Nat.le_refl _,fun _ _ _=>rfl,fun _ _ _ h=>.inl h,fun _ h=>.inr h⟩
theorem Grow.trans {w w1 w2:World} {E E1 E2:Env} {H H1 H2:ze} (g:Grow w E H w1 E1 H1) (h:Grow w1 E1 H1 w2 E2 H2):Grow w E H w2 E2 H2 where
 le:=g.le.trans h.le
 os:=h.os.trans g.os
 tape:=h.tape.trans g.tape
 output:=h.output.trans g.output
 size:=Nat.le_trans g.size h.size
 frame k hk ho:=(h.frame k (Nat.lt_of_lt_of_le hk g.size) fun hc=>(g.own k hc).elim (fun hs=>by omega) ho).trans (g.frame k hk ho)
 qs b o u hu:=by
  rcases h.qs b o u hu with h1 | h1 | h1
  ·exact g.qs b o u h1
  ·exact .inr (.inl (Nat.le_trans g.size h1))
  ·rcases g.own b h1 with h2 | h2
   ·exact .inr (.inl h2)
   ·exact .inr (.inr h2)
 own b hb:=by
  rcases h.own b hb with h1 | h1
  ·exact .inl (Nat.le_trans g.size h1)
  ·exact g.own b h1
theorem zO.back {w:World} {E E':Env} {H H':ze} (hg:Gro w E H) (hn:E.n=H.length) (hle:E.le E') (hk:qj H H') {id b:Nat} (h:zO E' H' id b):zO E H id b:=by
 obtain ⟨ob,cap,h1,h2,h3,h4⟩:=h
 have h1':=(hk id ob h2).1 h1
 obtain ⟨a,cap',e1,_⟩:=hg.val id ob h1' h2
 have e2:=hle.G id ob.rows.length _ (by rw [hn];exact (List.getElem?_eq_some_iff.1 h1').1) e1
 rw [h3] at e2
 cases e2
 exact ⟨ob,cap,h1',h2,e1,h4⟩
theorem qh.back {H H':ze} (hk:qj H H') {id b:Nat} (h:qh H' id b):qh H id b:=by
 obtain ⟨ob,r,t,h1,h2,h3⟩:=h
 exact ⟨ob,r,t,(hk id ob h2).1 h1,h2,h3⟩
theorem Gro.step {w w':World} {E E':Env} {H H':ze} (h:zH w E H) (g:zL w E H w' E' H') (hk:qj H H'):Gro w' E' H' where
 val id ob hob hkd:=by
  have hob':=(hk id ob hkd).1 hob
  obtain ⟨a,cap,e1,e2⟩:=h.gro.val id ob hob' hkd
  exact ⟨a,cap,g.le.G id ob.rows.length _ (by rw [h.n];exact (List.getElem?_eq_some_iff.1 hob').1) e1,e2⟩
 blk id b ob ho hob:=by
  have ho':=ho.back h.gro h.n g.le hk
  obtain ⟨ob2,_,e1,e2,_⟩:=ho
  rw [hob] at e1
  cases e1
  have hob':=(hk id ob e2).1 hob
  obtain ⟨cur,cap,e3,e4,e5⟩:=h.gro.blk id b ob ho' hob'
  refine ⟨cur,cap,g.le.G id ob.rows.length _ (by rw [h.n];exact (List.getElem?_eq_some_iff.1 hob').1) e3,?_,e5⟩
  rw [g.frame b (Array.getElem?_eq_some_iff.1 e4).1 (h.gro.sep id b ho')]
  exact e4
 sep id b ho:=by
  have ho':=ho.back h.gro h.n g.le hk
  intro hc
  rcases g.own b hc with h1 | h1
  ·obtain ⟨ob,_,e1,_⟩:=ho'
   obtain ⟨cur,cap,e3,e4,e5⟩:=h.gro.blk id b ob (ho.back h.gro h.n g.le hk) e1
   have:=(Array.getElem?_eq_some_iff.1 e4).1
   omega
  ·exact h.gro.sep id b ho' h1
 inj id id' b h1 h2:=h.gro.inj id id' b (h1.back h.gro h.n g.le hk) (h2.back h.gro h.n g.le hk)
 st id b ob o u ho hob hu:=by
  have ho':=ho.back h.gro h.n g.le hk
  obtain ⟨ob2,_,e1,e2,_⟩:=ho
  rw [hob] at e1
  cases e1
  have hob':=(hk id ob e2).1 hob
  rcases g.qs b o u hu with h1 | h1 | h1
  ·exact h.gro.st id b ob o u ho' hob' h1
  ·obtain ⟨cur,cap,e3,e4,e5⟩:=h.gro.blk id b ob ho' hob'
   have:=(Array.getElem?_eq_some_iff.1 e4).1
   omega
  ·exact absurd h1 (h.gro.sep id b ho')
 top id ob k u hob hkd hu:=by
  have hob':=(hk id ob hkd).1 hob
  rw [g.ze6 id k (by rw [h.n];exact (List.getElem?_eq_some_iff.1 hob').1)] at hu
  exact h.gro.top id ob k u hob' hkd hu
 lop id ob r t hob hkd hr:=by
  obtain ⟨⟨h1,hf⟩,hl⟩:=h.gro.lop id ob r t ((hk id ob hkd).1 hob) hkd hr
  refine ⟨⟨?_,hf⟩,hl.mono g.le⟩
  rw [g.frame ob.ty (Array.getElem?_eq_some_iff.1 h1).1 fun hc=>by obtain ⟨cur,e,h2⟩:=h.base.kT hc;rw [h1] at h2;cases h2;cases hf]
  exact h1
 yg id id' b h1 h2:=h.gro.yg id id' b (h1.back hk) (h2.back hk)
theorem zL.up {w w':World} {E E':Env} {H H':ze} (h:zH w E H) (g:zL w E H w' E' H') (hk:qj H H'):Grow w E H w' E' H' where
 le:=g.le
 os:=g.os
 tape:=g.tape
 output:=g.output
 size:=g.size
 frame k h1 h2:=g.frame k h1 fun hc=>h2 (.inl hc)
 qs b o u hu:=(g.qs b o u hu).imp_right fun h=>h.imp_right .inl
 own b hb:=by
  rcases hb with hb | ⟨id,hb | hb⟩
  ·exact (g.own b hb).imp_right .inl
  ·exact .inr (.inr ⟨id,.inl (hb.back h.gro h.n g.le hk)⟩)
  ·exact .inr (.inr ⟨id,.inr (hb.back hk)⟩)
abbrev mkD (D:Nat):Deferred:={ target:=.collected D,args:= #[] }
def Marks (m:Nat) (w:World):List Deferred->Prop
 | []=>m<=w.heap.size
 | d::ds=>(∃ D,d=mkD D∧m<=D∧w.heap[D]?= some (.deferred (some []))∧mkD D ∉ ds)∧Marks m w ds
theorem Marks.mono {m:Nat} {w w':World} (hsz:w.heap.size<=w'.heap.size):∀ {ds:List Deferred},Marks m w ds->(∀ D,mkD D ∈ ds->w.heap[D]?= some (.deferred (some []))->w'.heap[D]?= w.heap[D]?)->Marks m w' ds
 | [],h,_=>Nat.le_trans h hsz
 | d::ds,⟨⟨D,h1,h2,h3,h4⟩,ht⟩,hk=>⟨⟨D,h1,h2,(hk D (by rw [h1];exact List.mem_cons_self ..) h3).trans h3,h4⟩,Marks.mono hsz ht fun D' hm hd=>hk D' (List.mem_cons_of_mem _ hm) hd⟩
theorem Marks.le {m:Nat} {w:World}:∀ {ds:List Deferred},Marks m w ds->m<=w.heap.size
 | [],h=>h
 | _::_,⟨_,h⟩=>Marks.le h
theorem zH.free {w:World} {E:Env} {H:ze} {D:Nat} {ds:Option (List Deferred)} (h:zH w E H) (hd:w.heap[D]?= some (.deferred ds)):¬qz E H D:=by
 rintro (ho | ⟨id,⟨ob,cap,hob,h4,hG,hne⟩ | ⟨ob,r,t,hob,h4,hr,rfl⟩⟩)
 ·obtain ⟨cur,e,h1⟩:=h.base.kT ho
  rw [hd] at h1
  cases h1
 ·obtain ⟨cur,cap',_,h1,_⟩:=h.gro.blk id D ob ⟨ob,cap,hob,h4,hG,hne⟩ hob
  rw [hd] at h1
  cases h1
 ·obtain ⟨h1,hf⟩:=(h.gro.lop id ob r t hob h4 hr).1
  rw [hd] at h1
  cases h1
  cases hf
theorem Marks.grow {m:Nat} {w w':World} {E E':Env} {H H':ze} {ds:List Deferred} (h:Marks m w ds) (hh:zH w E H) (g:Grow w E H w' E' H'):Marks m w' ds:=
 Marks.mono g.size h fun D _ hD=>g.frame D (Array.getElem?_eq_some_iff.1 hD).1 (hh.free hD)
theorem zH.cells {w w':World} {E:Env} {H:ze} (hk:∀ (k:Nat) (o:Obj),w.heap[k]?= some o->(∀ ds,o≠.deferred ds)->w'.heap[k]?= w.heap[k]?) (h:zH w E H):zH w' E H where
 base:={
  n:=h.base.n
  blk:=fun id ob hops sz rows e1 e2=>
   let b:=h.base.blk id ob hops sz rows e1 e2
   ⟨b.len,b.row,let ⟨cur,e,h1,h2⟩:=b.blk;⟨cur,e,(hk _ _ h1 (by simp)).trans h1,h2⟩⟩
  inj:=h.base.inj
  zG:=fun b o u hu=>by
   obtain ⟨h1,h2⟩:=h.base.zG b o u hu
   refine ⟨?_,h2⟩
   unfold World.cell? at h1 ⊢
   split at h1
   ·rename_i c t z hc
    rw [hk _ _ hc (by simp),hc]
    exact h1
   ·cases h1
  sep:=h.base.sep
  ty:=fun id ob e1 e2=>let ⟨cur,h1⟩:=h.base.ty id ob e1 e2;⟨cur,(hk _ _ h1 (by simp)).trans h1⟩
  fz:=h.base.fz }
 gro:={
  val:=h.gro.val
  blk:=fun id b ob e1 e2=>let ⟨cur,cap,h1,h2,h3⟩:=h.gro.blk id b ob e1 e2;⟨cur,cap,h1,(hk _ _ h2 (by simp)).trans h2,h3⟩
  sep:=h.gro.sep
  inj:=h.gro.inj
  st:=h.gro.st
  top:=h.gro.top
  lop:=fun id ob r t e1 e2 e3=>let h1:=h.gro.lop id ob r t e1 e2 e3;⟨⟨(hk _ _ h1.1.1 (by intro ds e;have:=h1.1.2;rw [e] at this;cases this)).trans h1.1.1,h1.1.2⟩,h1.2⟩
  yg:=h.gro.yg }
structure qY (B m:Nat) (w:World) (E:Env) (s:S) (a:Act):Prop where
 heap:zH w E s.H
 tmps:LL E s.tmps a.tmps.toList
 defers:Marks m w a.defers
 base:B<=s.H.length
structure Env.leB (B:Nat) (E E':Env):Prop where
 β:∀ id hops,id < B->E'.β id hops=E.β id hops
 κ:∀ id hops,id < B->E'.κ id hops=E.κ id hops
 St:∀ b o u,E.St b o=some u->E'.St b o=some u
 G:∀ id k u,id < B->E.G id k=some u->E'.G id k=some u
theorem Env.leB.refl (B:Nat) (E:Env):E.leB B E:=⟨fun _ _ _=>rfl,fun _ _ _=>rfl,fun _ _ _ h=>h,fun _ _ _ _ h=>h⟩
theorem Env.leB.trans {B:Nat} {E E' E'':Env} (h:E.leB B E') (h':E'.leB B E''):E.leB B E'':=
 ⟨fun id hops hi=>(h'.β id hops hi).trans (h.β id hops hi),fun id hops hi=>(h'.κ id hops hi).trans (h.κ id hops hi),fun b o u hu=>h'.St b o u (h.St b o u hu),fun id k u hi hu=>h'.G id k u hi (h.G id k u hi hu)⟩
theorem Env.le.toB {B:Nat} {E E':Env} (h:E.le E') (hB:B<=E.n):E.leB B E':=
 ⟨fun id hops hi=>h.β id hops (Nat.lt_of_lt_of_le hi hB),fun id hops hi=>h.κ id hops (Nat.lt_of_lt_of_le hi hB),h.St,fun id k u hi=>h.G id k u (Nat.lt_of_lt_of_le hi hB)⟩
structure qi (B:Nat) (w:World) (E:Env) (H:ze) (w':World) (E':Env) (H':ze):Prop where
 le:E.leB B E'
 os:w'.os=w.os
 tape:w'.tape=w.tape
 output:w'.output=w.output
 size:w.heap.size<=w'.heap.size
 frame:∀ k,k < w.heap.size->¬qz E H k->w'.heap[k]?= w.heap[k]?
 qs:∀ b o u,E'.St b o=some u->E.St b o=some u∨w.heap.size<=b∨qz E H b
 own:∀ b,qz E' H' b->w.heap.size<=b∨qz E H b
theorem Grow.toB {B:Nat} {w w':World} {E E':Env} {H H':ze} (g:Grow w E H w' E' H') (hB:B<=E.n):qi B w E H w' E' H':=
 ⟨g.le.toB hB,g.os,g.tape,g.output,g.size,g.frame,g.qs,g.own⟩
theorem qi.refl (B:Nat) (w:World) (E:Env) (H:ze):qi B w E H w E H:=
 ⟨Env.leB.refl B E,rfl,rfl,rfl,Nat.le_refl _,fun _ _ _=>rfl,fun _ _ _ h=>.inl h,fun _ h=>.inr h⟩
theorem qi.trans {B:Nat} {w w1 w2:World} {E E1 E2:Env} {H H1 H2:ze} (g:qi B w E H w1 E1 H1) (h:qi B w1 E1 H1 w2 E2 H2):qi B w E H w2 E2 H2 where
 le:=g.le.trans h.le
 os:=h.os.trans g.os
 tape:=h.tape.trans g.tape
 output:=h.output.trans g.output
 size:=Nat.le_trans g.size h.size
 frame k hk ho:=(h.frame k (Nat.lt_of_lt_of_le hk g.size) fun hc=>(g.own k hc).elim (fun hs=>by omega) ho).trans (g.frame k hk ho)
 qs b o u hu:=by
  rcases h.qs b o u hu with h1 | h1 | h1
  ·exact g.qs b o u h1
  ·exact .inr (.inl (Nat.le_trans g.size h1))
  ·rcases g.own b h1 with h2 | h2
   ·exact .inr (.inl h2)
   ·exact .inr (.inr h2)
 own b hb:=by
  rcases h.own b hb with h1 | h1
  ·exact .inl (Nat.le_trans g.size h1)
  ·exact g.own b h1
def fw (q:Option Nat):Fence:={ Fence.wide with round:=q }
def qO:Code->Bool
 | .seq a b=>qO a || qO b
 | .cond _ a b=>qO a || qO b
 | .block _ a=>qO a
 | .loop a=>qO a
 | .scope a=>qO a
 | .rangeFunc ..=>true
 | _=>false
def z1 (P:Program) (B:Nat) (c:Code) (s:S) (R:Exit->S->Prop):Prop:=
 ∀ (q:Option Nat) (m:Nat) (w:World) (E:Env) (a:Act) (Q:Exit->Act->World->Prop),(qO c=true->q=none)->qY B m w E s a->
  (∀ ex s' w' E' a',R ex s'->qY B m w' E' s' a'->qi B w E s.H w' E' s'.H->Q ex a' w')->c.wpIn (fw q) 0 P Q a w
abbrev Run (P:Program) (B:Nat) (c:Code) (s:S) (ex:Exit) (s':S):Prop:=z1 P B c s fun e t=>e=ex∧t=s'
def vi (P:Program) (B:Nat) (c:Code) (n:Nat) (s:S) (R:Exit->S->Prop):Prop:=
 ∀ (q:Option Nat) (m:Nat) (w:World) (E:Env) (a:Act) (Q:Exit->Act->World->Prop),(qO c=true->q=none)->qY B m w E s a->
  (∀ ex s' w' E' a',R ex s'->qY B m w' E' s' a'->qi B w E s.H w' E' s'.H->Q ex a' w')->Code.roundsIn (fw q) 0 P c Q n a w
def xS (P:Program) (B:Nat) (ops:Array Oper) (l:List Oper) (s:S) (R:S->Prop):Prop:=
 ∀ (q:Option Nat) (m:Nat) (w:World) (E:Env) (a:Act) (Q:Exit->Act->World->Prop),qY B m w E s a->
  (∀ s' w' E' a',R s'->qY B m w' E' s' a'->qi B w E s.H w' E' s'.H->Q .normal a' w')->wpListIn (fw q) 0 P ops Q l a w
def kc (P:Program) (B:Nat) (o:Oper) (s:S) (R:S->Prop):Prop:=
 ∀ (q:Option Nat) (m:Nat) (w:World) (E:Env) (a:Act) (K:Act->World->Prop) (Q:Exit->Act->World->Prop),qY B m w E s a->
  (∀ s' w' E' a',R s'->qY B m w' E' s' a'->qi B w E s.H w' E' s'.H->K a' w')->o.wpIn (fw q) 0 P a w K Q
def zl (B:Nat) (s s':S):Prop:=
 ∀ (m:Nat) (w:World) (E:Env) (a:Act),qY B m w E s a->∃ E',qY B m w E' s' a∧qi B w E s.H w E' s'.H
theorem zaX {F:Fence} {k:Nat} {P:Program} {c:Code} {Q:Exit->Act->World->Prop}:∀ {n m:Nat},n<=m->∀ {a:Act} {w:World},Code.roundsIn F k P c Q n a w->Code.roundsIn F k P c Q m a w
 | 0,_,_,_,_,h=>(h:False).elim
 | n+1,0,hm,_,_,_=>absurd hm (Nat.not_succ_le_zero n)
 | n+1,m+1,hm,a,w,h=>by
  rw [roundsIn_succ] at h ⊢
  refine wpIn_mono h fun e a1 w1 h1=>?_
  cases e with
  | normal=>exact zaX (Nat.le_of_succ_le_succ hm) h1
  | _=>exact h1
section scopes
variable {F:Fence} {n:Nat} {P:Program} {b:Frame} {a:Act} {k:List Item} {cs:List Frame} {w:World} {Q:Exit->Act->World->Prop}
theorem q6 {c:Code}:step P (lone (b.atR a (.code (.scope c)::k)) cs w)=.next (lone (b.atR a (.code c:: .inScope c::k)) cs w):=
 step_lone_go (by simp [stepG,stepG.exec,Frame.atR])
theorem kk {c:Code}:step P (lone (b.atR a (.inScope c::k)) cs w)=.next (lone (b.atR a k) cs w):=
 step_lone_go (by simp [stepG,stepG.exec,Frame.atR])
theorem ka {c:Code} (h:c.wpIn F n P (Exit.noGoto Q) a w):(Code.scope c).wpIn F n P Q a w:=by
 intro b k cs hro hb hr
 have h0:(lone (b.atR a (.code (.scope c)::k)) cs w).fenced P F:=fenced_calm hb hr rfl
 obtain ⟨e,a₁,w₁,hq,harr⟩:=h b (.inScope c::k) cs hro hb hr
 cases e with
 | normal=>exact ⟨.normal,a₁,w₁,hq,.head h0 q6 (StepsIn.trans harr (.one (fenced_calm hb hr rfl) kk))⟩
 | exit id=>
  have hx:exitTo id (.inScope c::k)=exitTo id k:=by simp [exitTo]
  exact ⟨.exit id,a₁,w₁,hq,fun k' hk=>.head h0 q6 (harr.1 k' (by rw [hx];exact hk)),
   fun hr' hk=>let ⟨k₁,h1,h2⟩:=harr.2 hr' (by rw [hx];exact hk);⟨k₁,h1,.head h0 q6 h2⟩⟩
 | goto l=>exact hq.elim
 | ret=>exact ⟨_,a₁,w₁,hq,.of_steps (.one h0 q6) harr⟩
 | panic ch=>exact ⟨_,a₁,w₁,hq,.of_steps (.one h0 q6) harr⟩
 | outgrown=>exact ⟨_,a₁,w₁,hq,.of_steps (.one h0 q6) harr⟩
inductive kJ (F:Fence) (n:Nat) (P:Program) (c:Code) (Q:Exit->Act->World->Prop):Nat->Act->World->Prop
 | mk {l:Nat} {a:Act} {w:World} {rest:Code} (Q':Exit->Act->World->Prop):findLabel c l=some rest->rest.wpIn F n P Q' a w->(∀ e a w,Q' e a w->(∀ l,e≠.goto l)->Q e a w)->
   (∀ l a w,Q' (.goto l) a w->kJ F n P c Q l a w)->kJ F n P c Q l a w
theorem ke {c:Code} {m:Machine} {e:Exit} (hb:F.fn b.fn) (hr:F.room (cs.length+1+n)) (he:∀ l,e≠.goto l) (h:ArrivesIn (Machine.fenced P F) P m b (.inScope c::k) cs e a w):ArrivesIn (Machine.fenced P F) P m b k cs e a w:=by
 cases e with
 | normal=>exact StepsIn.trans h (.one (fenced_calm hb hr rfl) kk)
 | exit id=>
  have hx:exitTo id (.inScope c::k)=exitTo id k:=by simp [exitTo]
  exact ⟨fun k' hk=>h.1 k' (by rw [hx];exact hk),fun hr' hk=>h.2 hr' (by rw [hx];exact hk)⟩
 | goto l=>exact absurd rfl (he l)
 | ret=>exact h
 | panic ch=>exact h
 | outgrown=>exact h
theorem zaw {c:Code} {Q':Exit->Act->World->Prop} (h:c.wpIn F n P Q' a w) (hQ:∀ e a w,Q' e a w->(∀ l,e≠.goto l)->Q e a w) (hJ:∀ l a w,Q' (.goto l) a w->kJ F n P c Q l a w):(Code.scope c).wpIn F n P Q a w:=by
 intro b k cs hro hb hr
 have h0:(lone (b.atR a (.code (.scope c)::k)) cs w).fenced P F:=fenced_calm hb hr rfl
 have key:∀ l a w,kJ F n P c Q l a w->∀ rest,findLabel c l=some rest->∃ e a' w',Q e a' w'∧ArrivesIn (Machine.fenced P F) P (lone (b.atR a (.code rest:: .inScope c::k)) cs w) b k cs e a' w':=by
  intro l a w hj
  induction hj with
  | mk Q1 hf h1 h2 h3 ih=>
   intro rest hf'
   rw [hf] at hf'
   cases hf'
   obtain ⟨e,a₁,w₁,hq,harr⟩:=h1 b (.inScope c::k) cs hro hb hr
   by_cases he:∀ l,e≠.goto l
   ·exact ⟨e,a₁,w₁,h2 _ _ _ hq he,ke hb hr he harr⟩
   ·obtain ⟨l',rfl⟩:∃ l',e=.goto l':=by
     cases e with
     | goto l'=>exact ⟨l',rfl⟩
     | _=>exact absurd (by simp) he
    have hj:=h3 _ _ _ hq
    cases hj with
    | mk Q2 hf2 _ _ _=>
     obtain ⟨e₂,a₂,w₂,hq₂,harr₂⟩:=ih _ _ _ hq _ hf2
     exact ⟨e₂,a₂,w₂,hq₂,.of_steps (harr.1 _ (by simp [gotoIn,hf2])) harr₂⟩
 obtain ⟨e,a₁,w₁,hq,harr⟩:=h b (.inScope c::k) cs hro hb hr
 by_cases he:∀ l,e≠.goto l
 ·exact ⟨e,a₁,w₁,hQ _ _ _ hq he,.of_steps (.one h0 q6) (ke hb hr he harr)⟩
 ·obtain ⟨l',rfl⟩:∃ l',e=.goto l':=by
   cases e with
   | goto l'=>exact ⟨l',rfl⟩
   | _=>exact absurd (by simp) he
  have hj:=hJ _ _ _ hq
  have hj':=hj
  cases hj' with
  | mk Q2 hf2 _ _ _=>
   obtain ⟨e₂,a₂,w₂,hq₂,harr₂⟩:=key _ _ _ hj _ hf2
   exact ⟨e₂,a₂,w₂,hq₂,.of_steps (.head h0 q6 (harr.1 _ (by simp [gotoIn,hf2]))) harr₂⟩
end scopes
section
variable {P:Program} {B:Nat} {s s1 s2 s':S} {ex:Exit}
theorem zl.refl (s:S):zl B s s:=fun m w E a h=>⟨E,h,qi.refl B w E s.H⟩
theorem zl.trans (h:zl B s s1) (h':zl B s1 s2):zl B s s2:=fun m w E a hs=>by
 obtain ⟨E1,h1,g1⟩:=h m w E a hs
 obtain ⟨E2,h2,g2⟩:=h' m w E1 a h1
 exact ⟨E2,h2,g1.trans g2⟩
variable {R R':Exit->S->Prop}
theorem z1.pre {c:Code} (hw:zl B s s1) (h:z1 P B c s1 R):z1 P B c s R:=fun q m w E a Q hr hs hq=>by
 obtain ⟨E1,h1,g1⟩:=hw m w E a hs
 exact h q m w E1 a Q hr h1 fun ex s' w' E' a' hR h2 g2=>hq ex s' w' E' a' hR h2 (g1.trans g2)
theorem z1.post {c:Code} (h:z1 P B c s R') (hw:∀ ex s1,R' ex s1->∃ s2,zl B s1 s2∧R ex s2):z1 P B c s R:=fun q m w E a Q hr hs hq=>
 h q m w E a Q hr hs fun ex s1 w' E' a' hR h1 g1=>by
  obtain ⟨s2,hw2,hR2⟩:=hw ex s1 hR
  obtain ⟨E2,h2,g2⟩:=hw2 m w' E' a' h1
  exact hq ex s2 w' E2 a' hR2 h2 (g1.trans g2)
theorem z1.mono {c:Code} (h:z1 P B c s R') (hw:∀ ex s1,R' ex s1->R ex s1):z1 P B c s R:=h.post fun ex s1 hR=>⟨s1,.refl s1,hw ex s1 hR⟩
theorem vi.pre {c:Code} {n:Nat} (hw:zl B s s1) (h:vi P B c n s1 R):vi P B c n s R:=fun q m w E a Q hr hs hq=>by
 obtain ⟨E1,h1,g1⟩:=hw m w E a hs
 exact h q m w E1 a Q hr h1 fun ex s' w' E' a' hR h2 g2=>hq ex s' w' E' a' hR h2 (g1.trans g2)
theorem z1.skip (h:R .normal s):z1 P B .skip s R:=fun q m w E a Q hr hs hq=>wpIn_skip (hq _ _ w E a h hs (qi.refl B w E s.H))
theorem z1.exit (id:Nat) (h:R (.exit id) s):z1 P B (.exit id) s R:=fun q m w E a Q hr hs hq=>wpIn_exit (hq _ _ w E a h hs (qi.refl B w E s.H))
theorem z1.label (l:Nat) (h:R .normal s):z1 P B (.label l) s R:=fun q m w E a Q hr hs hq=>wpIn_label (hq _ _ w E a h hs (qi.refl B w E s.H))
theorem z1.ret (h:R .ret s):z1 P B .ret s R:=fun q m w E a Q hr hs hq=>wpIn_ret (hq _ _ w E a h hs (qi.refl B w E s.H))
def zmF (next:S->Prop) (R:Exit->S->Prop):Exit->S->Prop
 | .normal,s=>next s
 | ex,s=>R ex s
theorem z1.seq {x y:Code} (h:z1 P B x s (zmF (fun s1=>z1 P B y s1 R) R)):z1 P B (.seq x y) s R:=fun q m w E a Q hr hs hq=>
 wpIn_seq (h q m w E a _ (fun e=>hr (by simp [qO,e])) hs fun ex s1 w1 E1 a1 hR h1 g1=>by
  cases ex with
  | normal=>exact (hR:z1 P B y s1 R) q m w1 E1 a1 Q (fun e=>hr (by simp [qO,e])) h1 fun ex s2 w2 E2 a2 hR2 h2 g2=>hq ex s2 w2 E2 a2 hR2 h2 (g1.trans g2)
  | _=>exact hq _ s1 w1 E1 a1 hR h1 g1)
def ziQ (id:Nat) (R:Exit->S->Prop):Exit->S->Prop
 | .exit id',s=>if id'=id then R .normal s else R (.exit id') s
 | ex,s=>R ex s
theorem z1.block {id:Nat} {c:Code} (h:z1 P B c s (ziQ id R)):z1 P B (.block id c) s R:=fun q m w E a Q hr hs hq=>
 wpIn_block (h q m w E a _ hr hs fun ex s1 w1 E1 a1 hR h1 g1=>by
  cases ex with
  | exit id'=>
   simp only [Exit.inBlock,ziQ] at *
   split
   ·rename_i hi;rw [if_pos hi] at hR;exact hq _ s1 w1 E1 a1 hR h1 g1
   ·rename_i hi;rw [if_neg hi] at hR;exact hq _ s1 w1 E1 a1 hR h1 g1
  | _=>exact hq _ s1 w1 E1 a1 hR h1 g1)
def zlO (R:Exit->S->Prop):Exit->S->Prop
 | .goto _,_=>False
 | ex,s=>R ex s
theorem z1.scope {c:Code} (h:z1 P B c s (zlO R)):z1 P B (.scope c) s R:=fun q m w E a Q hr hs hq=>
 ka (h q m w E a _ hr hs fun ex s1 w1 E1 a1 hR h1 g1=>by
  cases ex with
  | goto l=>exact (hR:False).elim
  | _=>exact hq _ s1 w1 E1 a1 hR h1 g1)
theorem z1.goto (l:Nat) (h:R (.goto l) s):z1 P B (.goto l) s R:=fun q m w E a Q hr hs hq=>wpIn_goto (hq _ _ w E a h hs (qi.refl B w E s.H))
theorem zaa:∀ {c:Code} {l:Nat} {rest:Code},findLabel c l=some rest->qO rest=true->qO c=true:=by
 intro c
 induction c with
 | seq x y ihx ihy=>
  intro l rest h hr
  simp only [findLabel] at h
  split at h
  ·rename_i r hx
   cases h
   simp only [qO,Bool.or_eq_true] at hr ⊢
   exact hr.imp (ihx hx) id
  ·simp only [qO,Bool.or_eq_true]
   exact .inr (ihy h hr)
 | label l'=>
  intro l rest h hr
  simp only [findLabel] at h
  split at h
  ·cases h;cases hr
  ·cases h
 | _=>intro l rest h;simp [findLabel] at h
inductive zbu (P:Program) (B:Nat) (c:Code) (R:Exit->S->Prop):Nat->S->Prop
 | mk {l:Nat} {s:S} {rest:Code} (R':Exit->S->Prop):findLabel c l=some rest->z1 P B rest s R'->(∀ e s,R' e s->(∀ l,e≠.goto l)->R e s)->(∀ l s,R' (.goto l) s->zbu P B c R l s)->zbu P B c R l s
theorem zbu.zm4 {c:Code} {l:Nat} (h:zbu P B c R l s):∀ (q:Option Nat) (m:Nat) (w:World) (E:Env) (a:Act) (Q:Exit->Act->World->Prop),(qO c=true->q=none)->qY B m w E s a->
  (∀ ex s' w' E' a',R ex s'->qY B m w' E' s' a'->qi B w E s.H w' E' s'.H->Q ex a' w')->kJ (fw q) 0 P c Q l a w:=by
 induction h with
 | @mk l s rest R1 hf h1 h2 h3 ih=>
  intro q m w E a Q hr hs hq
  refine .mk (fun e a' w'=>∃ s' E',R1 e s'∧qY B m w' E' s' a'∧qi B w E s.H w' E' s'.H) hf (h1 q m w E a _ (fun e=>hr (zaa hf e)) hs fun ex s' w' E' a' hR h g=>⟨s',E',hR,h,g⟩)
   (fun e a' w' ⟨s',E',hR,h,g⟩ he=>hq _ _ _ _ _ (h2 _ _ hR he) h g) (fun l' a' w' ⟨s',E',hR,h,g⟩=>?_)
  exact ih _ _ hR q m w' E' a' Q hr h fun ex s2 w2 E2 a2 hR2 hs2 g2=>hq ex s2 w2 E2 a2 hR2 hs2 (g.trans g2)
def zk4 (P:Program) (B:Nat) (c:Code) (R:Exit->S->Prop):Exit->S->Prop
 | .goto l,s=>zbu P B c R l s
 | ex,s=>R ex s
theorem z1.zlM {c:Code} (h:z1 P B c s (zk4 P B c R)):z1 P B (.scope c) s R:=fun q m w E a Q hr hs hq=>
 zaw (Q':=fun e a' w'=>∃ s' E',zk4 P B c R e s'∧qY B m w' E' s' a'∧qi B w E s.H w' E' s'.H) (h q m w E a _ hr hs fun ex s' w' E' a' hR h g=>⟨s',E',hR,h,g⟩)
  (fun e a' w' ⟨s',E',hR,h,g⟩ he=>by
   cases e with
   | goto l=>exact absurd rfl (he l)
   | _=>exact hq _ _ _ _ _ hR h g)
  (fun l a' w' ⟨s',E',hR,h,g⟩=>zbu.zm4 hR q m w' E' a' Q hr h fun ex s2 w2 E2 a2 hR2 hs2 g2=>hq ex s2 w2 E2 a2 hR2 hs2 (g.trans g2))
theorem vi.step {c:Code} {n:Nat} (h:z1 P B c s (zmF (fun s1=>vi P B c n s1 R) R)):vi P B c (n+1) s R:=fun q m w E a Q hr hs hq=>by
 rw [roundsIn_succ]
 exact h q m w E a _ hr hs fun ex s1 w1 E1 a1 hR h1 g1=>by
  cases ex with
  | normal=>exact (hR:vi P B c n s1 R) q m w1 E1 a1 Q hr h1 fun ex s2 w2 E2 a2 hR2 h2 g2=>hq ex s2 w2 E2 a2 hR2 h2 (g1.trans g2)
  | _=>exact hq _ s1 w1 E1 a1 hR h1 g1
theorem vi.more {c:Code} {n m:Nat} (hm:n<=m) {s:S} (h:vi P B c n s R):vi P B c m s R:=fun q k w E a Q hr hs hq=>zaX hm (h q k w E a Q hr hs hq)
def zM (P:Program) (B:Nat) (c:Code) (s:S) (R:Exit->S->Prop):Prop:=∃ n,vi P B c n s R
theorem zM.pre {c:Code} (hw:zl B s s1) (h:zM P B c s1 R):zM P B c s R:=let ⟨n,hn⟩:=h;⟨n,.pre hw hn⟩
theorem z1.loop {c:Code} (h:zM P B c s R):z1 P B (.loop c) s R:=fun q m w E a Q hr hs hq=>let ⟨n,hn⟩:=h;wpIn_loop_rounds n (hn q m w E a Q hr hs hq)
def ofV:Value->C
 | .slice none 0 0=>.lst 1 0 []
 | .func (.func f) first caps=>if first.size=0∧caps.size=0 then .fn f [] [] else .za
 | .tuple vs=>if vs.size=0 then .un else .za
 | .agg _=>.za
 | x=>.v x
theorem zk7 (E:Env) (x:Value):L E (ofV x) x:=by
 unfold ofV
 split
 ·exact .qP _ _ (.inr rfl)
 ·rename_i f first caps
  split
  ·rename_i h
   obtain ⟨h1,h2⟩:=h
   obtain rfl:first= #[]:=Array.eq_empty_of_size_eq_zero h1
   obtain rfl:caps= #[]:=Array.eq_empty_of_size_eq_zero h2
   exact .fn f [] [] #[] #[] rfl rfl (by simp) (by simp)
  ·exact .za _
 ·rename_i vs
  split
  ·rename_i h
   obtain rfl:vs= #[]:=Array.eq_empty_of_size_eq_zero h
   exact .un
  ·exact .za _
 ·exact .za _
 ·rename_i h1 h2
  refine .v _ ?_
  cases x <;> simp_all [Value.oneCell']
def ev (tmps:List C):Operand->C
 | .tmp t=>(tmps[t]?).getD .za
 | .const v=>ofV v
 | .global g=>.v (.pointer (some ⟨g,0,none⟩))
 | .func f=>.fn f [] []
theorem zjb {E:Env} {tmps:List C} {a:Act} (h:LL E tmps a.tmps.toList) (x:Operand):L E (ev tmps x) (a.eval x):=by
 cases x with
 | tmp t=>
  simp only [ev,Act.eval]
  cases ht:tmps[t]? with
  | none=>exact .za _
  | some c=>
   obtain ⟨y,hy,hl⟩:=h.get ht
   have:a.tmps.getD t undef=y:=by
    rw [Array.getElem?_toList] at hy
    rw [Array.getD_eq_getD_getElem?,hy];rfl
   rw [this]
   exact hl
 | const v=>exact zk7 E v
 | global g=>exact .v _ rfl
 | func f=>exact .fn f [] [] #[] #[] rfl rfl (by simp) (by simp)
def wT (ops:Array Oper) (tmps:List C) (j:Nat):Option (Option Bool):=
 match (ops[j]?).bind (·.dst) with
 | none=>some none
 | some d=>match tmps[d]? with
  | none=>some none
  | some (.v (.bool b))=>some (some b)
  | some .un=>some none
  | _=>none
theorem zcO {E:Env} {ops:Array Oper} {tmps:List C} {a:Act} (h:LL E tmps a.tmps.toList) {j:Nat} {r:Option Bool} (hr:wT ops tmps j=some r):yielded ops a.tmps j=r:=by
 unfold wT at hr
 unfold yielded
 cases hd:(ops[j]?).bind (·.dst) with
 | none=>simp only [hd] at hr;cases hr;rfl
 | some d=>
  simp only [hd,Option.bind_some] at hr ⊢
  cases ht:tmps[d]? with
  | none=>
   simp only [ht] at hr
   cases hr
   have hn:a.tmps[d]?= none:=by
    rw [Array.getElem?_eq_none_iff]
    have:=List.getElem?_eq_none_iff.1 ht
    have h1:=h.1
    simp at h1
    omega
   rw [hn]
  | some c=>
   simp only [ht] at hr
   obtain ⟨y,hy,hl⟩:=h.get ht
   rw [Array.getElem?_toList] at hy
   rw [hy]
   split at hr
   ·rename_i e;cases e
   ·rename_i e;cases e;cases hr;cases hl;rfl
   ·rename_i e;cases e;cases hr;cases hl;rfl
   ·cases hr
def qk (ops:Array Oper) (tmps:List C) (o:Oper):Option Bool:=
 match o.guard with
 | none=>some true
 | some (j,want)=>match wT ops tmps j with
  | some (some b)=>some (b == want)
  | some none=>some false
  | none=>none
theorem qq {E:Env} {ops:Array Oper} {tmps:List C} {a:Act} (h:LL E tmps a.tmps.toList) {o:Oper} {b:Bool} (hb:qk ops tmps o=some b):
  Region.wanted o (yielded ops a.tmps)=b:=by
 unfold qk at hb
 unfold Region.wanted
 split at hb
 ·rename_i hg;simp only [hg];cases hb;rfl
 ·rename_i j want hg
  simp only [hg]
  split at hb
  ·rename_i x hx;rw [zcO h hx];cases hb;cases x <;> cases want <;> rfl
  ·rename_i hx;rw [zcO h hx];cases hb;rfl
  ·cases hb
def put (tmps:List C) (dst:Option Tmp) (c:C):List C:=
 match dst with
 | some d=>tmps.set d c
 | none=>tmps
theorem zee {E:Env} {tmps:List C} {a:Act} (h:LL E tmps a.tmps.toList) {c:C} {y:Value} (hl:L E c y) (dst:Option Tmp):LL E (put tmps dst c) (a.put dst y).tmps.toList:=by
 cases dst with
 | none=>exact h
 | some d=>simpa [put,Act.put] using h.set hl d
theorem qY.put {m:Nat} {w:World} {E:Env} {s:S} {a:Act} (h:qY B m w E s a) {c:C} {y:Value} (hl:L E c y) (dst:Option Tmp):
  qY B m w E ⟨Ab.put s.tmps dst c,s.H⟩ (a.put dst y):=
 ⟨h.heap,zee h.tmps hl dst,by cases dst <;> exact h.defers,h.base⟩
theorem xS.nil {ops:Array Oper} {R:S->Prop} (h:R s):xS P B ops [] s R:=fun q m w E a Q hs hq=>wpListIn_nil (hq s w E a h hs (qi.refl B w E s.H))
theorem xS.run {ops:Array Oper} {o:Oper} {l:List Oper} {R1 R:S->Prop} (hw:qk ops s.tmps o=some true) (h:kc P B o s R1) (h':∀ s1,R1 s1->xS P B ops l s1 R):xS P B ops (o::l) s R:=fun q m w E a Q hs hq=>by
 unfold wpListIn
 rw [if_pos (qq hs.tmps hw)]
 exact h q m w E a _ Q hs fun s1 w1 E1 a1 hR h1 g1=>h' s1 hR q m w1 E1 a1 Q h1 fun s2 w2 E2 a2 hR2 h2 g2=>hq s2 w2 E2 a2 hR2 h2 (g1.trans g2)
theorem xS.pass {ops:Array Oper} {o:Oper} {l:List Oper} {R:S->Prop} (hw:qk ops s.tmps o=some false) (h':xS P B ops l ⟨put s.tmps o.dst .un,s.H⟩ R):xS P B ops (o::l) s R:=fun q m w E a Q hs hq=>by
 unfold wpListIn
 rw [if_neg (by rw [qq hs.tmps hw];decide)]
 exact ⟨fun _ _=>trivial,h' q m w E _ Q (hs.put (.un) o.dst) hq⟩
theorem z1.region {id:Nat} {ops:Array Oper} {R:Exit->S->Prop} (h:xS P B ops ops.toList s (R .normal)):z1 P B (.region id ops false) s R:=fun q m w E a Q hs0 hs hq=>
 wpIn_region_list (h q m w E a Q hs fun s' w' E' a' hR h1 g1=>hq _ s' w' E' a' hR h1 g1)
theorem z1.cond {c:Operand} {x y:Code} {b:Bool} {R:Exit->S->Prop} (hc:ev s.tmps c=.v (.bool b)) (h:z1 P B (if b then x else y) s R):z1 P B (.cond c x y) s R:=fun q m w E a Q hr hs hq=>by
 have:=zjb hs.tmps c
 rw [hc] at this
 have hb:a.eval c=.bool b:=by generalize a.eval c=z at *;cases this;rfl
 exact wpIn_cond hb (h q m w E a Q (fun e=>hr (by cases b <;> simp_all [qO])) hs hq)
end
end Go.Ab
namespace Go.Ab
def upV (P:Program) (K:Value->World->Prop):Result Next->Prop
 | .ok (.value v) w=>K v w
 | .ok .skip w=>K undef w
 | .ok (.enter f args) w=>Calls P f args w fun e w'=>∃ v,e=.returned v∧K v w'
 | .ok (.round l f tmps assign body) w=>RoundIn (fw none) 0 P l f tmps assign body w fun e w'=>∃ v,e=.returned v∧K v w'
 | _=>False
def OpV (P:Program) (o:Oper) (ρ:Operand->C) (H:ze) (c:C) (H':ze):Prop:=
 ∀ (w:World) (E:Env) (σ:Operand->Value),zH w E H->(∀ x ∈ o.op.operands,L E (ρ x) (σ x))->
  ∀ K:Value->World->Prop,(∀ v w' E',zH w' E' H'->L E' c v->Grow w E H w' E' H'->K v w')->upV P K ((execOp σ o).run P w)
def zP (P:Program) (o:Oper) (ρ:Operand->C) (H:ze) (c:C) (H':ze):Prop:=
 ∀ (w:World) (E:Env) (σ:Operand->Value),zB w E H->(∀ x ∈ o.op.operands,L E (ρ x) (σ x))->
  ∀ K:Value->World->Prop,(∀ v w' E',zB w' E' H'->L E' c v->zL w E H w' E' H'->K v w')->upV P K ((execOp σ o).run P w)
def kL (P:Program) (o:Oper) (ρ:Operand->C) (H:ze) (c:C) (H':ze):Prop:=
 ∀ (w:World) (E:Env) (σ:Operand->Value),zH w E H->(∀ x ∈ o.op.operands,L E (ρ x) (σ x))->(∀ v,σ (.const v)=v)->
  ∀ K:Value->World->Prop,(∀ v w' E',zH w' E' H'->L E' c v->Grow w E H w' E' H'->K v w')->upV P K ((execOp σ o).run P w)
def qp (P:Program) (o:Oper) (ρ:Operand->C) (H:ze) (R:C->ze->Prop):Prop:=
 ∀ (w:World) (E:Env) (σ:Operand->Value),zH w E H->(∀ x ∈ o.op.operands,L E (ρ x) (σ x))->(∀ v,σ (.const v)=v)->
  ∀ K:Value->World->Prop,(∀ c H' v w' E',R c H'->zH w' E' H'->L E' c v->Grow w E H w' E' H'->K v w')->upV P K ((execOp σ o).run P w)
theorem kL.toR {P:Program} {o:Oper} {ρ:Operand->C} {H H':ze} {c:C} {R:C->ze->Prop} (h:kL P o ρ H c H') (hR:R c H'):qp P o ρ H R:=fun w E σ hh hl hc K hk=>h w E σ hh hl hc K fun v w' E'=>hk c H' v w' E' hR
theorem OpV.toR {P:Program} {o:Oper} {ρ:Operand->C} {H H':ze} {c:C} {R:C->ze->Prop} (h:OpV P o ρ H c H') (hR:R c H'):qp P o ρ H R:=fun w E σ hh hl _ K hk=>h w E σ hh hl K fun v w' E'=>hk c H' v w' E' hR
theorem kc.zbl {P:Program} {B:Nat} {o:Oper} {s:S} {R:C->ze->Prop} (h:qp P o (ev s.tmps) s.H R):kc P B o s (fun s'=>∃ c H',R c H'∧s'=⟨put s.tmps o.dst c,H'⟩):=fun q m w E a K Q hs hk=>by
 have:=h w E a.eval hs.heap (fun x _=>zjb hs.tmps x) (fun _=>rfl) (fun v w'=>K (a.put o.dst v) w') fun c H' v w' E' hR h1 h2 g=>
  hk _ w' E' _ ⟨c,H',hR,rfl⟩ ⟨h1,zee (hs.tmps.mono g.le) h2 o.dst,by have:=hs.defers.grow hs.heap g;cases o.dst <;> exact this,by have:=g.le.n;rw [hs.heap.n,h1.n] at this;exact Nat.le_trans hs.base this⟩ (g.toB (by rw [hs.heap.n];exact hs.base))
 have hnd:∀ d,o.op≠.defer d:=fun d hd=>by
  have h2:=this
  unfold execOp at h2
  simp only [hd,Sem.run_bind] at h2
  cases hr:(resolve a.eval d o.type).run P w with
  | ok x w1=>simp [hr,Result.andThen,upV] at h2
  | halt x w1=>simp [hr,Result.andThen,upV] at h2
 unfold Oper.wpIn
 refine ⟨fun _ _=>trivial,?_⟩
 rw [Oper.semAt_eq _ _ _ hnd]
 generalize (execOp a.eval o).run P w=r at this ⊢
 unfold upV at this
 split at this
 ·exact this
 ·exact this
 ·rw [Oper.uponIn_enter]
  refine ⟨fun h=>(by cases h),callsIn_wide.2 (Calls.mono this ?_)⟩
  rintro e w' ⟨v,rfl,hv⟩
  exact hv
 ·rw [Oper.uponIn_round]
  refine ⟨fun h=>(by cases h),RoundIn.mono (F:=fw q) this ?_⟩
  rintro e w' ⟨v,rfl,hv⟩
  exact hv
 ·exact this.elim
theorem kc.zd4 {P:Program} {B:Nat} {o:Oper} {s:S} {c:C} {H':ze} (h:OpV P o (ev s.tmps) s.H c H') (q:Option Nat) (m:Nat) (w:World) (E:Env) (a:Act) (K:Act->World->Prop) (Q:Exit->Act->World->Prop) (hs:qY B m w E s a)
  (hq:∀ w' E' a',qY B m w' E' ⟨put s.tmps o.dst c,H'⟩ a'->qi B w E s.H w' E' H'->K a' w'):o.wpIn (fw q) 0 P a w K Q:=
 kc.zbl (B:=B) (h.toR (R:=fun x X=>x=c∧X=H') ⟨rfl,rfl⟩) q m w E a K Q hs fun s' w' E' a' ⟨x,X,⟨e1,e2⟩,e3⟩ h1 g1=>by subst e1 e2 e3;exact hq w' E' a' h1 g1
theorem OpV.congr {P:Program} {o:Oper} {ρ ρ':Operand->C} {H H':ze} {c:C} (h:OpV P o ρ H c H') (he:∀ x ∈ o.op.operands,ρ' x=ρ x):OpV P o ρ' H c H':=
 fun w E σ hh hl K hk=>h w E σ hh (fun x hx=>he x hx ▸ hl x hx) K hk
theorem zP.congr {P:Program} {o:Oper} {ρ ρ':Operand->C} {H H':ze} {c:C} (h:zP P o ρ H c H') (he:∀ x ∈ o.op.operands,ρ' x=ρ x):zP P o ρ' H c H':=
 fun w E σ hh hl K hk=>h w E σ hh (fun x hx=>he x hx ▸ hl x hx) K hk
theorem OpV.of0 {P:Program} {o:Oper} {ρ:Operand->C} {H H':ze} {c:C} (h:zP P o ρ H c H') (hk:qj H H'):OpV P o ρ H c H':=fun w E σ hh hl K hK=>
 h w E σ hh.base hl K fun v w' E' h1 h2 g=>hK v w' E' ⟨h1,Gro.step hh g hk⟩ h2 (g.up hh hk)
theorem OpV.same {P:Program} {o:Oper} {ρ:Operand->C} {H:ze} {c:C} (h:zP P o ρ H c H):OpV P o ρ H c H:=.of0 h (qj.refl H)
theorem qj.push (H:ze) (ob:Ob) (hk:ob.kind≠4):qj H (H++[ob]):=fun id ob' h4=>by
 by_cases hlt:id < H.length
 ·rw [List.getElem?_append_left hlt]
 ·rw [List.getElem?_append_right (by omega),List.getElem?_eq_none (l:=H) (by omega)]
  constructor
  ·intro h
   cases hd:id - H.length with
   | zero=>rw [hd] at h;cases h;exact absurd h4 hk
   | succ n=>rw [hd] at h;simp at h
  ·intro h;cases h
theorem qj.modify (H:ze) (id:Nat) (f:Ob->Ob) (hf:∀ ob,H[id]?= some ob->ob.kind≠4∧(f ob).kind≠4):qj H (H.modify id f):=fun id' ob' h4=>by
 rw [List.getElem?_modify]
 by_cases he:id=id'
 ·subst he
  cases hx:H[id]? with
  | none=>simp
  | some ob=>
   obtain ⟨h1,h2⟩:=hf ob hx
   simp only [Option.map_eq_map,Option.map_some,if_true]
   constructor
   ·intro h;cases h;exact absurd h4 h2
   ·intro h;cases h;exact absurd h4 h1
 ·cases hx:H[id']? with
  | none=>simp
  | some ob=>simp [he]
theorem qj.trans {H H' H'':ze} (h:qj H H') (h':qj H' H''):qj H H'':=fun id ob h4=>(h' id ob h4).trans (h id ob h4)
def wA (P:Program) {α:Type}:Sem α->Option α
 | .pure a=>some a
 | .program k=>wA P (k P)
 | _=>none
theorem zjS {P:Program} {α:Type} (e:Sem α) {a:α} (h:wA P e=some a) (w:World):e.run P w=.ok a w:=by
 induction e with
 | pure a'=>simp only [wA,Option.some.injEq] at h;subst h;rfl
 | program k ih=>simp only [wA] at h;exact ih P h
 | _=>simp [wA] at h
def zcL:C->Value
 | .v x=>x
 | _=>undef
def isV:C->Bool
 | .v _=>true
 | _=>false
def qU (o:Oper):Bool:=match o.op with | .select ..=>false | _=>true
theorem zP.scalar {P:Program} {o:Oper} {ρ:Operand->C} {H:ze} {v:Value} (hs:qU o=true) (hv:o.op.operands.all (fun x=>isV (ρ x))=true)
  (hr:wA P (execOp (fun x=>zcL (ρ x)) o)=some (.value v)) (h1:v.oneCell'=true):zP P o ρ H (.v v) H:=fun w E σ hh hl K hk=>by
 have he:execOp σ o=execOp (fun x=>zcL (ρ x)) o:=execOp_congr o (fun cs b hc=>by simp [qU,hc] at hs) fun x hx=>by
  have h1:isV (ρ x)=true:=by
   have:=Array.all_eq_true_iff_forall_mem.1 hv x hx
   simpa using this
  have h2:=hl x hx
  cases hc:ρ x with
  | v y=>rw [hc] at h2;cases h2;rfl
  | _=>rw [hc] at h1;cases h1
 rw [he,zjS _ hr w]
 exact hk v w E hh (.v v h1) (zL.refl w E H)
theorem zbB {w:World} {o:Obj} {b off:Nat} (h:b < w.heap.size):(w.alloc o).cell? ⟨b,off,none⟩=w.cell? ⟨b,off,none⟩:=
 World.cell?_alloc_lt _ _ _ h
theorem vM {w:World} {b off:Nat} {u:Value} (h:w.cell? ⟨b,off,none⟩=some u):b < w.heap.size:=World.block_lt_of_cell? w _ h
def Env.push (E:Env) (g κ:Nat):Env:=
 { n:=E.n+1,β:=fun id hops=>if id=E.n then g else E.β id hops,κ:=fun id hops=>if id=E.n then κ else E.κ id hops,St:=E.St,G:=E.G }
theorem Env.zed (E:Env) (g κ:Nat):E.le (E.push g κ):=
 ⟨Nat.le_succ _,fun id hops h=>by simp [Env.push,Nat.ne_of_lt h],fun id hops h=>by simp [Env.push,Nat.ne_of_lt h],fun b o u h=>h,fun _ _ _ _ h=>h⟩
def zw:C->Bool
 | .lst 2 _ _=>false
 | _=>true
theorem zV.loose {E:Env} {kd id:Nat} {hops:List Hop} {i k:Nat} {c:C} {u:Value} (hn:zw c=true):zV E kd id hops i k c u↔L (E.at kd) c u∧u.oneCell'=true:=by
 unfold zV
 split
 ·simp [zw] at hn
 ·rfl
theorem zV.mono {E E':Env} (h:E.le E') {kd id:Nat} (hid:id < E.n) {hops:List Hop} {i k:Nat} {c:C} {u:Value} (hc:zV E kd id hops i k c u):zV E' kd id hops i k c u:=by
 unfold zV at *
 split at hc
 ·rw [h.β id _ hid,h.κ id _ hid];exact hc
 ·exact ⟨hc.1.mono (h.at kd),hc.2⟩
theorem yU {H:ze} {id:Nat} {hops:List Hop} {x:Nat × List (List C)} (h:zy H id hops=some x):id < H.length:=by
 unfold zy at h
 split at h
 ·rename_i ob ho;exact (List.getElem?_eq_some_iff.1 ho).1
 ·cases h
theorem z6 {H:ze} {id:Nat} {hops:List Hop} {x:Nat × List (List C)} (h:zy H id hops=some x):∃ ob,H[id]?= some ob∧(ob.kind=1∨ob.kind=2)∧xb ob.sz ob.rows hops=some x:=by
 unfold zy at h
 split at h
 ·rename_i ob ho
  split at h
  ·rename_i hk;exact ⟨ob,ho,hk,h⟩
  ·cases h
 ·cases h
theorem zB.lt {w:World} {E:Env} {H:ze} (h:zB w E H) {id:Nat} {hops:List Hop} {x:Nat × List (List C)} (hx:zy H id hops=some x):E.β id hops < w.heap.size:=by
 obtain ⟨ob,ho,_,_⟩:=z6 hx
 obtain ⟨cur,e,hg,_⟩:=(h.blk id ob hops x.1 x.2 ho (by simpa using hx)).blk
 exact (Array.getElem?_eq_some_iff.1 hg).1
theorem xu {H:ze} {id:Nat} {hops:List Hop} (h:id < H.length) (X:ze):zy (H++X) id hops=zy H id hops:=by
 unfold zy
 rw [List.getElem?_append_left h]
theorem zcN.zdT {w:World} {E:Env} {kd id:Nat} {hops:List Hop} {sz:Nat} {rows:List (List C)} (h:zcN w E kd id hops sz rows):E.β id hops < w.heap.size:=by
 obtain ⟨cur,e,hg,_⟩:=h.blk
 exact (Array.getElem?_eq_some_iff.1 hg).1
theorem zcN.step {w w':World} {E E':Env} (hle:E.le E') {kd id:Nat} (hid:id < E.n) {hops:List Hop} {sz:Nat} {rows:List (List C)} (h:zcN w E kd id hops sz rows)
  (hh:w'.heap[E.β id hops]?= w.heap[E.β id hops]?):zcN w' E' kd id hops sz rows:=by
 obtain ⟨cur,e,hg,hsz,hc⟩:=h.blk
 refine ⟨by rw [hle.κ id hops hid];exact h.len,h.row,cur,e,by rw [hle.β id hops hid,hh];exact hg,by rw [hle.κ id hops hid];exact hsz,?_⟩
 intro i k c hcc
 obtain ⟨u,hu,ho⟩:=hc i k c hcc
 exact ⟨u,hu,ho.mono hle hid⟩
theorem xN {sz:Nat} {rows:List (List C)} (hn:∀ i k c,cellAt rows i k=some c->zw c=true) {hops:List Hop} {x:Nat × List (List C)} (h:xb sz rows hops=some x):hops=[]∧x=(sz,rows):=by
 cases hops with
 | nil=>simp [xb] at h;exact ⟨rfl,h.symm⟩
 | cons hd tl=>
  obtain ⟨i,k⟩:=hd
  simp only [xb] at h
  split at h
  ·rename_i h1;have:=hn _ _ _ h1;simp [zw] at this
  ·cases h
theorem zB.push {w:World} {E:Env} {H:ze} (h:zB w E H) (kind:Nat) (ty:TypeId) (sz κ:Nat) (rows:List (List C)) (cur:Array Value) (hk:kind=1∨kind=2) (hrow:∀ r ∈ rows,r.length=sz)
  (hlen:rows.length<=κ) (hcur:cur.size=κ * sz) (hn:∀ i k c,cellAt rows i k=some c->zw c=true)
  (hc:∀ i k c,cellAt rows i k=some c->∃ u,cur[i * sz+k]?= some u∧L (E.at kind) c u∧u.oneCell'=true):
  zB (w.alloc (.cells cur ty)) (E.push w.heap.size κ) (H++[⟨kind,ty,sz,rows,0⟩])∧zL w E H (w.alloc (.cells cur ty)) (E.push w.heap.size κ) (H++[⟨kind,ty,sz,rows,0⟩]):=by
 have hle:=E.zed w.heap.size κ
 have get:∀ id hops x,zy (H++[⟨kind,ty,sz,rows,0⟩]) id hops=some x->(id < H.length∧zy H id hops=some x)∨(id=H.length∧hops=[]∧x=(sz,rows)):=by
  intro id hops x hx
  by_cases hlt:id < H.length
  ·exact .inl ⟨hlt,by rw [xu hlt] at hx;exact hx⟩
  ·have h1:=yU hx
   simp at h1
   have:id=H.length:=by omega
   subst this
   simp only [zy,List.getElem?_append_right (Nat.le_refl _),Nat.sub_self,List.getElem?_cons_zero] at hx
   rw [if_pos hk] at hx
   obtain ⟨e1,e2⟩:=xN hn hx
   exact .inr ⟨rfl,e1,e2⟩
 have hnew:∀ hops,(E.push w.heap.size κ).β H.length hops=w.heap.size:=fun hops=>by simp [Env.push,h.n]
 have hold:∀ id hops,id < H.length->(E.push w.heap.size κ).β id hops=E.β id hops:=fun id hops hlt=>hle.β id hops (by rw [h.n];exact hlt)
 refine ⟨⟨by simp [Env.push,h.n],?_,?_,?_,?_,?_,?_⟩,⟨hle,fun _ _ _=>rfl,rfl,rfl,rfl,by show _<=(w.heap.push _).size;simp,?_,?_,?_⟩⟩
 ·intro id ob hops sz' rows' hob hx
  rcases get id hops _ hx with ⟨hlt,hx'⟩ | ⟨rfl,rfl,hx'⟩
  ·rw [List.getElem?_append_left hlt] at hob
   have hb:=h.blk id ob hops sz' rows' hob hx'
   exact hb.step hle (by rw [h.n];exact hlt) (heap_alloc_old w _ hb.zdT)
  ·cases hx'
   simp at hob
   subst hob
   refine ⟨by simp [Env.push,h.n,hlen],hrow,cur,ty,by rw [hnew];exact heap_alloc_new w _,by simp [Env.push,h.n,hcur],?_⟩
   intro i k c hcc
   obtain ⟨u,hu,hl,ho⟩:=hc i k c hcc
   exact ⟨u,hu,(zV.loose (hn i k c hcc)).2 ⟨hl.mono (hle.at kind),ho⟩⟩
 ·intro id hops id' hops' x y hx hy he
  rcases get id hops _ hx with ⟨hlt,hx'⟩ | ⟨rfl,rfl,hx'⟩ <;> rcases get id' hops' _ hy with ⟨hlt',hy'⟩ | ⟨rfl,rfl,hy'⟩
  ·rw [hold id hops hlt,hold id' hops' hlt'] at he
   exact h.inj id hops id' hops' x y hx' hy' he
  ·rw [hold id hops hlt,hnew] at he
   have:=h.lt hx'
   omega
  ·rw [hold id' hops' hlt',hnew] at he
   have:=h.lt hy'
   omega
  ·exact ⟨rfl,rfl⟩
 ·intro b o u hu
  have hs:=h.zG b o u hu
  rw [zbB (vM hs.1)]
  exact hs
 ·intro id hops x o u hx hu
  rcases get id hops _ hx with ⟨hlt,hx'⟩ | ⟨rfl,rfl,hx'⟩
  ·rw [hold id hops hlt] at hu
   obtain ⟨e1,ob,e2,e3⟩:=h.sep id hops x o u hx' hu
   exact ⟨e1,ob,by rw [List.getElem?_append_left hlt];exact e2,e3⟩
  ·rw [hnew] at hu
   have:=vM (h.zG _ _ _ hu).1
   omega
 ·intro id ob hob hkd
  by_cases hlt:id < H.length
  ·rw [List.getElem?_append_left hlt] at hob
   obtain ⟨cur',hc'⟩:=h.ty id ob hob hkd
   refine ⟨cur',?_⟩
   rw [hold id [] hlt,heap_alloc_old w _ (Array.getElem?_eq_some_iff.1 hc').1]
   exact hc'
  ·have h1:=(List.getElem?_eq_some_iff.1 hob).1
   simp at h1
   have:id=H.length:=by omega
   subst this
   simp at hob
   subst hob
   exact ⟨cur,by rw [hnew];exact heap_alloc_new w _⟩
 ·intro id ob hob
  by_cases hlt:id < H.length
  ·rw [List.getElem?_append_left hlt] at hob
   exact h.fz id ob hob
  ·have h1:=(List.getElem?_eq_some_iff.1 hob).1
   simp at h1
   have:id=H.length:=by omega
   subst this
   simp at hob
   subst hob
   exact Nat.zero_le _
 ·intro k hk' ho
  exact heap_alloc_old w _ hk'
 ·intro b o u hu
  exact .inl hu
 ·rintro b ⟨id,hops,x,hx,rfl⟩
  rcases get id hops _ hx with ⟨hlt,hx'⟩ | ⟨rfl,rfl,hx'⟩
  ·exact .inr ⟨id,hops,x,hx',by rw [hold id hops hlt]⟩
  ·exact .inl (by rw [hnew];exact Nat.le_refl _)
end Go.Ab
namespace Go.Ab
section
variable {P:Program} {o:Oper} {ρ:Operand->C} {H:ze}
theorem qc {t:TypeId} {i:TypeInfo} (h:P.info? t=some i) (w:World):(sizeOf t).run P w=.ok i.size w:=by
 simp [sizeOf,typeInfo,h]
theorem qX {t:TypeId} {i:TypeInfo} {z:Value} (h:P.info? t=some i) (hz:i.zero=some z) (w:World):(zeroValue t).run P w=.ok z w:=by
 simp [zeroValue,typeInfo,h,hz]
theorem zP.move (x:Operand) (ho:o.op=.move x∨o.op=.assign x):zP P o ρ H (ρ x) H:=fun w E σ hh hl K hk=>by
 have h1:(execOp σ o).run P w=.ok (.value (σ x)) w:=by
  unfold execOp
  rcases ho with ho | ho <;> simp only [ho] <;> rfl
 rw [h1]
 exact hk _ w E hh (hl x (by rcases ho with ho | ho <;> simp [ho,Op.operands])) (zL.refl w E H)
theorem zP.pick (x y z:Operand) (ho:o.op=.pick x y z) (b:Bool) (hb:ρ x=.v (.bool b)):zP P o ρ H (if b then ρ y else ρ z) H:=fun w E σ hh hl K hk=>by
 have h0:=hl x (by simp [ho,Op.operands])
 rw [hb] at h0
 have hx:σ x=.bool b:=by generalize σ x=u at *;cases h0;rfl
 have h1:(execOp σ o).run P w=.ok (.value (if b then σ y else σ z)) w:=by
  unfold execOp
  simp only [ho,hx]
  cases b <;> rfl
 rw [h1]
 refine hk _ w E hh ?_ (zL.refl w E H)
 cases b
 ·exact hl z (by simp [ho,Op.operands])
 ·exact hl y (by simp [ho,Op.operands])
theorem jM {cs:List C} {i k:Nat} {c:C}:cellAt [cs] i k=some c↔i=0∧cs[k]?= some c:=by
 unfold cellAt
 cases i <;> simp
theorem zB.zhu {w:World} {E:Env} (h:zB w E H) (ty:TypeId) (cs:List C) (ys:Array Value) (hl:LL E cs ys.toList) (hn:cs.all zw=true) (h1:∀ y ∈ ys,y.oneCell'=true):
  zB (w.alloc (.cells ys ty)) (E.push w.heap.size 1) (H++[⟨1,ty,cs.length,[cs],0⟩])∧zL w E H (w.alloc (.cells ys ty)) (E.push w.heap.size 1) (H++[⟨1,ty,cs.length,[cs],0⟩]):=by
 refine h.push 1 ty cs.length 1 [cs] ys (.inl rfl) (by simp) (by simp) (by have:=hl.1;simp at this;omega) ?_ ?_
 ·intro i k c hc
  obtain ⟨_,hc⟩:=jM.1 hc
  exact List.all_eq_true.1 hn c (List.mem_of_getElem? hc)
 ·intro i k c hc
  obtain ⟨rfl,hc⟩:=jM.1 hc
  obtain ⟨y,hy,hly⟩:=hl.get hc
  refine ⟨y,by simpa using hy,by simpa [Env.at] using hly,h1 y ?_⟩
  have:=List.mem_of_getElem? hy
  simpa using this
def vb (P:Program) (t:TypeId):Option (List C):=
 match P.info? t with
 | some i=>match i.zero with
  | some z=>if z.cells.toList.all (·.oneCell') && (z.cells.size == i.size) then some (z.cells.toList.map ofV) else none
  | none=>none
 | none=>none
theorem ye {t:TypeId} {cs:List C} (h:vb P t=some cs) (E:Env):∃ i z,P.info? t=some i∧i.zero=some z∧LL E cs z.cells.toList∧(∀ y ∈ z.cells,y.oneCell'=true)∧z.cells.size=i.size∧cs.all zw=true∧cs.length=i.size:=by
 unfold vb at h
 split at h
 ·rename_i i hi
  split at h
  ·rename_i z hz
   split at h
   ·rename_i hc
    cases h
    simp only [Bool.and_eq_true,beq_iff_eq,List.all_eq_true] at hc
    refine ⟨i,z,hi,hz,⟨by simp,?_⟩,fun y hy=>hc.1 y (by simpa using hy),hc.2,?_,by simp [hc.2]⟩
    ·intro k c y h1 h2
     rw [List.getElem?_map,h2] at h1
     cases h1
     exact zk7 E y
    ·rw [List.all_eq_true]
     intro c hcm
     obtain ⟨y,hy,rfl⟩:=List.mem_map.1 hcm
     unfold ofV
     split <;> (try split) <;> rfl
   ·cases h
  ·cases h
 ·cases h
theorem zkW {w:World} {E:Env} (h:zB w E H) (g κ sz:Nat):L (E.push g κ) (.ref H.length [] sz 0 0) (.pointer (some ⟨g,0,none⟩)):=by
 have:=L.ref (E:=E.push g κ) H.length [] sz 0 0 (by simp [Env.push,h.n])
 have hb:(E.push g κ).β H.length []=g:=by simp [Env.push,h.n]
 rw [hb] at this
 simpa using this
theorem zP.alloc (t:TypeId) (ho:o.op=.alloc t) {cs:List C} (hz:vb P t=some cs):zP P o ρ H (.ref H.length [] cs.length 0 0) (H++[⟨1,t,cs.length,[cs],0⟩]):=fun w E σ hh hl K hk=>by
 obtain ⟨i,z,hi,hz,hll,h1,hsz,hn,hlen⟩:=ye hz E
 have hr:(execOp σ o).run P w=.ok (.value (.pointer (some ⟨w.heap.size,0,none⟩))) (w.alloc (.cells z.cells t)):=by
  unfold execOp
  simp only [ho,Instr.alloc,Sem.run_bind,qX hi hz,Result.andThen_ok,newVar,newRow]
  rfl
 rw [hr]
 obtain ⟨a,b⟩:=hh.zhu t cs z.cells hll hn h1
 exact hk _ _ _ a (zkW hh _ _ _) b
def vn:C->Bool
 | .v _=>true
 | .lst o _ _=>o != 2
 | .qv _ | .ref .. | .sl .. | .fn .. | .mp _ | .gl .. | .ifc .. | .rc _=>true
 | _=>false
theorem zhO {E:Env} {c:C} {y:Value} (h:L E c y) (hc:vn c=true):y.oneCell'=true:=by
 cases h with
 | v x hx=>exact hx
 | agg=>simp [vn] at hc
 | tup=>simp [vn] at hc
 | un=>simp [vn] at hc
 | za=>simp [vn] at hc
 | gl id sz rows y hn hg h=>cases h <;> rfl
 | _=>rfl
theorem zhP {c:C} (hc:vn c=true):zw c=true:=by
 unfold vn at hc
 unfold zw
 split at hc <;> first | rfl | (split <;> simp_all) | cases hc
def kH:C->Bool
 | .agg cs=>cs.all zw
 | c=>vn c
theorem kI {E:Env} {c:C} {y:Value} (h:L E c y) (hc:kH c=true):LL E c.cells y.cells.toList∧(∀ u ∈ y.cells,u.oneCell'=true)∧c.cells.all zw=true:=by
 cases c with
 | agg cs=>
  cases h with
  | agg _ ys h1 h2 h3=>exact ⟨⟨by simpa [C.cells,Value.cells] using h1,fun i c y e1 e2=>h2 i c y e1 (by simpa [Value.cells] using e2)⟩,h3,by simpa [kH,C.cells] using hc⟩
 | za=>simp [kH,vn] at hc
 | un=>simp [kH,vn] at hc
 | tup=>simp [kH,vn] at hc
 | _=>
  have ho:=zhO h (by simpa [kH] using hc)
  have hcell:y.cells= #[y]:=by cases y <;> first | rfl | (simp [Value.oneCell'] at ho)
  refine ⟨h.cells (by simp) (by simp),by rw [hcell];simpa using ho,?_⟩
  have:=zhP (by simpa [kH] using hc)
  simpa [C.cells] using this
theorem zP.box (t:TypeId) (x:Operand) (ho:o.op=.box t x) (hc:kH (ρ x)=true):zP P o ρ H (.ref H.length [] (ρ x).cells.length 0 0) (H++[⟨1,t,(ρ x).cells.length,[(ρ x).cells],0⟩]):=fun w E σ hh hl K hk=>by
 obtain ⟨hll,h1,hn⟩:=kI (hl x (by simp [ho,Op.operands])) hc
 have hr:(execOp σ o).run P w=.ok (.value (.pointer (some ⟨w.heap.size,0,none⟩))) (w.alloc (.cells (σ x).cells t)):=by
  unfold execOp
  simp only [ho,Instr.box,newVar,newRow]
  rfl
 rw [hr]
 obtain ⟨a,b⟩:=hh.zhu t _ _ hll hn h1
 exact hk _ _ _ a (zkW hh _ _ _) b
theorem qH (b off n:Nat):(⟨b,off,none⟩:Addr).add n=⟨b,off+n,none⟩:=by
 unfold Addr.add
 split <;> simp_all
def ym (c:C) (n:Nat):Option C:=
 match c with
 | .ref id hops sz i k=>some (.ref id hops sz i (k+n))
 | .qv cells=>some (.qv (cells.drop n))
 | _=>none
theorem zc2 {E:Env} {c c':C} {y:Value} {n:Nat} (h:L E c y) (hf:ym c n=some c'):∃ a,y=.pointer (some a)∧L E c' (.pointer (some (a.add n))):=by
 cases h with
 | ref id hops sz i k hn=>
  simp only [ym] at hf
  cases hf
  refine ⟨_,rfl,?_⟩
  rw [qH,Nat.add_assoc]
  exact .ref id hops sz i (k+n) hn
 | qv cells b off us hst hL=>
  simp only [ym] at hf
  cases hf
  refine ⟨_,rfl,?_⟩
  rw [qH]
  exact .qv _ b (off+n) (fun k=>us (n+k)) (fun k c hc=>by rw [List.getElem?_drop] at hc;rw [Nat.add_assoc];exact hst _ c hc) (fun k c hc=>by rw [List.getElem?_drop] at hc;exact hL _ c hc)
 | _=>simp [ym] at hf
theorem zP.fieldAddr (t:TypeId) (x:Operand) (f:Nat) (ho:o.op=.fieldAddr t x f) {fs:Array Field} {fd:Field} {i:TypeInfo} (ht:P.underlying t=some (.struct fs)) (hf:fs[f]?= some fd)
  (hi:P.info? fd.type=some i) (hsz:i.size≠0) {c:C} (hc:ym (ρ x) fd.offset=some c):zP P o ρ H c H:=fun w E σ hh hl K hk=>by
 obtain ⟨a,ha,hla⟩:=zc2 (hl x (by simp [ho,Op.operands])) hc
 have hr:(execOp σ o).run P w=.ok (.value (.pointer (some (a.add fd.offset)))) w:=by
  unfold execOp
  simp [ho,Instr.fieldAt,run_underlying ht,hf,ha,Instr.sureAddr,fieldPlace,qc hi,hsz]
 rw [hr]
 exact hk _ w E hh hla (zL.refl w E H)
def zaE (c:C) (size n:Nat):Option C:=
 match c with
 | .lst o sz rows=>if (o == 0 || o == 1) && (sz == size) then (rows[n]?).map .qv else none
 | .sl id hops sz lo len _=>if decide (n < len) && (sz == size) then some (.ref id hops sz (lo+n) 0) else none
 | _=>none
def zks:C->Option Nat
 | .lst _ _ rows=>some rows.length
 | .sl _ _ _ _ len _=>some len
 | _=>none
theorem zkm {E:Env} {c c':C} {y:Value} {size n:Nat} (h:L E c y) (hf:zaE c size n=some c'):
  ∃ a len cap,y=.slice (some a) len cap∧n < len∧L E c' (.pointer (some (a.add (n * size)))):=by
 cases h with
 | lst o sz rows b off cap us ho hc hsz hst hL=>
  simp only [zaE] at hf
  split at hf
  ·rename_i hcond
   simp only [Bool.and_eq_true,beq_iff_eq] at hcond
   obtain ⟨_,rfl⟩:=hcond
   cases hr:rows[n]? with
   | none=>rw [hr] at hf;cases hf
   | some r=>
    rw [hr] at hf
    cases hf
    refine ⟨_,_,_,rfl,(List.getElem?_eq_some_iff.1 hr).1,?_⟩
    rw [qH]
    exact .qv r b (off+n * sz) (us n) (fun k c hc=>hst n r k c hr hc) (fun k c hc=>hL n r k c hr hc)
  ·cases hf
 | qP o sz ho=>
  simp [zaE] at hf
 | sl id hops sz lo len full cap hn hlen hfull hf'=>
  simp only [zaE] at hf
  split at hf
  ·rename_i hcond
   simp only [Bool.and_eq_true,beq_iff_eq,decide_eq_true_eq] at hcond
   obtain ⟨hlt,rfl⟩:=hcond
   cases hf
   refine ⟨_,_,_,rfl,hlt,?_⟩
   rw [qH,<- Nat.add_mul]
   exact .ref id hops sz (lo+n) 0 hn
  ·cases hf
 | _=>simp [zaE] at hf
theorem zP.indexAddr (t:TypeId) (x y:Operand) (ho:o.op=.indexAddr t x y) {e:TypeId} {i:TypeInfo} (ht:P.underlying t=some (.slice e)) (hi:P.info? e=some i)
  {k:IntKind} {n:Int} (hy:ρ y=.v (.int k n)) (h0:0<=n) {c:C} (hc:zaE (ρ x) i.size n.toNat=some c):zP P o ρ H c H:=fun w E σ hh hl K hk=>by
 obtain ⟨a,len,cap,ha,hlt,hla⟩:=zkm (hl x (by simp [ho,Op.operands])) hc
 have h1:=hl y (by simp [ho,Op.operands])
 rw [hy] at h1
 have hyv:σ y=.int k n:=by generalize σ y=u at *;cases h1;rfl
 have hn:0<=n∧n < (len:Int):=⟨h0,by omega⟩
 have hr:(execOp σ o).run P w=.ok (.value (.pointer (some (a.add (n.toNat * i.size))))) w:=by
  unfold execOp
  simp [ho,Instr.indexAt,asIntOf,hyv,ha,run_underlying ht,hn.1,hn.2,qc hi]
 rw [hr]
 exact hk _ w E hh hla (zL.refl w E H)
theorem zP.zjl (t:TypeId) (x y:Operand) (ho:o.op=.indexAddr t x y) {len:Nat} {e:TypeId} {i:TypeInfo} (ht:P.underlying t=some (.array len e)) (hi:P.info? e=some i)
  {k:IntKind} {n:Int} (hy:ρ y=.v (.int k n)) (h0:0<=n) (h1:n < len) {c:C} (hc:ym (ρ x) (n.toNat * i.size)=some c):zP P o ρ H c H:=fun w E σ hh hl K hk=>by
 obtain ⟨a,ha,hla⟩:=zc2 (hl x (by simp [ho,Op.operands])) hc
 have hy1:=hl y (by simp [ho,Op.operands])
 rw [hy] at hy1
 have hyv:σ y=.int k n:=by generalize σ y=u at *;cases hy1;rfl
 have hr:(execOp σ o).run P w=.ok (.value (.pointer (some (a.add (n.toNat * i.size))))) w:=by
  unfold execOp
  simp [ho,Instr.indexAt,asIntOf,hyv,ha,run_underlying ht,h0,h1,qc hi,Instr.sureAddr]
 rw [hr]
 exact hk _ w E hh hla (zL.refl w E H)
end
end Go.Ab
namespace Go.Ab
def zfA (id:Nat) (hops:List Hop) (i k:Nat):C->C
 | .lst 2 sz rows=>.sl id (hops++[(i,k)]) sz 0 rows.length false
 | c=>c
def j3 (id:Nat) (hops:List Hop) (i:Nat):Nat->List C->List C
 | _,[]=>[]
 | k,c::cs=>zfA id hops i k c::j3 id hops i (k+1) cs
theorem zS (sz:Nat) (rows:List (List C)):xb sz rows []=some (sz,rows):=rfl
theorem qT (sz:Nat) (rows:List (List C)) (i k:Nat) (hs:List Hop):xb sz rows ((i,k)::hs)=match cellAt rows i k with
  | some (.lst 2 sz' rows')=>xb sz' rows' hs
  | _=>none:=rfl
theorem zc4 {i k sz2:Nat} {rows2:List (List C)}:∀ (hops:List Hop) (sz:Nat) (rows:List (List C)) (sz':Nat) (rows':List (List C)),xb sz rows hops=some (sz',rows')->
  cellAt rows' i k=some (.lst 2 sz2 rows2)->xb sz rows (hops++[(i,k)])=some (sz2,rows2)
 | [],sz,rows,sz',rows',h,hc=>by
  rw [zS] at h
  cases h
  rw [List.nil_append,qT,hc]
  rfl
 | (i',k')::tl,sz,rows,sz',rows',h,hc=>by
  rw [qT] at h
  rw [List.cons_append,qT]
  split at h
  ·exact zc4 tl _ _ _ _ h hc
  ·cases h
theorem zhW {H:ze} {id:Nat} {hops:List Hop} {sz':Nat} {rows':List (List C)} (h:zy H id hops=some (sz',rows')) {i k:Nat} {sz2:Nat} {rows2:List (List C)}
  (hc:cellAt rows' i k=some (.lst 2 sz2 rows2)):zy H id (hops++[(i,k)])=some (sz2,rows2):=by
 obtain ⟨ob,ho,hk,hg⟩:=z6 h
 unfold zy
 rw [ho]
 simp only [hk,if_true]
 exact zc4 _ _ _ _ _ hg hc
theorem zl0 {w:World} {E:Env} {H:ze} (h:zB w E H) {id:Nat} {hops:List Hop} {sz:Nat} {rows:List (List C)} (hb:zy H id hops=some (sz,rows)) {kd i k:Nat} {c:C} {u:Value}
  (hc:cellAt rows i k=some c) (ho:zV E kd id hops i k c u):L E (zfA id hops i k c) u:=by
 unfold zV at ho
 split at ho
 ·rename_i sz' rows'
  subst ho
  have hb':=zhW hb hc
  obtain ⟨ob,hob,_,_⟩:=z6 hb'
  have hlen:=(h.blk id ob _ _ _ hob hb').len
  have:=L.sl (E:=E) id (hops++[(i,k)]) sz' 0 rows'.length false _ (by rw [h.n];exact yU hb') hlen (by simp) (by intro _;rw [Nat.zero_add])
  rw [Nat.zero_mul] at this
  exact this
 ·rename_i h2
  have:zfA id hops i k c=c:=by
   unfold zfA
   split
   ·exact absurd rfl (h2 _ _)
   ·rfl
  rw [this]
  exact ho.1.mono (E.zkY kd)
theorem za6 {id:Nat} {hops:List Hop} {i:Nat}:∀ (cs:List C) (k j:Nat) (c':C),(j3 id hops i k cs)[j]?= some c'->∃ c,cs[j]?= some c∧c'=zfA id hops i (k+j) c
 | [],k,j,c',h=>by simp [j3] at h
 | c::cs,k,0,c',h=>by simp [j3] at h;exact ⟨c,rfl,h.symm⟩
 | c::cs,k,j+1,c',h=>by
  simp [j3] at h
  obtain ⟨c0,h0,e⟩:=za6 cs (k+1) j c' h
  exact ⟨c0,by simpa using h0,by rw [e];congr 1;omega⟩
theorem vI {id:Nat} {hops:List Hop} {i:Nat}:∀ (cs:List C) (k:Nat),(j3 id hops i k cs).length=cs.length
 | [],_=>rfl
 | c::cs,k=>by simp [j3,vI cs (k+1)]
def vB (H:ze) (c:C) (n:Nat):Option (List C):=
 match c with
 | .ref id hops sz i k=>match zy H id hops with
  | some (sz',rows)=>if sz' == sz then match rows[i]? with
    | some r=>if decide (k+n<=r.length) then some (j3 id hops i k ((r.drop k).take n)) else none
    | none=>none
   else none
  | none=>none
 | .qv cells=>if decide (n<=cells.length) then some (cells.take n) else none
 | _=>none
theorem zbn {w:World} {E:Env} {H:ze} (h:zB w E H) {c:C} {y:Value} (hl:L E c y) {n:Nat} {cs:List C} (hr:vB H c n=some cs):
  ∃ a us,y=.pointer (some a)∧(∀ (j:Nat) u,us[j]?= some u->w.cell? (a.add j)=some u)∧LL E cs us∧us.length=n∧(∀ u ∈ us,u.oneCell'=true):=by
 cases hl with
 | ref id hops sz i k hn=>
  simp only [vB] at hr
  split at hr
  ·rename_i sz' rows hb
   split at hr
   ·rename_i hsz
    have hsz:sz'=sz:=by simpa using hsz
    subst hsz
    split at hr
    ·rename_i r hrow
     split at hr
     ·rename_i hlen
      simp only [decide_eq_true_eq] at hlen
      cases hr
      obtain ⟨ob,hob,_,_⟩:=z6 hb
      have hB:=h.blk id ob hops sz' rows hob hb
      obtain ⟨cur,e,hg,hcs,hcell⟩:=hB.blk
      have hrl:r.length=sz':=hB.row r (List.mem_of_getElem? hrow)
      have hcc:∀ j,j < n->∃ c u,r[k+j]?= some c∧cellAt rows i (k+j)=some c∧cur[i * sz'+(k+j)]?= some u∧zV E ob.kind id hops i (k+j) c u:=fun j hj=>by
       have hj':k+j < r.length:=by omega
       have h1:r[k+j]?= some r[k+j]:=by simp [hj']
       have h2:cellAt rows i (k+j)=some r[k+j]:=by simp [cellAt,hrow,hj']
       obtain ⟨u,hu,ho⟩:=hcell i (k+j) _ h2
       exact ⟨_,u,h1,h2,hu,ho⟩
      refine ⟨_,(List.range n).map (fun j=>cur.getD (i * sz'+(k+j)) undef),rfl,?_,⟨?_,?_⟩,by simp,?_⟩
      ·intro j u hju
       simp only [List.getElem?_map] at hju
       cases hjr:(List.range n)[j]? with
       | none=>rw [hjr] at hju;cases hju
       | some j'=>
        rw [hjr] at hju
        obtain ⟨hjlt,hj'⟩:=List.getElem?_eq_some_iff.1 hjr
        simp at hj' hjlt
        subst hj'
        obtain ⟨c,u',h1,h2,hu,ho⟩:=hcc j hjlt
        simp only [Option.map_some,Option.some.injEq] at hju
        rw [Array.getD_eq_getD_getElem?,hu] at hju
        simp at hju
        subst hju
        rw [qH]
        unfold World.cell?
        simp only [hg]
        rw [if_neg (by simp),Nat.add_assoc]
        exact hu
      ·rw [vI];simp;omega
      ·intro j c' u hc' hu'
       obtain ⟨c,hc,rfl⟩:=za6 _ _ _ _ hc'
       rw [List.getElem?_take] at hc
       split at hc
       ·rename_i hj
        rw [List.getElem?_drop] at hc
        obtain ⟨c2,u2,h1,h2,hu,ho⟩:=hcc j hj
        rw [h1] at hc
        cases hc
        simp only [List.getElem?_map,List.getElem?_range hj,Option.map_some,Option.some.injEq] at hu'
        rw [Array.getD_eq_getD_getElem?,hu] at hu'
        simp at hu'
        subst hu'
        exact zl0 h hb h2 ho
       ·cases hc
      ·intro u hu
       obtain ⟨j,hj,rfl⟩:=List.mem_map.1 hu
       obtain ⟨c,u',h1,h2,hu',ho⟩:=hcc j (by simpa using hj)
       rw [Array.getD_eq_getD_getElem?,hu']
       simp only [Option.getD_some]
       unfold zV at ho
       split at ho
       ·rw [ho];rfl
       ·exact ho.2
     ·cases hr
    ·cases hr
   ·cases hr
  ·cases hr
 | qv cells b off us hst hL=>
  simp only [vB] at hr
  split at hr
  ·rename_i hlen
   simp only [decide_eq_true_eq] at hlen
   cases hr
   refine ⟨_,(List.range n).map us,rfl,?_,⟨by simp;omega,?_⟩,by simp,?_⟩
   ·intro j u hju
    simp only [List.getElem?_map] at hju
    cases hjr:(List.range n)[j]? with
    | none=>rw [hjr] at hju;cases hju
    | some j'=>
     rw [hjr] at hju
     obtain ⟨hjlt,hj'⟩:=List.getElem?_eq_some_iff.1 hjr
     simp at hj' hjlt
     subst hj'
     cases hju
     rw [qH]
     have hj2:j < cells.length:=by omega
     exact (h.zG _ _ _ (hst j cells[j] (by simp [hj2]))).1
   ·intro j c u hc hu
    rw [List.getElem?_take] at hc
    split at hc
    ·rename_i hj
     simp only [List.getElem?_map,List.getElem?_range hj,Option.map_some,Option.some.injEq] at hu
     subst hu
     exact (hL j c hc).mono E.wI
    ·cases hc
   ·intro u hu
    obtain ⟨j,hj,rfl⟩:=List.mem_map.1 hu
    have hj2:j < cells.length:=by have:j < n:=by simpa using hj
                                  omega
    exact (h.zG _ _ _ (hst j cells[j] (by simp [hj2]))).2
  ·cases hr
 | _=>simp [vB] at hr
def vP:TypeDesc->Bool
 | .struct _ | .array _ _=>true
 | _=>false
theorem xP {P:Program} {t:TypeId} {d:TypeDesc} (h:P.underlying t=some d) (w:World):(isAgg t).run P w=.ok (vP d) w:=by
 simp only [isAgg,Sem.run_bind,run_underlying h,Result.andThen_ok]
 cases d <;> rfl
def x2 (P:Program) (H:ze) (t:TypeId) (c:C):Option C:=
 match P.underlying t,P.info? t with
 | some d,some i=>
  if vP d then (vB H c i.size).map .agg
  else match vB H c 1 with
   | some [x]=>some x
   | _=>none
 | _,_=>none
section
variable {P:Program} {o:Oper} {ρ:Operand->C} {H:ze}
theorem zP.load (t:TypeId) (x:Operand) (ho:o.op=.load t x) {c:C} (hc:x2 P H t (ρ x)=some c):zP P o ρ H c H:=fun w E σ hh hl K hk=>by
 have hx:=hl x (by simp [ho,Op.operands])
 unfold x2 at hc
 split at hc
 ·rename_i d i hd hi
  by_cases hag:vP d=true
  ·rw [if_pos hag] at hc
   cases hr:vB H (ρ x) i.size with
   | none=>rw [hr] at hc;cases hc
   | some cs=>
    rw [hr] at hc
    cases hc
    obtain ⟨a,us,ha,hcell,hll,hlen,hone⟩:=zbn hh hx hr
    have hr':(execOp σ o).run P w=.ok (.value (.agg us.toArray)) w:=by
     unfold execOp
     have h3:=run_loadCells_list (P:=P) (w:=w) a us (fun j v hj=>hcell j v hj)
     rw [hlen] at h3
     simp [ho,Instr.loadAt,Instr.sureAddr,ha,loadVar,xP hd,hag,qc hi,h3]
    rw [hr']
    exact hk _ w E hh (.agg cs us.toArray (by simpa using hll.1) (fun i c y e1 e2=>hll.2 i c y e1 (by simpa using e2)) (fun u hu=>hone u (by simpa using hu))) (zL.refl w E H)
  ·rw [if_neg hag] at hc
   split at hc
   ·rename_i x0 hr
    cases hc
    obtain ⟨a,us,ha,hcell,hll,hlen,hone⟩:=zbn hh hx hr
    obtain ⟨u,rfl⟩:∃ u,us=[u]:=by
     match us,hlen with
     | [u],_=>exact ⟨u,rfl⟩
    have hu:=hcell 0 u rfl
    have ha0:a.add 0=a:=by simp [Addr.add]
    rw [ha0] at hu
    have hr':(execOp σ o).run P w=.ok (.value u) w:=by
     unfold execOp
     simp [ho,Instr.loadAt,Instr.sureAddr,ha,loadVar,xP hd,hag,hu]
    rw [hr']
    exact hk _ w E hh hll.cons_inv.1 (zL.refl w E H)
   ·cases hc
 ·cases hc
end
end Go.Ab
namespace Go.Ab
def setCell (rows:List (List C)) (i k:Nat) (c:C):List (List C):=rows.modify i (·.set k c)
def wD:List (List C)->List Hop->(List (List C)->List (List C))->List (List C)
 | rows,[],f=>f rows
 | rows,(i,k)::hs,f=>match cellAt rows i k with
  | some (.lst 2 sz' rows')=>setCell rows i k (.lst 2 sz' (wD rows' hs f))
  | _=>rows
theorem wE (rows:List (List C)) (f:List (List C)->List (List C)):wD rows [] f=f rows:=rfl
theorem vT (rows:List (List C)) (i k:Nat) (hs:List Hop) (f:List (List C)->List (List C)):wD rows ((i,k)::hs) f=match cellAt rows i k with
  | some (.lst 2 sz' rows')=>setCell rows i k (.lst 2 sz' (wD rows' hs f))
  | _=>rows:=rfl
theorem vE (rows:List (List C)) (i k:Nat) (c:C):(setCell rows i k c).length=rows.length:=by simp [setCell]
theorem vj (rows:List (List C)) (i k:Nat) (c:C) (i' k':Nat):cellAt (setCell rows i k c) i' k'=if i=i'∧k=k' then (cellAt rows i' k').map (fun _=>c) else cellAt rows i' k':=by
 unfold cellAt setCell
 rw [List.getElem?_modify]
 by_cases hi:i=i'
 ·subst hi
  cases hr:rows[i]? with
  | none=>simp
  | some r=>
   simp only [if_true,Option.map_eq_map,Option.map_some,Option.bind_some,true_and]
   rw [List.getElem?_set]
   by_cases hk:k=k'
   ·subst hk
    simp only [if_true]
    by_cases hlt:k < r.length
    ·simp [hlt]
    ·simp [hlt]
   ·simp [hk]
 ·simp [hi]
theorem zft {rows:List (List C)} {sz:Nat} (h:∀ r ∈ rows,r.length=sz) (i k:Nat) (c:C):∀ r ∈ setCell rows i k c,r.length=sz:=by
 intro r hr
 obtain ⟨j,hj⟩:=List.mem_iff_getElem?.1 hr
 unfold setCell at hj
 rw [List.getElem?_modify] at hj
 cases hx:rows[j]? with
 | none=>rw [hx] at hj;cases hj
 | some r0=>
  rw [hx] at hj
  have h0:=h r0 (List.mem_of_getElem? hx)
  simp only [Option.map_eq_map,Option.map_some,Option.some.injEq] at hj
  subst hj
  split <;> simp [h0]
structure ziF (rows rows':List (List C)):Prop where
 len:rows'.length=rows.length
 own:∀ i k s r,cellAt rows' i k=some (.lst 2 s r)↔cellAt rows i k=some (.lst 2 s r)
structure zfE (rows rows':List (List C)):Prop where
 len:rows'.length=rows.length
 cell:∀ i k c',cellAt rows' i k=some c'->∃ c,cellAt rows i k=some c∧(c=c'∨∃ s r r',c=.lst 2 s r∧c'=.lst 2 s r'∧r'.length=r.length)
 row:∀ sz,(∀ r ∈ rows,r.length=sz)->∀ r ∈ rows',r.length=sz
theorem zfE.refl (rows:List (List C)):zfE rows rows:=⟨rfl,fun i k c h=>⟨c,h,.inl rfl⟩,fun _ h=>h⟩
theorem zaZ {f:List (List C)->List (List C)}:∀ (hops:List Hop) (sz:Nat) (rows:List (List C)) (sz':Nat) (rows':List (List C)),xb sz rows hops=some (sz',rows')->ziF rows' (f rows')->(wD rows hops f).length=rows.length
 | [],sz,rows,sz',rows',h,ht=>by rw [zS] at h;cases h;rw [wE];exact ht.len
 | (i,k)::hs,sz,rows,sz',rows',h,ht=>by
  rw [vT]
  split
  ·exact vE _ _ _ _
  ·rfl
theorem zc3 {f:List (List C)->List (List C)}:∀ (hops:List Hop) (sz:Nat) (rows:List (List C)) (sz':Nat) (rows':List (List C)),xb sz rows hops=some (sz',rows')->ziF rows' (f rows')->
  ∀ (p:List Hop) (sz2:Nat) (rows2':List (List C)),xb sz (wD rows hops f) p=some (sz2,rows2')->
   ∃ rows2,xb sz rows p=some (sz2,rows2)∧((p=hops∧rows2'=f rows2)∨(p≠hops∧zfE rows2 rows2'))
 | [],sz,rows,sz',rows',h,ht,p,sz2,rows2',hp=>by
  rw [zS] at h
  cases h
  rw [wE] at hp
  cases p with
  | nil=>rw [zS] at hp;cases hp;exact ⟨rows,rfl,.inl ⟨rfl,rfl⟩⟩
  | cons hd q=>
   obtain ⟨i,k⟩:=hd
   rw [qT] at hp
   split at hp
   ·rename_i s r hc
    rw [ht.own] at hc
    exact ⟨rows2',by rw [qT,hc];exact hp,.inr ⟨by simp,zfE.refl _⟩⟩
   ·cases hp
 | (i,k)::hs,sz,rows,sz',rows',h,ht,p,sz2,rows2',hp=>by
  rw [qT] at h
  split at h
  ·rename_i s r hc
   have hset:wD rows ((i,k)::hs) f=setCell rows i k (.lst 2 s (wD r hs f)):=by rw [vT,hc];rfl
   rw [hset] at hp
   cases p with
   | nil=>
    rw [zS] at hp
    cases hp
    refine ⟨rows,rfl,.inr ⟨by simp,vE _ _ _ _,?_,fun sz0 h0=>zft h0 _ _ _⟩⟩
    intro i' k' c' hcc
    rw [vj] at hcc
    split at hcc
    ·rename_i hik
     obtain ⟨rfl,rfl⟩:=hik
     rw [hc] at hcc
     simp only [Option.map_some,Option.some.injEq] at hcc
     subst hcc
     exact ⟨_,hc,.inr ⟨s,r,_,rfl,rfl,zaZ hs s r sz' rows' h ht⟩⟩
    ·exact ⟨c',hcc,.inl rfl⟩
   | cons hd q=>
    obtain ⟨i',k'⟩:=hd
    rw [qT,vj] at hp
    by_cases hik:i=i'∧k=k'
    ·obtain ⟨rfl,rfl⟩:=hik
     rw [if_pos ⟨rfl,rfl⟩,hc] at hp
     simp only [Option.map_some] at hp
     obtain ⟨rows2,h2,h3⟩:=zc3 hs s r sz' rows' h ht q sz2 rows2' hp
     refine ⟨rows2,by rw [qT,hc];exact h2,?_⟩
     rcases h3 with ⟨rfl,e⟩ | ⟨hne,hlk⟩
     ·exact .inl ⟨rfl,e⟩
     ·exact .inr ⟨fun e=>hne (by simpa using e),hlk⟩
    ·rw [if_neg hik] at hp
     refine ⟨rows2',by rw [qT];exact hp,.inr ⟨?_,zfE.refl _⟩⟩
     intro e
     simp at e
     exact hik ⟨e.1.1.symm,e.1.2.symm⟩
  ·cases h
def wC (H:ze) (id:Nat) (hops:List Hop) (f:List (List C)->List (List C)):ze:=H.modify id fun ob=>match ob with
 | ⟨kind,ty,sz,rows,fz⟩=>⟨kind,ty,sz,wD rows hops f,fz⟩
theorem vD (H:ze) (id:Nat) (hops:List Hop) (f:List (List C)->List (List C)) (j:Nat):(wC H id hops f)[j]?= (H[j]?).map fun ob=>if id=j then { ob with rows:=wD ob.rows hops f } else ob:=by
 unfold wC
 rw [List.getElem?_modify]
 rfl
theorem yC {H:ze} {id:Nat} {hops:List Hop} {f:List (List C)->List (List C)} {sz:Nat} {rows:List (List C)} (hb:zy H id hops=some (sz,rows)) (ht:ziF rows (f rows)) {id':Nat} {p:List Hop}
  {sz2:Nat} {rows2':List (List C)} (hp:zy (wC H id hops f) id' p=some (sz2,rows2')):
  ∃ rows2,zy H id' p=some (sz2,rows2)∧((id'=id∧p=hops∧rows2'=f rows2)∨(¬(id'=id∧p=hops)∧zfE rows2 rows2')):=by
 obtain ⟨ob,hob,hk,hg⟩:=z6 hb
 obtain ⟨ob',hob',hk',hg'⟩:=z6 hp
 rw [vD] at hob'
 by_cases hid:id=id'
 ·subst hid
  rw [hob] at hob'
  simp only [Option.map_some,if_true,Option.some.injEq] at hob'
  subst hob'
  obtain ⟨rows2,h2,h3⟩:=zc3 hops ob.sz ob.rows sz rows hg ht p sz2 rows2' hg'
  refine ⟨rows2,?_,?_⟩
  ·unfold zy
   rw [hob]
   simp only [hk,if_true]
   exact h2
  ·rcases h3 with ⟨rfl,e⟩ | ⟨hne,hlk⟩
   ·exact .inl ⟨rfl,rfl,e⟩
   ·exact .inr ⟨fun e=>hne e.2,hlk⟩
 ·cases hx:H[id']? with
  | none=>rw [hx] at hob';cases hob'
  | some ob2=>
   rw [hx] at hob'
   simp only [Option.map_some,hid,if_false,Option.some.injEq] at hob'
   subst hob'
   refine ⟨rows2',?_,.inr ⟨fun e=>hid e.1.symm,zfE.refl _⟩⟩
   unfold zy
   rw [hx]
   simp only [hk',if_true]
   exact hg'
theorem zB.write {w:World} {E:Env} {H:ze} (h:zB w E H) {id:Nat} {hops:List Hop} {ob:Ob} {sz:Nat} {rows:List (List C)} {f:List (List C)->List (List C)} (hob:H[id]?= some ob)
  (hb:zy H id hops=some (sz,rows)) (ht:ziF rows (f rows)) (hrow:∀ r ∈ f rows,r.length=sz) {cur cur':Array Value} {e:TypeId} (hg:w.heap[E.β id hops]?= some (.cells cur e (0,0))) (hsz:cur'.size=cur.size)
  (hst:∀ o u,E.St (E.β id hops) o=some u->cur'[o]?= some u)
  (hc:∀ i k c,cellAt (f rows) i k=some c->∃ u,cur'[i * sz+k]?= some u∧zV E ob.kind id hops i k c u):
  zB (w.setRow (E.β id hops) cur') E (wC H id hops f)∧zL w E H (w.setRow (E.β id hops) cur') E (wC H id hops f):=by
 have hown:∀ b,z5 E (wC H id hops f) b->z5 E H b:=by
  rintro b ⟨id',p,⟨s2,r2⟩,hx,rfl⟩
  obtain ⟨rows2,h2,_⟩:=yC hb ht hx
  exact ⟨id',p,_,h2,rfl⟩
 refine ⟨⟨by rw [h.n];simp [wC],?_,?_,?_,?_,?_,?_⟩,⟨Env.le.refl E,fun _ _ _=>rfl,rfl,rfl,rfl,by simp [World.setRow],?_,fun b o u hu=>.inl hu,fun b hb'=>.inr (hown b hb')⟩⟩
 ·intro id' ob' p sz2 rows2' hob' hx
  obtain ⟨rows2,h2,h3⟩:=yC hb ht hx
  have hkd:∃ ob0,H[id']?= some ob0∧ob'.kind=ob0.kind:=by
   rw [vD] at hob'
   cases hx':H[id']? with
   | none=>rw [hx'] at hob';cases hob'
   | some ob0=>
    rw [hx'] at hob'
    simp only [Option.map_some,Option.some.injEq] at hob'
    subst hob'
    exact ⟨ob0,rfl,by split <;> rfl⟩
  obtain ⟨ob0,hob0,hkd⟩:=hkd
  have hB:=h.blk id' ob0 p sz2 rows2 hob0 h2
  rw [hkd]
  rcases h3 with ⟨rfl,rfl,rfl⟩ | ⟨hne,hlk⟩
  ·rw [hb] at h2
   cases h2
   rw [hob] at hob0
   cases hob0
   obtain ⟨cur0,e0,hg0,hs0,_⟩:=hB.blk
   rw [hg] at hg0
   cases hg0
   exact ⟨by rw [ht.len];exact hB.len,hrow,cur',e,setRow_heap w _ cur cur' e _ hg,by rw [hsz];exact hs0,hc⟩
  ·obtain ⟨cur0,e0,hg0,hs0,hc0⟩:=hB.blk
   have hdiff:E.β id' p≠E.β id hops:=fun he=>hne (by
    have:=h.inj id' p id hops _ _ h2 hb he
    exact this)
   refine ⟨by rw [hlk.len];exact hB.len,hlk.row sz2 hB.row,cur0,e0,by rw [setRow_other w _ _ _ hdiff];exact hg0,hs0,?_⟩
   intro i k c' hcc
   obtain ⟨c,h4,h5⟩:=hlk.cell i k c' hcc
   obtain ⟨u,hu,ho⟩:=hc0 i k c h4
   refine ⟨u,hu,?_⟩
   rcases h5 with rfl | ⟨s,r,r',rfl,rfl,hl⟩
   ·exact ho
   ·simp only [zV] at ho ⊢
    rw [hl];exact ho
 ·intro id1 p1 id2 p2 x y hx hy he
  obtain ⟨r1,h1,_⟩:=yC hb ht (rows2':=x.2) (sz2:=x.1) (by simpa using hx)
  obtain ⟨r2,h2,_⟩:=yC hb ht (rows2':=y.2) (sz2:=y.1) (by simpa using hy)
  exact h.inj id1 p1 id2 p2 _ _ h1 h2 he
 ·intro b o u hu
  refine ⟨?_,(h.zG b o u hu).2⟩
  by_cases hbb:b=E.β id hops
  ·subst hbb
   unfold World.cell?
   rw [setRow_heap w _ cur cur' e _ hg]
   simp
   exact hst o u hu
  ·have:=(h.zG b o u hu).1
   unfold World.cell? at this ⊢
   simp only [setRow_other w _ _ _ hbb]
   exact this
 ·intro id' p x o u hx hu
  obtain ⟨r1,h1,_⟩:=yC hb ht (rows2':=x.2) (sz2:=x.1) (by simpa using hx)
  obtain ⟨e1,ob',e2,e3⟩:=h.sep id' p _ o u h1 hu
  refine ⟨e1,?_⟩
  rw [vD,e2]
  exact ⟨_,rfl,by split <;> exact e3⟩
 ·intro id' ob' hob' hk
  rw [vD] at hob'
  cases hx':H[id']? with
  | none=>rw [hx'] at hob';cases hob'
  | some ob0=>
   rw [hx'] at hob'
   simp only [Option.map_some,Option.some.injEq] at hob'
   have hk0:ob0.kind=2∧ob'.ty=ob0.ty:=by subst hob';revert hk;split <;> exact fun h=>⟨h,rfl⟩
   obtain ⟨cur0,hc0⟩:=h.ty id' ob0 hx' hk0.1
   rw [hk0.2]
   by_cases hbb:E.β id' []=E.β id hops
   ·rw [hbb] at hc0 ⊢
    rw [hg] at hc0
    cases hc0
    exact ⟨cur',setRow_heap w _ cur cur' _ _ hg⟩
   ·exact ⟨cur0,by rw [setRow_other w _ _ _ hbb];exact hc0⟩
 ·intro id' ob' hob'
  rw [vD] at hob'
  cases hx':H[id']? with
  | none=>rw [hx'] at hob';cases hob'
  | some ob0=>
   rw [hx'] at hob'
   simp only [Option.map_some,Option.some.injEq] at hob'
   have h0:=h.fz id' ob0 hx'
   subst hob'
   split
   ·rename_i hid
    subst hid
    rw [hob] at hx'
    cases hx'
    obtain ⟨ob2,h1,_,h2⟩:=z6 hb
    rw [hob] at h1
    cases h1
    dsimp only
    rw [zaZ hops _ _ _ _ h2 ht]
    exact h0
   ·exact h0
 ·intro k hk ho
  rw [setRow_other w _ _ _ (fun e'=>ho ⟨id,hops,_,hb,e'.symm⟩)]
end Go.Ab
namespace Go.Ab
def jg (k:Nat) (cs:List C) (r:List C):List C:=r.take k++cs++r.drop (k+cs.length)
def xI (i k:Nat) (cs:List C) (rows:List (List C)):List (List C):=rows.modify i (jg k cs)
theorem va {k:Nat} {cs r:List C} (h:k+cs.length<=r.length):(jg k cs r).length=r.length:=by
 simp [jg];omega
theorem wQ {k:Nat} {cs r:List C} (h:k+cs.length<=r.length) (j:Nat):(jg k cs r)[j]?= if k<=j∧j < k+cs.length then cs[j - k]? else r[j]?:=by
 unfold jg
 rw [List.append_assoc]
 by_cases h1:j < k
 ·rw [List.getElem?_append_left (by simp;omega),List.getElem?_take,if_pos h1,if_neg (by omega)]
 ·rw [List.getElem?_append_right (by simp;omega)]
  have hk:(r.take k).length=k:=by simp;omega
  rw [hk]
  by_cases h2:j < k+cs.length
  ·rw [List.getElem?_append_left (by omega),if_pos ⟨by omega,h2⟩]
  ·rw [List.getElem?_append_right (by omega),List.getElem?_drop,if_neg (by omega)]
   congr 1
   omega
theorem vm {i k:Nat} {cs:List C} {rows:List (List C)} {r:List C} (hr:rows[i]?= some r) (h:k+cs.length<=r.length) (i' k':Nat):
  cellAt (xI i k cs rows) i' k'=if i=i'∧k<=k'∧k' < k+cs.length then cs[k' - k]? else cellAt rows i' k':=by
 unfold cellAt xI
 rw [List.getElem?_modify]
 by_cases hi:i=i'
 ·subst hi
  rw [hr]
  simp only [if_true,Option.map_eq_map,Option.map_some,Option.bind_some,true_and]
  rw [wQ h]
 ·simp [hi]
def j1 (P:Program) (H:ze) (t:TypeId) (a x:C):Option ze:=
 match a,P.info? t with
 | .ref id hops sz i k,some inf=>
  match zy H id hops,H[id]? with
  | some (sz',rows),some ob=>
   match rows[i]? with
   | some r=>
    if (sz' == sz) && kH x && (x.cells.length == inf.size) && decide (k+x.cells.length<=r.length) && ((r.drop k).take x.cells.length).all zw && (ob.kind == 1 || x.cells.all jz) && (!hops.isEmpty || decide (ob.fz<=i)) && (hops.isEmpty || ob.fz == 0)
    then some (wC H id hops (xI i k x.cells)) else none
   | none=>none
  | _,_=>none
 | _,_=>none
section
variable {P:Program} {o:Oper} {ρ:Operand->C} {H:ze}
theorem zP.store (t:TypeId) (x y:Operand) (ho:o.op=.store t x y) {H':ze} (hs:j1 P H t (ρ x) (ρ y)=some H'):zP P o ρ H .un H':=fun w E σ hh hl K hk=>by
 have hx:=hl x (by simp [ho,Op.operands])
 have hy:=hl y (by simp [ho,Op.operands])
 unfold j1 at hs
 split at hs
 rotate_left
 ·cases hs
 rename_i id hops sz i k inf ha hinf
 split at hs
 rotate_left
 ·cases hs
 rename_i sz' rows ob hb hob
 split at hs
 rotate_left
 ·cases hs
 rename_i r hr
 split at hs
 rotate_left
 ·cases hs
 rename_i hcond
 cases hs
 simp only [Bool.and_eq_true,beq_iff_eq,decide_eq_true_eq,Bool.or_eq_true,List.all_eq_true] at hcond
 obtain ⟨⟨⟨⟨⟨⟨⟨rfl,hval⟩,hlen⟩,hfit⟩,hold⟩,hkd⟩,hfz⟩,_⟩:=hcond
 obtain ⟨hll,hone,hno⟩:=kI hy hval
 rw [ha] at hx
 have hB:=hh.blk id ob hops sz' rows hob hb
 obtain ⟨cur,e,hg,hcs,hcell⟩:=hB.blk
 have hrl:r.length=sz':=hB.row r (List.mem_of_getElem? hr)
 have hil:i < rows.length:=(List.getElem?_eq_some_iff.1 hr).1
 have hx':σ x=.pointer (some ⟨E.β id hops,i * sz'+k,none⟩):=by generalize σ x=u at *;cases hx;rfl
 obtain ⟨vs,hvs⟩:∃ vs,vs=(σ y).cells.toList:=⟨_,rfl⟩
 rw [<- hvs] at hll
 have hvl:vs.length=(ρ y).cells.length:=hll.1.symm
 have hend:i * sz'+k+vs.length<=cur.size:=by
  have h1:(i+1) * sz'<=E.κ id hops * sz':=Nat.mul_le_mul_right _ (Nat.le_trans hil hB.len)
  rw [Nat.add_mul] at h1
  omega
 have hrun:=run_storeCells_at P (E.β id hops) (i * sz'+k) e vs 0 cur w hg (by simpa using hend) (fun v hv=>hone v (by rw [hvs] at hv;simpa using hv))
 simp only [Nat.add_zero] at hrun
 obtain ⟨cur',hcur'⟩:∃ cur',cur'=(cur.toList.take (i * sz'+k)++vs++cur.toList.drop (i * sz'+k+vs.length)).toArray:=⟨_,rfl⟩
 rw [<- hcur'] at hrun
 have hcget:∀ j:Nat,cur'[j]?= if i * sz'+k<=j∧j < i * sz'+k+vs.length then vs[j - (i * sz'+k)]? else cur[j]?:=by
  intro j
  rw [hcur']
  simp only [List.getElem?_toArray]
  rw [List.append_assoc]
  by_cases h1:j < i * sz'+k
  ·rw [List.getElem?_append_left (by simp;omega),List.getElem?_take,if_pos h1,if_neg (by omega),Array.getElem?_toList]
  ·rw [List.getElem?_append_right (by simp;omega)]
   have hk':(cur.toList.take (i * sz'+k)).length=i * sz'+k:=by simp;omega
   rw [hk']
   by_cases h2:j < i * sz'+k+vs.length
   ·rw [List.getElem?_append_left (by omega),if_pos ⟨by omega,h2⟩]
   ·rw [List.getElem?_append_right (by omega),List.getElem?_drop,if_neg (by omega),Array.getElem?_toList]
    congr 1
    omega
 have hr':(execOp σ o).run P w=.ok .skip (w.setRow (E.β id hops) cur'):=by
  unfold execOp
  have hsz2:(σ y).cells.size=inf.size:=by
   have:vs.length=(σ y).cells.size:=by rw [hvs];simp
   omega
  simp [ho,Instr.storeAt,Instr.sureAddr,hx',storeVar,qc hinf,hsz2,<- hvs,hrun]
 rw [hr']
 have hpos:∀ i' k',i' < rows.length->k' < sz'->(i * sz'+k<=i' * sz'+k'∧i' * sz'+k' < i * sz'+k+vs.length↔i=i'∧k<=k'∧k' < k+vs.length):=by
  intro i' k' hi' hk'
  constructor
  ·rintro ⟨h1,h2⟩
   have:i=i':=by
    rcases Nat.lt_trichotomy i i' with h | h | h
    ·exfalso
     have:(i+1) * sz'<=i' * sz':=Nat.mul_le_mul_right _ h
     rw [Nat.add_mul] at this
     omega
    ·exact h
    ·exfalso
     have:(i'+1) * sz'<=i * sz':=Nat.mul_le_mul_right _ h
     rw [Nat.add_mul] at this
     omega
   subst this
   omega
  ·rintro ⟨rfl,h1,h2⟩
   omega
 have htame:ziF rows (xI i k (ρ y).cells rows):=by
  refine ⟨by simp [xI],?_⟩
  intro i' k' s r0
  rw [vm hr hfit]
  split
  ·rename_i hin
   obtain ⟨rfl,h1,h2⟩:=hin
   constructor
   ·intro h
    have:=List.all_eq_true.1 hno _ (List.mem_of_getElem? h)
    simp [zw] at this
   ·intro h
    simp only [cellAt,hr,Option.bind_some] at h
    have hm:C.lst 2 s r0 ∈ (r.drop k).take (ρ y).cells.length:=by
     apply List.mem_iff_getElem?.2
     refine ⟨k' - k,?_⟩
     rw [List.getElem?_take,if_pos (by omega),List.getElem?_drop,show k+(k' - k)=k' from by omega]
     exact h
    have:=hold _ hm
    simp [zw] at this
  ·rfl
 have hW:=hh.write hob hb htame (cur:=cur) (cur':=cur') (e:=e) ?_ hg ?_ ?_ ?_
 ·exact hk _ _ E hW.1 .un hW.2
 ·intro r0 hr0
  obtain ⟨j,hj⟩:=List.mem_iff_getElem?.1 hr0
  unfold xI at hj
  rw [List.getElem?_modify] at hj
  cases hx0:rows[j]? with
  | none=>rw [hx0] at hj;cases hj
  | some r1=>
   rw [hx0] at hj
   simp only [Option.map_eq_map,Option.map_some,Option.some.injEq] at hj
   subst hj
   by_cases hij:i=j
   ·subst hij
    rw [hr] at hx0
    cases hx0
    rw [if_pos rfl,va hfit]
    exact hrl
   ·rw [if_neg hij]
    exact hB.row r1 (List.mem_of_getElem? hx0)
 ·rw [hcur'];simp;omega
 ·intro off u hu
  obtain ⟨e1,ob',e2,e3⟩:=hh.sep id hops _ off u hb hu
  rw [hob] at e2
  cases e2
  subst e1
  simp at hfz
  have hsz0:ob.sz=sz':=by
   obtain ⟨ob2,h1,_,h2⟩:=z6 hb
   rw [hob] at h1
   cases h1
   rw [zS] at h2
   cases h2
   rfl
  have hlt:off < i * sz':=by
   rw [hsz0] at e3
   exact Nat.lt_of_lt_of_le e3 (Nat.mul_le_mul_right _ hfz)
  rw [hcget,if_neg (by omega)]
  have:=(hh.zG _ _ _ hu).1
  unfold World.cell? at this
  rw [hg] at this
  simpa using this
 ·intro i' k' c hcc
  rw [vm hr hfit] at hcc
  split at hcc
  ·rename_i hin
   obtain ⟨rfl,h1,h2⟩:=hin
   obtain ⟨u,hu,hlu⟩:=hll.get hcc
   have hnoc:=List.all_eq_true.1 hno _ (List.mem_of_getElem? hcc)
   refine ⟨u,?_,(zV.loose hnoc).2 ⟨?_,hone u ?_⟩⟩
   ·rw [hcget,if_pos (by omega),show i * sz'+k' - (i * sz'+k)=k' - k from by omega]
    exact hu
   ·rcases hkd with hkd | hkd
    ·simpa [Env.at,hkd] using hlu
    ·unfold Env.at
     split
     ·exact hlu.xn (hkd _ (List.mem_of_getElem? hcc))
     ·exact hlu
   ·have:=List.mem_of_getElem? hu
    rw [hvs] at this
    simpa using this
  ·rename_i hnot
   obtain ⟨u,hu,hou⟩:=hcell i' k' c hcc
   refine ⟨u,?_,hou⟩
   have hi'k':i' < rows.length∧k' < sz':=by
    unfold cellAt at hcc
    cases hx0:rows[i']? with
    | none=>rw [hx0] at hcc;cases hcc
    | some r1=>
     rw [hx0] at hcc
     refine ⟨(List.getElem?_eq_some_iff.1 hx0).1,?_⟩
     have:=hB.row r1 (List.mem_of_getElem? hx0)
     rw [<- this]
     exact (List.getElem?_eq_some_iff.1 hcc).1
   rw [hcget,if_neg]
   ·exact hu
   ·rw [hpos i' k' hi'k'.1 hi'k'.2,hvl]
    exact hnot
def zb (P:Program) (f:FuncId) (H:ze) (args:List C) (r:C) (H':ze):Prop:=
 ∀ (w:World) (E:Env) (vs:Array Value),zH w E H->LL E args vs.toList->
  Calls P f vs w fun e w'=>∃ v E',e=.returned v∧zH w' E' H'∧L E' r v∧Grow w E H w' E' H'
def zA (P:Program) (f:FuncId):Bool:=
 match P.funcs[f]? with
 | some fn => !(fn.name == "runtime.NumGoroutine") && fn.body.isSome
 | none=>false
theorem OpV.call (cl:Call) (ho:o.op=.call cl) (x:Operand) (hcl:cl.callee=.value x) {f:FuncId} {first caps:List C} (hf:ρ x=.fn f first caps) (hcb:zA P f=true) {r:C} {H':ze}
  (hs:zb P f H (first++(cl.args.toList.map ρ)++caps) r H'):OpV P o ρ H r H':=fun w E σ hh hl K hk=>by
 have h0:=hl x (by simp [ho,Op.operands,Call.operands,hcl])
 rw [hf] at h0
 obtain ⟨ys,zs,hv,h1,h2,h3,h4⟩:∃ ys zs,σ x=.func (.func f) ys zs∧first.length=ys.size∧caps.length=zs.size∧(∀ (i:Nat) c y,first[i]?= some c->ys[i]?= some y->L E c y)∧(∀ (i:Nat) c y,caps[i]?= some c->zs[i]?= some y->L E c y):=by
  generalize σ x=u at *
  cases h0 with
  | fn f first caps ys zs h1 h2 h3 h4=>exact ⟨ys,zs,rfl,h1,h2,h3,h4⟩
 unfold zA at hcb
 split at hcb
 rotate_left
 ·cases hcb
 rename_i fn hfn
 simp only [Bool.and_eq_true,Bool.not_eq_true'] at hcb
 have hname : fn.name ≠ "runtime.NumGoroutine" := by simpa using hcb.1
 have hbody:fn.body≠none:=by intro hb;simp [hb] at hcb
 have hr:(execOp σ o).run P w=.ok (.enter f (ys++cl.args.map σ++zs)) w:=by
  unfold execOp
  simp [ho,resolve,hcl,hv,Deferred.ofValue,invoke,callFunc,hfn,hname,hbody]
 rw [hr]
 refine (hs w E (ys++cl.args.map σ++zs) hh ?_).mono ?_
 ·have e1:LL E first ys.toList:=⟨by simpa using h1,fun i c y e1 e2=>h3 i c y e1 (by simpa using e2)⟩
  have e2:LL E caps zs.toList:=⟨by simpa using h2,fun i c y e1 e2=>h4 i c y e1 (by simpa using e2)⟩
  have e3:LL E (cl.args.toList.map ρ) (cl.args.map σ).toList:=by
   refine ⟨by simp,?_⟩
   intro i c y hc hy
   rw [List.getElem?_map] at hc
   rw [Array.toList_map,List.getElem?_map] at hy
   cases ha:cl.args.toList[i]? with
   | none=>rw [ha] at hc;cases hc
   | some a=>
    rw [ha] at hc hy
    cases hc
    cases hy
    exact hl a (by simp [ho,Op.operands,Call.operands];right;have:=List.mem_of_getElem? ha;simpa using this)
  have:=(e1.append e3).append e2
  simpa using this
 ·rintro e w' ⟨v,E',rfl,h5,h6,h7⟩
  exact ⟨v,rfl,hk v w' E' h5 h6 h7⟩
end
end Go.Ab
namespace Go.Ab
section
variable {P:Program} {o:Oper} {ρ:Operand->C} {H:ze}
theorem zP.extract (x:Operand) (n:Nat) (ho:o.op=.extract x n) {vs:List C} (hx:ρ x=.tup vs) {c:C} (hc:vs[n]?= some c):zP P o ρ H c H:=fun w E σ hh hl K hk=>by
 have h0:=hl x (by simp [ho,Op.operands])
 rw [hx] at h0
 obtain ⟨ys,hy,hlen,hll⟩:∃ ys,σ x=.tuple ys∧vs.length=ys.size∧∀ (i:Nat) c y,vs[i]?= some c->ys[i]?= some y->L E c y:=by
  generalize σ x=u at *
  cases h0 with
  | tup _ ys h1 h2=>exact ⟨ys,rfl,h1,h2⟩
 have hlt:n < ys.size:=by rw [<- hlen];exact (List.getElem?_eq_some_iff.1 hc).1
 have hr:(execOp σ o).run P w=.ok (.value ys[n]) w:=by
  unfold execOp
  simp [ho,Instr.extract,hy,hlt]
 rw [hr]
 exact hk _ w E hh (hll n c _ hc (by simp [hlt])) (zL.refl w E H)
def zd3:C->Bool
 | .ref .. | .qv _ | .fn ..=>true
 | _=>false
theorem zP.nilCheck (x:Operand) (ho:o.op=.nilCheck x) (hx:zd3 (ρ x)=true):zP P o ρ H (ρ x) H:=fun w E σ hh hl K hk=>by
 have h0:=hl x (by simp [ho,Op.operands])
 have hr:(execOp σ o).run P w=.ok (.value (σ x)) w:=by
  unfold execOp
  generalize ρ x=c at *
  generalize hu:σ x=u at *
  cases h0 <;> first | (simp [zd3] at hx;done) | (simp only [ho,hu];rfl)
 rw [hr]
 exact hk _ w E hh h0 (zL.refl w E H)
theorem zP.makeFunc (f:FuncId) (first caps:Array Operand) (ho:o.op=.makeFunc (.func f) first caps):zP P o ρ H (.fn f (first.toList.map ρ) (caps.toList.map ρ)) H:=fun w E σ hh hl K hk=>by
 have hr:(execOp σ o).run P w=.ok (.value (.func (.func f) (first.map σ) (caps.map σ))) w:=by
  unfold execOp
  simp only [ho]
  rfl
 rw [hr]
 refine hk _ w E hh (.fn f _ _ _ _ (by simp) (by simp) ?_ ?_) (zL.refl w E H)
 ·intro i c y hc hy
  rw [List.getElem?_map] at hc
  rw [Array.getElem?_map] at hy
  cases ha:first[i]? with
  | none=>rw [ha] at hy;cases hy
  | some a=>
   rw [Array.getElem?_toList,ha] at hc
   rw [ha] at hy
   cases hc
   cases hy
   exact hl a (by simp [ho,Op.operands];left;exact Array.mem_of_getElem? ha)
 ·intro i c y hc hy
  rw [List.getElem?_map] at hc
  rw [Array.getElem?_map] at hy
  cases ha:caps[i]? with
  | none=>rw [ha] at hy;cases hy
  | some a=>
   rw [Array.getElem?_toList,ha] at hc
   rw [ha] at hy
   cases hc
   cases hy
   exact hl a (by simp [ho,Op.operands];right;exact Array.mem_of_getElem? ha)
def k9 (place:Nat->Option (Nat × Nat)):List C->List (Nat × C)->Option (List C)
 | cells,[]=>some cells
 | cells,(i,c)::rest=>match place i with
  | none=>none
  | some (off,size)=>if kH c && (c.cells.length == size) && decide (off+size<=cells.length) then k9 place (jg off c.cells cells) rest else none
theorem zc1:∀ (vs:List Value) (off k:Nat) (cells:Array Value),off+k+vs.length<=cells.size->
  ((vs.zipIdx k).foldl (fun cs (p:Value × Nat)=>cs.setIfInBounds (off+p.2) p.1) cells).size=cells.size∧
  ∀ j:Nat,((vs.zipIdx k).foldl (fun cs (p:Value × Nat)=>cs.setIfInBounds (off+p.2) p.1) cells)[j]?= if off+k<=j∧j < off+k+vs.length then vs[j - (off+k)]? else cells[j]?
 | [],off,k,cells,h=>⟨rfl,fun j=>by rw [if_neg (by simp)];rfl⟩
 | v::vs,off,k,cells,h=>by
  simp only [List.zipIdx_cons,List.foldl_cons,List.length_cons] at h ⊢
  have ih:=zc1 vs off (k+1) (cells.setIfInBounds (off+k) v) (by simp;omega)
  refine ⟨by rw [ih.1];simp,?_⟩
  intro j
  rw [ih.2 j]
  by_cases h1:off+k=j
  ·subst h1
   rw [if_neg (by omega),if_pos (by omega),Array.getElem?_setIfInBounds]
   simp
   omega
  ·by_cases h2:off+(k+1)<=j∧j < off+(k+1)+vs.length
   ·rw [if_pos h2,if_pos (by omega),show j - (off+k)=(j - (off+(k+1)))+1 from by omega]
    simp
   ·rw [if_neg h2,if_neg (by omega),Array.getElem?_setIfInBounds]
    simp [h1]
theorem zbi {E:Env} {place:Nat->Option (Nat × Nat)} {ρ:Operand->C} {σ:Operand->Value}:∀ (parts:List (Nat × Operand)) (cs:List C) (arr:Array Value),LL E cs arr.toList->(∀ u ∈ arr,u.oneCell'=true)->cs.all zw=true->
  (∀ p ∈ parts,L E (ρ p.2) (σ p.2))->∀ cs',k9 place cs (parts.map fun p=>(p.1,ρ p.2))=some cs'->
  ∃ arr',Instr.fill place arr (parts.map fun p=>(p.1,σ p.2))=some arr'∧LL E cs' arr'.toList∧(∀ u ∈ arr',u.oneCell'=true)∧cs'.all zw=true
 | [],cs,arr,hl,h1,hno,_,cs',h=>by
  simp only [List.map_nil,k9,Option.some.injEq] at h
  subst h
  exact ⟨arr,rfl,hl,h1,hno⟩
 | (i,x)::rest,cs,arr,hl,h1,hno,hp,cs',h=>by
  simp only [List.map_cons,k9] at h
  split at h
  ·cases h
  ·rename_i off size hpl
   split at h
   ·rename_i hcond
    simp only [Bool.and_eq_true,beq_iff_eq,decide_eq_true_eq] at hcond
    obtain ⟨⟨hv,hsz⟩,hfit⟩:=hcond
    have hx:=hp (i,x) (by simp)
    obtain ⟨hll,hone,hnoc⟩:=kI hx hv
    have hlen:(σ x).cells.size=size:=by have:=hll.1;simp at this;omega
    have hal:arr.size=cs.length:=by have:=hl.1;simp at this;omega
    obtain ⟨vs,hvs⟩:∃ vs,vs=(σ x).cells.toList:=⟨_,rfl⟩
    have hvl:vs.length=size:=by rw [hvs];simpa using hlen
    have hfold:=zc1 vs off 0 arr (by omega)
    have hfe:(σ x).cells.zipIdx.foldl (fun cs (p:Value × Nat)=>cs.setIfInBounds (off+p.2) p.1) arr=(vs.zipIdx 0).foldl (fun cs (p:Value × Nat)=>cs.setIfInBounds (off+p.2) p.1) arr:=by
     rw [<- Array.foldl_toList,Array.toList_zipIdx,hvs]
    obtain ⟨arr2,harr2⟩:∃ arr2,arr2=(vs.zipIdx 0).foldl (fun cs (p:Value × Nat)=>cs.setIfInBounds (off+p.2) p.1) arr:=⟨_,rfl⟩
    rw [<- harr2] at hfold hfe
    have hcl:(ρ x).cells.length=size:=hsz
    have hl2:LL E (jg off (ρ x).cells cs) arr2.toList:=by
     refine ⟨by rw [va (by omega)];simp [hfold.1,hal],?_⟩
     intro j c y hc hy
     rw [wQ (by omega)] at hc
     rw [Array.getElem?_toList,hfold.2 j] at hy
     simp only [Nat.add_zero] at hy
     split at hc
     ·rename_i hin
      rw [if_pos (by omega)] at hy
      exact hll.2 _ c y hc (by rw [<- hvs];exact hy)
     ·rename_i hin
      rw [if_neg (by omega)] at hy
      exact hl.2 j c y hc (by simpa using hy)
    have hone2:∀ u ∈ arr2,u.oneCell'=true:=by
     intro u hu
     obtain ⟨j,hj⟩:=Array.mem_iff_getElem?.1 hu
     rw [hfold.2 j] at hj
     split at hj
     ·have:=List.mem_of_getElem? hj
      rw [hvs] at this
      exact hone u (by simpa using this)
     ·exact h1 u (Array.mem_of_getElem? hj)
    have hno2:(jg off (ρ x).cells cs).all zw=true:=by
     rw [List.all_eq_true]
     intro c hc
     unfold jg at hc
     simp only [List.mem_append] at hc
     rcases hc with (hc | hc) | hc
     ·exact List.all_eq_true.1 hno c (List.mem_of_mem_take hc)
     ·exact List.all_eq_true.1 hnoc c hc
     ·exact List.all_eq_true.1 hno c (List.mem_of_mem_drop hc)
    obtain ⟨arr',e1,e2,e3,e4⟩:=zbi rest _ arr2 hl2 hone2 hno2 (fun p hpm=>hp p (by simp [hpm])) cs' h
    refine ⟨arr',?_,e2,e3,e4⟩
    simp only [List.map_cons,Instr.fill,hpl]
    rw [if_neg (by simp [hlen];omega),hfe]
    exact e1
   ·cases h
def zdy (P:Program) (t:TypeId) (parts:List (Nat × C)):Option (List C):=
 match vb P t,P.underlying t with
 | some z,some (.array _ e)=>
  match P.info? e with
  | some ie=>k9 (fun i=>some (i * ie.size,ie.size)) z parts
  | none=>none
 | some z,some (.struct fields)=>
  match fields.toList.mapM (fun f=>(P.info? f.type).map fun i=>(f.offset,i.size)) with
  | some places=>k9 (places.toArray[·]?) z parts
  | none=>none
 | _,_=>none
theorem zP.build (t:TypeId) (parts:Array (Nat × Operand)) (ho:o.op=.build t parts) {cs:List C} (hb:zdy P t (parts.toList.map fun p=>(p.1,ρ p.2))=some cs):zP P o ρ H (.agg cs) H:=fun w E σ hh hl K hk=>by
 have hp:∀ p ∈ parts.toList,L E (ρ p.2) (σ p.2):=fun p hpm=>hl p.2 (by
  simp only [ho,Op.operands]
  exact (List.mem_toArray).2 (List.mem_map.2 ⟨p,hpm,rfl⟩))
 have main:∃ arr,P.built t (parts.map fun (i,x)=>(i,σ x)).toList=some arr∧LL E cs arr.toList∧(∀ u ∈ arr,u.oneCell'=true):=by
  have e0:(parts.map fun (i,x)=>(i,σ x)).toList=parts.toList.map fun p=>(p.1,σ p.2):=by simp
  rw [e0]
  unfold zdy at hb
  split at hb
  ·rename_i z n e hz hu
   split at hb
   ·rename_i ie hie
    obtain ⟨it,zv,h1,h2,h3,h4,h5,h6,h7⟩:=ye hz E
    obtain ⟨arr,a1,a2,a3,a4⟩:=zbi parts.toList z zv.cells h3 h4 h6 hp cs hb
    exact ⟨arr,by simp only [Program.built,h1,hu,h2,hie];exact a1,a2,a3⟩
   ·cases hb
  ·rename_i z fields hz hu
   split at hb
   ·rename_i places hpl
    obtain ⟨it,zv,h1,h2,h3,h4,h5,h6,h7⟩:=ye hz E
    obtain ⟨arr,a1,a2,a3,a4⟩:=zbi parts.toList z zv.cells h3 h4 h6 hp cs hb
    exact ⟨arr,by simp only [Program.built,h1,hu,h2,hpl];exact a1,a2,a3⟩
   ·cases hb
  ·cases hb
 obtain ⟨arr,h1,h2,h3⟩:=main
 have hr:(execOp σ o).run P w=.ok (.value (.agg arr)) w:=by
  unfold execOp
  simp only [ho,Sem.run_bind,run_build w t _ arr h1,Result.andThen_ok]
  rfl
 rw [hr]
 exact hk _ w E hh (.agg cs arr (by simpa using h2.1) (fun i c y e1 e2=>h2.2 i c y e1 (by simpa using e2)) h3) (zL.refl w E H)
theorem zP.len (cl:Call) (ho:o.op=.call cl) (hcl:cl.callee=.builtin .len) (x:Operand) (hx:cl.args= #[x]) {t:TypeId} (ht:cl.argTypes= #[t]) {e:TypeId} (hu:P.underlying t=some (.slice e))
  {n:Nat} (hn:zks (ρ x)=some n):zP P o ρ H (.v (.int .i64 n)) H:=fun w E σ hh hl K hk=>by
 have h0:=hl x (by simp [ho,Op.operands,Call.operands,hcl,hx])
 have hv:∃ a cap,σ x=.slice a n cap:=by
  generalize ρ x=c at *
  generalize σ x=u at *
  cases h0 <;> first | (simp [zks] at hn;done) | (simp only [zks,Option.some.injEq] at hn;subst hn;exact ⟨_,_,rfl⟩)
 obtain ⟨a,cap,hv⟩:=hv
 have hr:(execOp σ o).run P w=.ok (.value (.int .i64 n)) w:=by
  unfold execOp
  simp [ho,resolve,hcl,hx,ht,invoke,builtin,Builtin.len_,hv,run_underlying hu,goInt]
 rw [hr]
 exact hk _ w E hh (.v _ rfl) (zL.refl w E H)
def kh (P:Program) (t:TypeId) (cs:List C) (off:Nat):Option C:=
 match P.underlying t,P.info? t with
 | some d,some i=>if vP d then (if decide (off+i.size<=cs.length) then some (.agg ((cs.drop off).take i.size)) else none) else cs[off]?
 | _,_=>none
theorem yO {E:Env} {w:World} {t:TypeId} {cs:List C} {ys:Array Value} (hll:LL E cs ys.toList) (h1:∀ y ∈ ys,y.oneCell'=true) {off:Nat} {c:C} (hc:kh P t cs off=some c):
  ∃ y,(part t ys off).run P w=.ok y w∧L E c y:=by
 unfold kh at hc
 split at hc
 ·rename_i d i hd hi
  split at hc
  ·rename_i hag
   split at hc
   ·rename_i hlen
    simp only [decide_eq_true_eq] at hlen
    cases hc
    have hy:=hll.1
    simp at hy
    refine ⟨.agg (ys.extract off (off+i.size)),by simp [part,xP hd,hag,qc hi],.agg _ _ (by simp;omega) ?_ ?_⟩
    ·intro k c y hc hy'
     rw [List.getElem?_take] at hc
     split at hc
     ·rename_i hk
      rw [List.getElem?_drop] at hc
      rw [Array.getElem?_extract] at hy'
      split at hy'
      ·exact hll.2 _ c y hc (by simpa using hy')
      ·cases hy'
     ·cases hc
    ·intro y hym
     obtain ⟨k,hk⟩:=Array.mem_iff_getElem?.1 hym
     rw [Array.getElem?_extract] at hk
     split at hk
     ·exact h1 y (Array.mem_of_getElem? hk)
     ·cases hk
   ·cases hc
  ·rename_i hag
   obtain ⟨y,hy,hly⟩:=hll.get hc
   rw [Array.getElem?_toList] at hy
   exact ⟨y,by simp [part,xP hd,hag,hy],hly⟩
 ·cases hc
theorem zP.field (t:TypeId) (x:Operand) (f:Nat) (ho:o.op=.field t x f) {fs:Array Field} {fd:Field} (ht:P.underlying t=some (.struct fs)) (hf:fs[f]?= some fd) {cs:List C} (hx:ρ x=.agg cs) {c:C}
  (hc:kh P fd.type cs fd.offset=some c):zP P o ρ H c H:=fun w E σ hh hl K hk=>by
 have h0:=hl x (by simp [ho,Op.operands])
 rw [hx] at h0
 obtain ⟨ys,hy,hll,h1⟩:∃ ys,σ x=.agg ys∧LL E cs ys.toList∧∀ y ∈ ys,y.oneCell'=true:=by
  generalize σ x=u at *
  cases h0 with
  | agg _ ys h1 h2 h3=>exact ⟨ys,rfl,⟨by simpa using h1,fun i c y e1 e2=>h2 i c y e1 (by simpa using e2)⟩,h3⟩
 obtain ⟨y,hr0,hly⟩:=yO (w:=w) hll h1 hc
 have hr:(execOp σ o).run P w=.ok (.value y) w:=by
  unfold execOp
  simp [ho,Instr.field,run_underlying ht,hf,hy,asAgg,hr0]
 rw [hr]
 exact hk _ w E hh hly (zL.refl w E H)
theorem zP.zgj (t:TypeId) (x y:Operand) (ho:o.op=.index t x y) {n:Nat} {e:TypeId} {i:TypeInfo} (ht:P.underlying t=some (.array n e)) (hi:P.info? e=some i) {cs:List C} (hx:ρ x=.agg cs)
  {k:IntKind} {j:Int} (hy:ρ y=.v (.int k j)) (h0:0<=j) (h1:j < n) {c:C} (hc:kh P e cs (j.toNat * i.size)=some c):zP P o ρ H c H:=fun w E σ hh hl K hk=>by
 have hlx:=hl x (by simp [ho,Op.operands])
 have hly:=hl y (by simp [ho,Op.operands])
 rw [hx] at hlx
 rw [hy] at hly
 obtain ⟨ys,hyx,hll,hone⟩:∃ ys,σ x=.agg ys∧LL E cs ys.toList∧∀ y ∈ ys,y.oneCell'=true:=by
  generalize σ x=u at *
  cases hlx with
  | agg _ ys h1 h2 h3=>exact ⟨ys,rfl,⟨by simpa using h1,fun i c y e1 e2=>h2 i c y e1 (by simpa using e2)⟩,h3⟩
 have hyv:σ y=.int k j:=by generalize σ y=u at *;cases hly;rfl
 obtain ⟨y',hr0,hly'⟩:=yO (w:=w) hll hone hc
 have hr:(execOp σ o).run P w=.ok (.value y') w:=by
  unfold execOp
  simp [ho,Instr.index,asIntOf,hyv,run_underlying ht,hyx,h0,h1,qc hi,hr0]
 rw [hr]
 exact hk _ w E hh hly' (zL.refl w E H)
end
end Go.Ab
namespace Go.Ab
section
variable {P:Program} {o:Oper} {ρ:Operand->C} {H:ze}
def qW (H:ze):C->Option (Nat × List (List C))
 | .lst o sz rows=>if o == 0 || o == 1 then some (sz,rows) else none
 | .sl id hops sz lo len _=>match H[id]?,zy H id hops with
  | some ob,some (sz',rows)=>if (sz' == sz) && (ob.kind == 2) && decide (lo+len<=rows.length) && ((rows.drop lo).take len).all (·.all zw) then some (sz,(rows.drop lo).take len) else none
  | _,_=>none
 | _=>none
structure xD (E:Env) (sz:Nat) (rows:List (List C)) (vals:List Value):Prop where
 len:vals.length=rows.length * sz
 row:∀ r ∈ rows,r.length=sz
 cell:∀ i k c,cellAt rows i k=some c->∃ u,vals[i * sz+k]?= some u∧L E.shut c u
 one:∀ u ∈ vals,u.oneCell'=true
theorem vL {rows:List (List C)} {sz:Nat} (hrow:∀ r ∈ rows,r.length=sz) {i k:Nat} {c:C} (h:cellAt rows i k=some c):i < rows.length∧k < sz:=by
 unfold cellAt at h
 cases hx:rows[i]? with
 | none=>rw [hx] at h;cases h
 | some r=>
  rw [hx] at h
  refine ⟨(List.getElem?_eq_some_iff.1 hx).1,?_⟩
  rw [<- hrow r (List.mem_of_getElem? hx)]
  exact (List.getElem?_eq_some_iff.1 h).1
theorem yj {rows:List (List C)} {sz:Nat} (hrow:∀ r ∈ rows,r.length=sz) {i k:Nat} (hi:i < rows.length) (hk:k < sz):∃ c,cellAt rows i k=some c:=by
 have hr:rows[i]?= some rows[i]:=by simp [hi]
 have hl:=hrow _ (List.mem_of_getElem? hr)
 exact ⟨rows[i][k]'(by omega),by simp only [cellAt,hr,Option.bind_some];exact List.getElem?_eq_getElem (by omega)⟩
theorem vv {sz n j:Nat} (h:j < n * sz):j / sz < n∧j % sz < sz∧j / sz * sz+j % sz=j:=by
 have hsz:0 < sz:=by rcases Nat.eq_zero_or_pos sz with rfl | h' <;> simp_all
 refine ⟨Nat.div_lt_of_lt_mul (by rw [Nat.mul_comm];exact h),Nat.mod_lt _ hsz,?_⟩
 rw [Nat.mul_comm]
 exact Nat.div_add_mod j sz
theorem xD.append {E:Env} {sz:Nat} {rows rows':List (List C)} {vals vals':List Value} (h:xD E sz rows vals) (h':xD E sz rows' vals'):xD E sz (rows++rows') (vals++vals') where
 len:=by rw [List.length_append,List.length_append,h.len,h'.len,Nat.add_mul]
 row r hr:=by rcases List.mem_append.1 hr with hr | hr;exact h.row r hr;exact h'.row r hr
 cell i k c hc:=by
  by_cases hi:i < rows.length
  ·have hc':cellAt rows i k=some c:=by unfold cellAt at hc ⊢;rw [List.getElem?_append_left hi] at hc;exact hc
   obtain ⟨u,hu,hl⟩:=h.cell i k c hc'
   exact ⟨u,by rw [List.getElem?_append_left ((List.getElem?_eq_some_iff.1 hu).1)];exact hu,hl⟩
  ·have hc':cellAt rows' (i - rows.length) k=some c:=by unfold cellAt at hc ⊢;rw [List.getElem?_append_right (by omega)] at hc;exact hc
   obtain ⟨u,hu,hl⟩:=h'.cell _ k c hc'
   refine ⟨u,?_,hl⟩
   have hge:rows.length * sz<=i * sz:=Nat.mul_le_mul_right _ (by omega)
   rw [List.getElem?_append_right (by rw [h.len];omega),h.len]
   have:i * sz+k - rows.length * sz=(i - rows.length) * sz+k:=by rw [Nat.sub_mul];omega
   rw [this]
   exact hu
 one u hu:=by rcases List.mem_append.1 hu with hu | hu;exact h.one u hu;exact h'.one u hu
theorem jl {w:World} {E:Env} (h:zB w E H) {c:C} {y:Value} (hl:L E c y) {sz:Nat} {rows:List (List C)} (hr:qW H c=some (sz,rows)):
  (rows=[]∧y=.slice none 0 0)∨∃ a cap vals,y=.slice (some a) rows.length cap∧rows.length<=cap∧xD E sz rows vals∧(∀ (j:Nat) u,vals[j]?= some u->w.cell? (a.add j)=some u):=by
 cases hl with
 | qP o sz' ho a=>
  simp only [qW] at hr
  split at hr
  ·cases hr
   cases a with
   | none=>exact .inl ⟨rfl,rfl⟩
   | some a=>exact .inr ⟨a,0,[],rfl,Nat.le_refl _,⟨by simp,by simp,by simp [cellAt],by simp⟩,by simp⟩
  ·cases hr
 | lst o sz' rows' b off cap us ho hc hsz hst hL=>
  simp only [qW] at hr
  split at hr
  ·cases hr
   right
   have key:∀ j,j < rows.length * sz->∃ c,cellAt rows (j / sz) (j % sz)=some c∧E.St b (off+j)=some (us (j / sz) (j % sz)):=by
    intro j hj
    obtain ⟨h1,h2,h3⟩:=vv hj
    obtain ⟨c,hcc⟩:=yj hsz h1 h2
    refine ⟨c,hcc,?_⟩
    have hr0:rows[j / sz]?= some rows[j / sz]:=by simp [h1]
    have:=hst (j / sz) _ (j % sz) c hr0 (by unfold cellAt at hcc;rw [hr0] at hcc;exact hcc)
    rw [Nat.add_assoc,h3] at this
    exact this
   refine ⟨_,cap,(List.range (rows.length * sz)).map (fun j=>us (j / sz) (j % sz)),rfl,hc,⟨by simp,hsz,?_,?_⟩,?_⟩
   ·intro i k c hcc
    obtain ⟨h1,h2⟩:=vL hsz hcc
    have hr0:rows[i]?= some rows[i]:=by simp [h1]
    have hlt:i * sz+k < rows.length * sz:=by
     have:(i+1) * sz<=rows.length * sz:=Nat.mul_le_mul_right _ h1
     rw [Nat.add_mul] at this
     omega
    have e1:(i * sz+k) / sz=i:=by rw [Nat.mul_comm,Nat.mul_add_div (by omega),Nat.div_eq_of_lt h2];rfl
    have e2:(i * sz+k) % sz=k:=by rw [Nat.mul_comm,Nat.mul_add_mod,Nat.mod_eq_of_lt h2]
    refine ⟨us i k,by simp [hlt,e1,e2],hL i _ k c hr0 (by unfold cellAt at hcc;rw [hr0] at hcc;exact hcc)⟩
   ·intro u hu
    obtain ⟨j,hj,rfl⟩:=List.mem_map.1 hu
    obtain ⟨c,_,hs⟩:=key j (by simpa using hj)
    exact (h.zG _ _ _ hs).2
   ·intro j u hj
    rw [List.getElem?_map] at hj
    cases hjr:(List.range (rows.length * sz))[j]? with
    | none=>rw [hjr] at hj;cases hj
    | some j'=>
     rw [hjr] at hj
     obtain ⟨hjlt,hj'⟩:=List.getElem?_eq_some_iff.1 hjr
     simp at hj' hjlt
     subst hj'
     cases hj
     obtain ⟨c,_,hs⟩:=key j hjlt
     rw [qH]
     exact (h.zG _ _ _ hs).1
  ·cases hr
 | sl id hops sz' lo len full cap hn hlen hf hf'=>
  simp only [qW] at hr
  split at hr
  rotate_left
  ·cases hr
  rename_i ob sz2 rows2 hob hb
  split at hr
  rotate_left
  ·cases hr
  rename_i hcond
  simp only [Bool.and_eq_true,beq_iff_eq,decide_eq_true_eq,List.all_eq_true] at hcond
  obtain ⟨⟨⟨rfl,hkd⟩,hfit⟩,hno⟩:=hcond
  cases hr
  right
  have hB:=h.blk id ob hops _ rows2 hob hb
  obtain ⟨cur,e,hg,hcs,hcell⟩:=hB.blk
  have hrl:((rows2.drop lo).take len).length=len:=by simp;omega
  have hsub:∀ i k,cellAt ((rows2.drop lo).take len) i k=if i < len then cellAt rows2 (lo+i) k else none:=by
   intro i k
   unfold cellAt
   rw [List.getElem?_take]
   split
   ·rw [List.getElem?_drop]
   ·rfl
  have hrow:∀ r ∈ (rows2.drop lo).take len,r.length=sz:=fun r hr=>hB.row r (List.mem_of_mem_drop (List.mem_of_mem_take hr))
  have key:∀ j,j < len * sz->∃ c u,cellAt ((rows2.drop lo).take len) (j / sz) (j % sz)=some c∧cur[lo * sz+j]?= some u∧L E.shut c u∧u.oneCell'=true:=by
   intro j hj
   obtain ⟨h1,h2,h3⟩:=vv hj
   obtain ⟨c,hcc⟩:=yj hrow (by rw [hrl];exact h1) h2
   have hcc2:=hcc
   rw [hsub,if_pos h1] at hcc2
   obtain ⟨u,hu,ho⟩:=hcell _ _ c hcc2
   have hnc:zw c=true:=by
    unfold cellAt at hcc
    cases hx:((rows2.drop lo).take len)[j / sz]? with
    | none=>rw [hx] at hcc;cases hcc
    | some r=>
     rw [hx] at hcc
     exact hno r (List.mem_of_getElem? hx) c (List.mem_of_getElem? hcc)
   rw [zV.loose hnc] at ho
   refine ⟨c,u,hcc,?_,by simpa [Env.at,hkd] using ho.1,ho.2⟩
   have:(lo+j / sz) * sz+j % sz=lo * sz+j:=by rw [Nat.add_mul];omega
   rw [<- this]
   exact hu
  have hlen2:len=((rows2.drop lo).take len).length:=hrl.symm
  refine ⟨_,cap,(List.range (len * sz)).map (fun j=>cur.getD (lo * sz+j) undef),by rw [<- hlen2],by rw [<- hlen2];exact hlen,⟨by simp [hrl],hrow,?_,?_⟩,?_⟩
  ·intro i k c hcc
   obtain ⟨h1,h2⟩:=vL hrow hcc
   rw [hrl] at h1
   have hlt:i * sz+k < len * sz:=by
    have:(i+1) * sz<=len * sz:=Nat.mul_le_mul_right _ h1
    rw [Nat.add_mul] at this
    omega
   obtain ⟨c',u,h3,h4,h5,_⟩:=key _ hlt
   have e1:(i * sz+k) / sz=i:=by rw [Nat.mul_comm,Nat.mul_add_div (by omega),Nat.div_eq_of_lt h2];rfl
   have e2:(i * sz+k) % sz=k:=by rw [Nat.mul_comm,Nat.mul_add_mod,Nat.mod_eq_of_lt h2]
   rw [e1,e2,hcc] at h3
   cases h3
   refine ⟨u,?_,h5⟩
   simp only [List.getElem?_map,List.getElem?_range hlt,Option.map_some,Array.getD_eq_getD_getElem?,h4,Option.getD_some]
  ·intro u hu
   obtain ⟨j,hj,rfl⟩:=List.mem_map.1 hu
   obtain ⟨c,u,_,h4,_,h6⟩:=key j (by simpa using hj)
   simpa [Array.getD_eq_getD_getElem?,h4] using h6
  ·intro j u hj
   rw [List.getElem?_map] at hj
   cases hjr:(List.range (len * sz))[j]? with
   | none=>rw [hjr] at hj;cases hj
   | some j'=>
    rw [hjr] at hj
    obtain ⟨hjlt,hj'⟩:=List.getElem?_eq_some_iff.1 hjr
    simp at hj' hjlt
    subst hj'
    obtain ⟨c,u',_,h4,_,_⟩:=key j hjlt
    simp only [Option.map_some,Array.getD_eq_getD_getElem?,h4,Option.getD_some,Option.some.injEq] at hj
    subst hj
    rw [qH]
    unfold World.cell?
    rw [hg]
    simpa using h4
 | _=>simp [qW] at hr
end
end Go.Ab
namespace Go.Ab
theorem zz {H:ze}{q:Prop}(h:q):H=H∧q:=⟨rfl,h⟩
theorem dd {p q:Prop}(h:q)(e:q→p:=by intro zh;(conv=>whnf);(try apply zz;conv=>whnf);exact zh):p:=e h
theorem ya {p q:Prop}(h:p):(true=true→p)∧(true=false→q):=⟨fun _=>h,fun h=>nomatch h⟩
theorem yb {p q:Prop}(h:q):(false=true→p)∧(false=false→q):=⟨fun h=>(nomatch h),fun _=>h⟩
end Go.Ab
