/- Joined: CalA CalB CalC CalD CalE CalF CalG CalH CalI CalJ CalK. -/
import Derived.Test.YtdbcjcnfaajpjaaQD
import Derived.Test.YtdbcjcnfaajpjaaQB
import Derived.Test.YtdbcjcnfaajpjaaQC
import Derived.Test.YtdbcjcnfaajpjaaProg
/- Layer 10 (calls), plain: what the program keeps of a trace. -/
namespace Go.Cal
open Go.Ab Go.Hy
set_option linter.unusedVariables false
set_option linter.unusedSectionVars false

section
variable {κ : Type} [DecidableEq κ]

/-- A map to numbers, as its entries stand. -/
def vI (l : List (κ × Int)) : List (κ × Value) := l.map fun kv => (kv.1, encI64 kv.2)
def getI (l : List (κ × Int)) (k : κ) : Int := ((findV l k).bind fun i => (l[i]?).map (·.2)).getD 0

theorem findV_vI (l : List (κ × Int)) (k : κ) : findV (vI l) k = findV l k := by
  unfold findV vI
  rw [List.findIdx?_map]
  rfl
theorem vI_len (l : List (κ × Int)) : (vI l).length = l.length := by simp [vI]
theorem putV_vI (l : List (κ × Int)) (k : κ) (v : Int) : putV (vI l) k (encI64 v) = vI (putV l k v) := by
  unfold putV
  rw [findV_vI]
  cases findV l k with
  | none => simp [vI]
  | some i => simp [vI, List.map_set]
theorem get_vI (l : List (κ × Int)) (k : κ) : (((findV (vI l) k).bind fun i => ((vI l)[i]?).map (·.2)).getD (encI64 0)) = encI64 (getI l k) := by
  rw [findV_vI]
  unfold getI
  cases findV l k with
  | none => rfl
  | some i =>
    simp only [Option.bind_some, vI, List.getElem?_map]
    cases l[i]? with
    | none => rfl
    | some v => rfl

theorem ens_put {υ : Type} (l : List (κ × υ)) (k : κ) (z v : υ) : ∃ h : atV l k < (ensV l k z).length, (ensV l k z).set (atV l k) ((ensV l k z)[atV l k].1, v) = putV l k v := by
  unfold atV ensV putV
  cases hf : findV l k with
  | none =>
    refine ⟨by simp, ?_⟩
    simp
  | some i =>
    obtain ⟨u, hu⟩ := findV_some hf
    have hl := (List.getElem?_eq_some_iff.1 hu).1
    refine ⟨hl, ?_⟩
    have : l[i] = (k, u) := by rw [List.getElem?_eq_getElem hl] at hu; exact Option.some.inj hu
    show l.set i (l[i].1, v) = _
    rw [this]

theorem findV_put {l : List (κ × Int)} {k k' : κ} {v : Int} : getI (putV l k v) k' = if k' = k then v else getI l k' := by
  unfold putV getI
  cases hf : findV l k with
  | none =>
    unfold findV at hf ⊢
    rw [List.findIdx?_eq_none_iff] at hf
    rw [List.findIdx?_append]
    by_cases e : k' = k
    · subst e
      have : l.findIdx? (fun kv => decide (kv.1 = k')) = none := by rw [List.findIdx?_eq_none_iff]; exact hf
      simp [this]
    · rw [if_neg e]
      cases h2 : l.findIdx? (fun kv => decide (kv.1 = k')) with
      | none => simp [Ne.symm e]
      | some i =>
        rw [List.findIdx?_eq_some_iff_getElem] at h2
        obtain ⟨h3, _⟩ := h2
        simp [List.getElem?_append_left h3]
  | some i =>
    obtain ⟨u, hu⟩ := findV_some hf
    have hl := (List.getElem?_eq_some_iff.1 hu).1
    have hli : l[i] = (k, u) := by rw [List.getElem?_eq_getElem hl] at hu; exact Option.some.inj hu
    have same : findV (l.set i (k, v)) k' = findV l k' := by
      unfold findV
      have e1 : (l.set i (k, v)).map Prod.fst = l.map Prod.fst := by
        rw [List.map_set]
        apply List.ext_getElem?
        intro j
        rw [List.getElem?_set]
        split
        · rename_i e2
          subst e2
          rw [if_pos (by simpa using hl), List.getElem?_map, hu]
          rfl
        · rfl
      have e2 : ∀ m : List (κ × Int), m.findIdx? (fun kv => decide (kv.1 = k')) = (m.map Prod.fst).findIdx? (fun x => decide (x = k')) := fun m => by rw [List.findIdx?_map]; rfl
      rw [e2, e2, e1]
    dsimp only
    rw [same]
    by_cases e : k' = k
    · subst e
      rw [hf, if_pos rfl]
      simp [hl]
    · rw [if_neg e]
      cases h2 : findV l k' with
      | none => rfl
      | some j =>
        obtain ⟨u2, hu2⟩ := findV_some h2
        have : i ≠ j := by rintro rfl; rw [hu] at hu2; cases hu2; exact e rfl
        simp [List.getElem?_set, this]

end

/-! ### The book -/

structure Bk where
  l : List Cal
  of_ : List ((Int × Int) × Int)
  busy : List (Int × Int)

def six0 : Six := ⟨0, 0, 0, 0, 0, 0⟩
def ans0 : Ans := ⟨0, 0, 0, 0, 0, 0, 0, six0⟩
def newCal (e : Eve) (i : Int) : Cal := ⟨e.thread, e.op, i, -1, -1, ans0⟩

/-- What an event does to the call that it is of. -/
def markC (e : Eve) (i : Int) (c : Cal) : Cal :=
  let c1 : Cal := if e.point then ⟨c.thread, c.op, c.from_, i, c.to_, c.answer⟩ else c
  if e.done then ⟨c1.thread, c1.op, c1.from_, c1.point, i, e.answer⟩ else c1

def goV (b : Bk) (i : Int) (e : Eve) (k : Int) : Option Bk :=
  if k = 0 ∨ getI b.busy e.thread ≠ k then none
  else some ⟨b.l.modify (k - 1).toNat (markC e i), b.of_, if e.done then putV b.busy e.thread 0 else b.busy⟩

def beginV (b : Bk) (i : Int) (e : Eve) : Bk :=
  let n : Int := b.l.length + 1
  ⟨b.l ++ [newCal e i], putV b.of_ (e.thread, e.op) n, putV b.busy e.thread n⟩

def eventV (b : Bk) (i : Int) (e : Eve) : Option Bk :=
  if e.begin_ then
    if 0 < getI b.of_ (e.thread, e.op) ∨ 0 < getI b.busy e.thread then none else goV (beginV b i e) i e (b.l.length + 1)
  else goV b i e (getI b.of_ (e.thread, e.op))

/-- What is kept names calls. -/
def Bk.ok (b : Bk) : Prop := (∀ k, 0 ≤ getI b.of_ k ∧ getI b.of_ k ≤ b.l.length) ∧ ∀ t, 0 ≤ getI b.busy t ∧ getI b.busy t ≤ b.l.length

theorem go_ok {b b' : Bk} {i k : Int} {e : Eve} (hb : b.ok) (h : goV b i e k = some b') : b'.ok ∧ b'.l.length = b.l.length := by
  unfold goV at h
  split at h
  · cases h
  · cases h
    refine ⟨⟨?_, ?_⟩, ?_⟩
    · simpa using hb.1
    · intro t
      have := hb.2 t
      simp only [List.length_modify]
      split
      · rw [findV_put]
        split
        · omega
        · exact this
      · exact this
    · simp

theorem begin_ok {b : Bk} {i : Int} {e : Eve} (hb : b.ok) : (beginV b i e).ok := by
  refine ⟨fun k => ?_, fun t => ?_⟩
  · have := hb.1 k
    simp only [beginV, findV_put, List.length_append, List.length_singleton]
    split <;> omega
  · have := hb.2 t
    simp only [beginV, findV_put, List.length_append, List.length_singleton]
    split <;> omega

theorem event_ok {b b' : Bk} {i : Int} {e : Eve} (hb : b.ok) (h : eventV b i e = some b') : b'.ok := by
  unfold eventV at h
  split at h
  · split at h
    · cases h
    · exact (go_ok (begin_ok hb) h).1
  · exact (go_ok hb h).1

end Go.Cal

/- Layer 10 (calls): an event written down, walked. -/
namespace Go.Cal
open Go.Ab Go.Proofs Go.Hy
set_option linter.unusedVariables false
set_option maxRecDepth 100000

theorem kInt : KeyT Try.prog 3 encI64 := KeyT.int Try.underlying3
theorem kKey : KeyT Try.prog 70 encII := KeyT.two Try.underlying70 rfl (by decide) Try.underlying3 rfl (by decide) Try.underlying3 (by kernel_rfl) (fun a b => rfl)

theorem agg2_v {E : Env} {a b : Int} {u : Value} (h : L E (.agg [I a, I b]) u) : u = encII (a, b) := by
  cases h with
  | agg _ ys h1 h2 h3 =>
    obtain ⟨l⟩ := ys
    match l, h1 with
    | [x, y], _ =>
      have e1 := h2 0 _ x rfl rfl
      have e2 := h2 1 _ y rfl rfl
      cases e1; cases e2; rfl


theorem modify_at {l : List Cal} {n : Nat} {c : Cal} (h : l[n]? = some c) (f : Cal → Cal) : l.modify n f = l.set n (f c) := modify_set f h
theorem set_enc (l : List Cal) (n : Nat) (c : Cal) : (l.map encCal).set n (encCal c) = (l.set n c).map encCal := by rw [List.map_set]
theorem set_encR {l : List Cal} {n : Nat} {c : Cal} {r : List C} (h : r = encCal c) : (l.map encCal).set n r = (l.set n c).map encCal := by subst h; rw [List.map_set]
theorem get_enc {l : List Cal} {n : Nat} {c : Cal} (h : l[n]? = some c) : (l.map encCal)[n]? = some (encCal c) := by rw [List.getElem?_map, h]; rfl
theorem set_get {l : List Cal} {n : Nat} {c c1 : Cal} (h : l[n]? = some c) : (l.set n c1)[n]? = some c1 := by rw [List.getElem?_set, if_pos rfl, if_pos (List.getElem?_eq_some_iff.1 h).1]

theorem go_none {b : Bk} {i k : Int} {e : Eve} (h : k = 0 ∨ getI b.busy e.thread ≠ k) : goV b i e k = none := by unfold goV; rw [if_pos h]
theorem go_some {b : Bk} {i k : Int} {e : Eve} {c : Cal} (h : ¬ (k = 0 ∨ getI b.busy e.thread ≠ k)) (hc : b.l[(k - 1).toNat]? = some c) : goV b i e k = some ⟨b.l.set (k - 1).toNat (markC e i c), b.of_, if e.done then putV b.busy e.thread 0 else b.busy⟩ := by
  unfold goV; rw [if_neg h, modify_at hc]

theorem eventGo_sound (b1 b2 : Nat) (bk : Bk) (hb : bk.ok) (hl : bk.l.length < 4611686018427387904) (X : Ob) (i : Int) (e : Eve) (he : e.begin_ = false) :
    SoundAt Try.prog 28 [obM b1 (entE encII (vI bk.of_)) (vI bk.of_).length, obM b2 (entE encI64 (vI bk.busy)) (vI bk.busy).length, ⟨1, 58, 3, [[.sl 3 [] 18 0 bk.l.length false, .v (.map (some b1)), .v (.map (some b2))]], 0⟩, ⟨2, 41, 18, (bk.l).map encCal, 0⟩, X] [.ref 2 [] 3 0 0, I i, .agg (encEv e)] (Bo (eventV bk i e).isSome)
      (match eventV bk i e with | some b => [obM b1 (entE encII (vI b.of_)) (vI b.of_).length, obM b2 (entE encI64 (vI b.busy)) (vI b.busy).length, ⟨1, 58, 3, [[.sl 3 [] 18 0 bk.l.length false, .v (.map (some b1)), .v (.map (some b2))]], 0⟩, ⟨2, 41, 18, (b.l).map encCal, 0⟩, X, ⟨1, 49, 23, [encEv e], 0⟩] | none => [obM b1 (entE encII (vI bk.of_)) (vI bk.of_).length, obM b2 (entE encI64 (vI bk.busy)) (vI bk.busy).length, ⟨1, 58, 3, [[.sl 3 [] 18 0 bk.l.length false, .v (.map (some b1)), .v (.map (some b2))]], 0⟩, ⟨2, 41, 18, (bk.l).map encCal, 0⟩, X, ⟨1, 49, 23, [encEv e], 0⟩]) := by
  refine SoundAt.of_wpA (fn := Try.f28) Try.func28 rfl ?_
  have ev : eventV bk i e = goV bk i e (getI bk.of_ (e.thread, e.op)) := by unfold eventV; rw [if_neg (by simp [he])]
  rw [ev]
  conv => whnf
  refine .inl ⟨⟨false, [], [], []⟩, by kernel_rfl, ?_⟩; (conv => whnf)
  refine ⟨_, _, OpV.lookup (id := 0) _ _ _ rfl Try.underlying56 kKey rfl rfl (e.thread, e.op) (fun E u h => agg2_v h) rfl rfl (fun E => by rw [get_vI]; exact .v _ rfl), ?_⟩; (conv => whnf); (try (refine ⟨(rfl : (_ : Heap) = _), ?_⟩; (conv => whnf)))
  have hk := hb.1 (e.thread, e.op)
  generalize getI bk.of_ (e.thread, e.op) = k at *
  refine ⟨fun h => absurd ((he).symm.trans h : false = true) (by decide), fun _ => ?_⟩; (conv => whnf); (try (refine ⟨(rfl : (_ : Heap) = _), ?_⟩; (conv => whnf)))
  refine .inl ⟨⟨false, [], [], []⟩, by kernel_rfl, ?_⟩; (conv => whnf)
  refine ⟨fun h1 => ?_, fun h1 => ?_⟩
  · rw [go_none (.inl (by simpa using h1))]
    (conv => whnf); (try (refine ⟨(rfl : (_ : Heap) = _), ?_⟩; (conv => whnf)))
    exact ⟨.inl rfl, _, .refl _, rfl, rfl⟩
  · (conv => whnf); (try (refine ⟨(rfl : (_ : Heap) = _), ?_⟩; (conv => whnf)))
    refine ⟨_, _, OpV.lookup (id := 1) _ _ _ rfl Try.underlying53 kInt rfl rfl (e.thread) (fun E u h => val_v h) rfl rfl (fun E => by rw [get_vI]; exact .v _ rfl), ?_⟩; (conv => whnf); (try (refine ⟨(rfl : (_ : Heap) = _), ?_⟩; (conv => whnf)))
    refine ⟨fun h2 => ?_, fun h2 => ?_⟩
    · rw [go_none (.inr (by simpa using h2))]
      (conv => whnf); (try (refine ⟨(rfl : (_ : Heap) = _), ?_⟩; (conv => whnf)))
      exact ⟨.inl rfl, _, .refl _, rfl, rfl⟩
    · have h3 : ¬ (k = 0 ∨ getI bk.busy e.thread ≠ k) := by simp at h1 h2; simp [h1, h2]
      have hn : (k - 1).toNat < bk.l.length := by omega
      obtain ⟨c, hc⟩ : ∃ c, bk.l[(k - 1).toNat]? = some c := ⟨_, List.getElem?_eq_getElem hn⟩
      rw [go_some h3 hc]
      (conv => whnf); (try (refine ⟨(rfl : (_ : Heap) = _), ?_⟩; (conv => whnf)))
      rw [i64_ok (by omega) (by omega)]
      refine ⟨by omega, hn, ?_⟩
      (conv => whnf); (try (refine ⟨(rfl : (_ : Heap) = _), ?_⟩; (conv => whnf)))
      generalize hN : (k - 1).toNat = n at *
      have fin : ∀ (X : Prop), X → X := fun _ h => h
      refine ⟨fun h4 => ?_, fun h4 => ?_⟩
      · (conv => whnf); (try (refine ⟨(rfl : (_ : Heap) = _), ?_⟩; (conv => whnf)))
        rw [Nat.zero_add]
        refine ⟨_, get_enc hc, rfl, ?_⟩
        (conv => whnf); (try (refine ⟨(rfl : (_ : Heap) = _), ?_⟩; (conv => whnf)))
        obtain ⟨c1, e1⟩ : ∃ c1 : Cal, c1 = ⟨c.thread, c.op, c.from_, i, c.to_, c.answer⟩ := ⟨_, rfl⟩
        rw [set_encR (l := bk.l) (n := n) (c := c1)]
        rotate_left
        · subst e1; rfl
        have hc1 := set_get (c1 := c1) hc
        generalize hL : bk.l.set n c1 = l1 at *
        have hmk : e.done = false → bk.l.set n (markC e i c) = l1 := fun hd => by rw [← hL, e1]; simp [markC, h4, hd]
        have hmd : e.done = true → bk.l.set n (markC e i c) = l1.set n ⟨c1.thread, c1.op, c1.from_, c1.point, i, e.answer⟩ := fun hd => by rw [← hL, List.set_set, e1]; simp [markC, h4, hd]
        refine ⟨fun h5 => ?_, fun h5 => ?_⟩
        · (conv => whnf); (try (refine ⟨(rfl : (_ : Heap) = _), ?_⟩; (conv => whnf))); refine .inl ⟨⟨false, [4], [5], []⟩, by kernel_rfl, ?_⟩; (conv => whnf); (try rw [Nat.zero_add]); (refine ⟨_, get_enc hc1, rfl, ?_⟩); (conv => whnf); (try (refine ⟨(rfl : (_ : Heap) = _), ?_⟩; (conv => whnf))); (refine ⟨rfl, ?_⟩); (conv => whnf); (try (refine ⟨(rfl : (_ : Heap) = _), ?_⟩; (conv => whnf))); (obtain ⟨c2, e2⟩ : ∃ c2 : Cal, c2 = ⟨c1.thread, c1.op, c1.from_, c1.point, i, c1.answer⟩ := ⟨_, rfl⟩); rw [set_encR (l := l1) (n := n) (c := c2)]; (rotate_left; focus (subst e2; rfl)); (have hc2 := set_get (c1 := c2) hc1); (refine ⟨_, get_enc hc2, rfl, ?_⟩); (conv => whnf); (try (refine ⟨(rfl : (_ : Heap) = _), ?_⟩; (conv => whnf))); (refine ⟨rfl, ?_⟩); (conv => whnf); (try (refine ⟨(rfl : (_ : Heap) = _), ?_⟩; (conv => whnf))); rw [set_encR (l := l1.set n c2) (n := n) (c := ⟨c1.thread, c1.op, c1.from_, c1.point, i, e.answer⟩)]; (rotate_left; focus (subst e2; rfl)); (rw [List.set_set]); refine .inl ⟨⟨false, [], [], []⟩, by kernel_rfl, ?_⟩; (conv => whnf); refine ⟨_, _, OpV.mapUpdate (id := 1) _ _ _ _ (.inl rfl) Try.underlying53 kInt rfl rfl (e.thread) (fun E u h => val_v h) (encI64 0) (fun E u h => val_v h), ?_⟩; (conv => whnf); (try (refine ⟨(rfl : (_ : Heap) = _), ?_⟩; (conv => whnf))); rw [putV_vI]; (rw [hmd h5, if_pos h5]); exact ⟨.inl rfl, _, .refl _, rfl, rfl⟩
        · (conv => whnf); (try (refine ⟨(rfl : (_ : Heap) = _), ?_⟩; (conv => whnf))); (rw [hmk h5, if_neg (by simp [h5])]); exact ⟨.inl rfl, _, .refl _, rfl, rfl⟩
      · have hmk : e.done = false → bk.l.set n (markC e i c) = bk.l := fun hd => by
          have : markC e i c = c := by simp [markC, h4, hd]
          rw [this]
          exact set_self hc
        have hmd : e.done = true → bk.l.set n (markC e i c) = bk.l.set n ⟨c.thread, c.op, c.from_, c.point, i, e.answer⟩ := fun hd => by simp [markC, h4, hd]
        (conv => whnf); (try (refine ⟨(rfl : (_ : Heap) = _), ?_⟩; (conv => whnf)))
        refine ⟨fun h5 => ?_, fun h5 => ?_⟩
        · (conv => whnf); (try (refine ⟨(rfl : (_ : Heap) = _), ?_⟩; (conv => whnf))); refine .inl ⟨⟨false, [4], [5], []⟩, by kernel_rfl, ?_⟩; (conv => whnf); (try rw [Nat.zero_add]); (refine ⟨_, get_enc hc, rfl, ?_⟩); (conv => whnf); (try (refine ⟨(rfl : (_ : Heap) = _), ?_⟩; (conv => whnf))); (refine ⟨rfl, ?_⟩); (conv => whnf); (try (refine ⟨(rfl : (_ : Heap) = _), ?_⟩; (conv => whnf))); (obtain ⟨c2, e2⟩ : ∃ c2 : Cal, c2 = ⟨c.thread, c.op, c.from_, c.point, i, c.answer⟩ := ⟨_, rfl⟩); rw [set_encR (l := bk.l) (n := n) (c := c2)]; (rotate_left; focus (subst e2; rfl)); (have hc2 := set_get (c1 := c2) hc); (refine ⟨_, get_enc hc2, rfl, ?_⟩); (conv => whnf); (try (refine ⟨(rfl : (_ : Heap) = _), ?_⟩; (conv => whnf))); (refine ⟨rfl, ?_⟩); (conv => whnf); (try (refine ⟨(rfl : (_ : Heap) = _), ?_⟩; (conv => whnf))); rw [set_encR (l := bk.l.set n c2) (n := n) (c := ⟨c.thread, c.op, c.from_, c.point, i, e.answer⟩)]; (rotate_left; focus (subst e2; rfl)); (rw [List.set_set]); refine .inl ⟨⟨false, [], [], []⟩, by kernel_rfl, ?_⟩; (conv => whnf); refine ⟨_, _, OpV.mapUpdate (id := 1) _ _ _ _ (.inl rfl) Try.underlying53 kInt rfl rfl (e.thread) (fun E u h => val_v h) (encI64 0) (fun E u h => val_v h), ?_⟩; (conv => whnf); (try (refine ⟨(rfl : (_ : Heap) = _), ?_⟩; (conv => whnf))); rw [putV_vI]; (rw [hmd h5, if_pos h5]); exact ⟨.inl rfl, _, .refl _, rfl, rfl⟩
        · (conv => whnf); (try (refine ⟨(rfl : (_ : Heap) = _), ?_⟩; (conv => whnf))); (rw [hmk h5, if_neg (by simp [h5])]); exact ⟨.inl rfl, _, .refl _, rfl, rfl⟩

end Go.Cal

/- Layer 10 (calls): an event that begins a call, walked. -/
namespace Go.Cal
open Go.Ab Go.Proofs Go.Hy
set_option linter.unusedVariables false
set_option maxRecDepth 100000


theorem app_encR {l : List Cal} {c : Cal} {r : List C} (h : r = encCal c) : l.map encCal ++ [r] = (l ++ [c]).map encCal := by subst h; rw [List.map_append]; rfl
theorem enc_own (l : List Cal) : (l.map encCal).all (·.all noOwn) = true := by
  rw [List.all_eq_true]
  intro r hr
  obtain ⟨c, _, rfl⟩ := List.mem_map.1 hr
  rfl

theorem eventBegin_sound (b1 b2 : Nat) (bk : Bk) (hb : bk.ok) (hl : bk.l.length < 900000000000) (X : Ob) (i : Int) (e : Eve) (he : e.begin_ = true) :
    SoundAt Try.prog 28 [obM b1 (entE encII (vI bk.of_)) (vI bk.of_).length, obM b2 (entE encI64 (vI bk.busy)) (vI bk.busy).length, ⟨1, 58, 3, [[.sl 3 [] 18 0 bk.l.length false, .v (.map (some b1)), .v (.map (some b2))]], 0⟩, ⟨2, 41, 18, (bk.l).map encCal, 0⟩, X] [.ref 2 [] 3 0 0, I i, .agg (encEv e)] (Bo (eventV bk i e).isSome)
      (match eventV bk i e with | some b => [obM b1 (entE encII (vI b.of_)) (vI b.of_).length, obM b2 (entE encI64 (vI b.busy)) (vI b.busy).length, ⟨1, 58, 3, [[.sl 6 [] 18 0 (bk.l.length + 1) false, .v (.map (some b1)), .v (.map (some b2))]], 0⟩, ⟨0, 41, 18, bk.l.map encCal, 0⟩, X, ⟨1, 49, 23, [encEv e], 0⟩, ⟨2, 41, 18, (b.l).map encCal, 0⟩] | none => [obM b1 (entE encII (vI bk.of_)) (vI bk.of_).length, obM b2 (entE encI64 (vI bk.busy)) (vI bk.busy).length, ⟨1, 58, 3, [[.sl 3 [] 18 0 bk.l.length false, .v (.map (some b1)), .v (.map (some b2))]], 0⟩, ⟨2, 41, 18, (bk.l).map encCal, 0⟩, X, ⟨1, 49, 23, [encEv e], 0⟩]) := by
  refine SoundAt.of_wpA (fn := Try.f28) Try.func28 rfl ?_
  have hlm : (bk.l.map encCal).length = bk.l.length := List.length_map ..
  conv => whnf
  refine .inl ⟨⟨false, [], [], []⟩, by kernel_rfl, ?_⟩; (conv => whnf)
  refine ⟨_, _, OpV.lookup (id := 0) _ _ _ rfl Try.underlying56 kKey rfl rfl (e.thread, e.op) (fun E u h => agg2_v h) rfl rfl (fun E => by rw [get_vI]; exact .v _ rfl), ?_⟩; (conv => whnf); (try (refine ⟨(rfl : (_ : Heap) = _), ?_⟩; (conv => whnf)))
  refine ⟨fun _ => ?_, fun h => absurd ((he).symm.trans h : true = false) (by decide)⟩; (conv => whnf); (try (refine ⟨(rfl : (_ : Heap) = _), ?_⟩; (conv => whnf)))
  refine .inl ⟨⟨false, [], [], []⟩, by kernel_rfl, ?_⟩; (conv => whnf)
  have evno : 0 < getI bk.of_ (e.thread, e.op) ∨ 0 < getI bk.busy e.thread → eventV bk i e = none := fun h => by unfold eventV; rw [if_pos he, if_pos h]
  refine ⟨fun h1 => ?_, fun h1 => ?_⟩
  · rw [evno (.inl (by simpa using h1))]
    (conv => whnf); (try (refine ⟨(rfl : (_ : Heap) = _), ?_⟩; (conv => whnf)))
    exact ⟨.inl rfl, _, .refl _, rfl, rfl⟩
  · (conv => whnf); (try (refine ⟨(rfl : (_ : Heap) = _), ?_⟩; (conv => whnf)))
    refine ⟨_, _, OpV.lookup (id := 1) _ _ _ rfl Try.underlying53 kInt rfl rfl (e.thread) (fun E u h => val_v h) rfl rfl (fun E => by rw [get_vI]; exact .v _ rfl), ?_⟩; (conv => whnf); (try (refine ⟨(rfl : (_ : Heap) = _), ?_⟩; (conv => whnf)))
    refine ⟨fun h2 => ?_, fun h2 => ?_⟩
    · rw [evno (.inr (by simpa using h2))]
      (conv => whnf); (try (refine ⟨(rfl : (_ : Heap) = _), ?_⟩; (conv => whnf)))
      exact ⟨.inl rfl, _, .refl _, rfl, rfl⟩
    · have hno : ¬ (0 < getI bk.of_ (e.thread, e.op) ∨ 0 < getI bk.busy e.thread) := by simp at h1 h2; omega
      obtain ⟨l0, hl0⟩ : ∃ l0, l0 = bk.l ++ [⟨e.thread, e.op, i, -1, -1, ans0⟩] := ⟨_, rfl⟩
      have ev : eventV bk i e = goV ⟨l0, putV bk.of_ (e.thread, e.op) ((bk.l.length : Int) + 1), putV bk.busy e.thread ((bk.l.length : Int) + 1)⟩ i e ((bk.l.length : Int) + 1) := by unfold eventV; rw [if_pos he, if_neg hno, hl0]; rfl
      have hbz : getI (putV bk.busy e.thread ((bk.l.length : Int) + 1)) e.thread = (bk.l.length : Int) + 1 := by rw [findV_put, if_pos rfl]
      obtain ⟨c, hce⟩ : ∃ c : Cal, c = ⟨e.thread, e.op, i, -1, -1, ans0⟩ := ⟨_, rfl⟩
      have hc : l0[((bk.l.length : Int) + 1 - 1).toNat]? = some c := by
        have : ((bk.l.length : Int) + 1 - 1).toNat = bk.l.length := by omega
        rw [this, hl0, hce]
        simp
      rw [ev, go_some (by rw [hbz]; omega) hc]
      (conv => whnf); (try (refine ⟨(rfl : (_ : Heap) = _), ?_⟩; (conv => whnf)))
      refine .inl ⟨⟨false, [], [], []⟩, by kernel_rfl, ?_⟩; (conv => whnf)
      refine ⟨hlm, enc_own _, by simp [maxLen]; omega, by show _ * 144 ≤ _; simp; omega, ?_⟩
      (conv => whnf); (try (refine ⟨(rfl : (_ : Heap) = _), ?_⟩; (conv => whnf)))
      rw [app_encR (l := bk.l) (c := ⟨e.thread, e.op, i, -1, -1, ans0⟩)]
      rotate_left
      · rfl
      rw [← hl0]
      have e1 : bk.l.length + ([].length (α := List C) + 1) = bk.l.length + 1 := rfl
      refine .inl ⟨⟨false, [3, 5, 7, 12, 14], [2, 5], []⟩, by kernel_rfl, ?_⟩; (conv => whnf)
      refine ⟨_, _, OpV.mapEntry (id := 0) _ _ _ rfl Try.underlying56 kKey rfl rfl ((e.thread, e.op)) (fun E u h => agg2_v h) rfl rfl, ?_⟩; (conv => whnf); (try (refine ⟨(rfl : (_ : Heap) = _), ?_⟩; (conv => whnf))); (refine ⟨rfl, rfl, ?_⟩); (conv => whnf); (try (refine ⟨(rfl : (_ : Heap) = _), ?_⟩; (conv => whnf)))
      (obtain ⟨hi0, hset0⟩ := ens_put (vI bk.of_) (e.thread, e.op) (encI64 0) (encI64 ((bk.l.length : Int) + 1))); (refine ⟨_, _, OpV.entryStore (id := 0) _ _ _ _ rfl rfl rfl rfl hi0 (encI64 ((bk.l.length : Int) + 1)) (fun E u h => val_v h), ?_⟩); (conv => whnf); (try (refine ⟨(rfl : (_ : Heap) = _), ?_⟩; (conv => whnf))); (refine ⟨rfl, rfl, ?_⟩); (conv => whnf); (try (refine ⟨(rfl : (_ : Heap) = _), ?_⟩; (conv => whnf))); rw [hset0, putV_vI]
      refine ⟨_, _, OpV.mapEntry (id := 1) _ _ _ rfl Try.underlying53 kInt rfl rfl (e.thread) (fun E u h => val_v h) rfl rfl, ?_⟩; (conv => whnf); (try (refine ⟨(rfl : (_ : Heap) = _), ?_⟩; (conv => whnf))); (refine ⟨rfl, rfl, ?_⟩); (conv => whnf); (try (refine ⟨(rfl : (_ : Heap) = _), ?_⟩; (conv => whnf)))
      (obtain ⟨hi1, hset1⟩ := ens_put (vI bk.busy) e.thread (encI64 0) (encI64 ((bk.l.length : Int) + 1))); (refine ⟨_, _, OpV.entryStore (id := 1) _ _ _ _ rfl rfl rfl rfl hi1 (encI64 ((bk.l.length : Int) + 1)) (fun E u h => val_v h), ?_⟩); (conv => whnf); (try (refine ⟨(rfl : (_ : Heap) = _), ?_⟩; (conv => whnf))); (refine ⟨rfl, rfl, ?_⟩); (conv => whnf); (try (refine ⟨(rfl : (_ : Heap) = _), ?_⟩; (conv => whnf))); rw [hset1, putV_vI]
      refine .inl ⟨⟨false, [], [], []⟩, by kernel_rfl, ?_⟩; (conv => whnf)
      refine ⟨fun h => absurd h (by simp; omega), fun _ => ?_⟩
      (conv => whnf); (try (refine ⟨(rfl : (_ : Heap) = _), ?_⟩; (conv => whnf)))
      refine ⟨_, _, OpV.lookup (id := 1) _ _ _ rfl Try.underlying53 kInt rfl rfl (e.thread) (fun E u h => val_v h) rfl rfl (fun E => by rw [get_vI]; exact .v _ rfl), ?_⟩; (conv => whnf); (try (refine ⟨(rfl : (_ : Heap) = _), ?_⟩; (conv => whnf)))
      refine ⟨fun h => absurd h (by rw [findV_put, if_pos rfl]; simp), fun _ => ?_⟩
      (conv => whnf); (try (refine ⟨(rfl : (_ : Heap) = _), ?_⟩; (conv => whnf)))
      have ek : ((bk.l.length + (([] : List (List C)).length + 1) : Nat) : Int) = (bk.l.length : Int) + 1 := by simp
      rw [ek, i64_ok (by omega) (by omega)]
      refine ⟨by omega, by simp, ?_⟩
      (conv => whnf); (try (refine ⟨(rfl : (_ : Heap) = _), ?_⟩; (conv => whnf)))
      generalize hN : ((bk.l.length : Int) + 1 - 1).toNat = n at *
      refine ⟨fun h4 => ?_, fun h4 => ?_⟩
      · (conv => whnf); (try (refine ⟨(rfl : (_ : Heap) = _), ?_⟩; (conv => whnf)))
        rw [Nat.zero_add]
        refine ⟨_, get_enc hc, rfl, ?_⟩
        (conv => whnf); (try (refine ⟨(rfl : (_ : Heap) = _), ?_⟩; (conv => whnf)))
        obtain ⟨c1, e1⟩ : ∃ c1 : Cal, c1 = ⟨c.thread, c.op, c.from_, i, c.to_, c.answer⟩ := ⟨_, rfl⟩
        rw [set_encR (l := l0) (n := n) (c := c1)]
        rotate_left
        · subst e1; rfl
        have hc1 := set_get (c1 := c1) hc
        generalize hL : l0.set n c1 = l1 at *
        have hmk : e.done = false → l0.set n (markC e i c) = l1 := fun hd => by rw [← hL, e1]; simp [markC, h4, hd]
        have hmd : e.done = true → l0.set n (markC e i c) = l1.set n ⟨c1.thread, c1.op, c1.from_, c1.point, i, e.answer⟩ := fun hd => by rw [← hL, List.set_set, e1]; simp [markC, h4, hd]
        refine ⟨fun h5 => ?_, fun h5 => ?_⟩
        · (conv => whnf); (try (refine ⟨(rfl : (_ : Heap) = _), ?_⟩; (conv => whnf))); refine .inl ⟨⟨false, [4], [5], []⟩, by kernel_rfl, ?_⟩; (conv => whnf); (try rw [Nat.zero_add]); (refine ⟨_, get_enc hc1, rfl, ?_⟩); (conv => whnf); (try (refine ⟨(rfl : (_ : Heap) = _), ?_⟩; (conv => whnf))); (refine ⟨rfl, ?_⟩); (conv => whnf); (try (refine ⟨(rfl : (_ : Heap) = _), ?_⟩; (conv => whnf))); (obtain ⟨c2, e2⟩ : ∃ c2 : Cal, c2 = ⟨c1.thread, c1.op, c1.from_, c1.point, i, c1.answer⟩ := ⟨_, rfl⟩); rw [set_encR (l := l1) (n := n) (c := c2)]; (rotate_left; focus (subst e2; rfl)); (have hc2 := set_get (c1 := c2) hc1); (refine ⟨_, get_enc hc2, rfl, ?_⟩); (conv => whnf); (try (refine ⟨(rfl : (_ : Heap) = _), ?_⟩; (conv => whnf))); (refine ⟨rfl, ?_⟩); (conv => whnf); (try (refine ⟨(rfl : (_ : Heap) = _), ?_⟩; (conv => whnf))); rw [set_encR (l := l1.set n c2) (n := n) (c := ⟨c1.thread, c1.op, c1.from_, c1.point, i, e.answer⟩)]; (rotate_left; focus (subst e2; rfl)); (rw [List.set_set]); refine .inl ⟨⟨false, [], [], []⟩, by kernel_rfl, ?_⟩; (conv => whnf); refine ⟨_, _, OpV.mapUpdate (id := 1) _ _ _ _ (.inl rfl) Try.underlying53 kInt rfl rfl (e.thread) (fun E u h => val_v h) (encI64 0) (fun E u h => val_v h), ?_⟩; (conv => whnf); (try (refine ⟨(rfl : (_ : Heap) = _), ?_⟩; (conv => whnf))); rw [putV_vI]; (rw [hmd h5, if_pos h5]); exact ⟨.inl rfl, _, .refl _, rfl, rfl⟩
        · (conv => whnf); (try (refine ⟨(rfl : (_ : Heap) = _), ?_⟩; (conv => whnf))); (rw [hmk h5, if_neg (by simp [h5])]); exact ⟨.inl rfl, _, .refl _, rfl, rfl⟩
      · have hmk : e.done = false → l0.set n (markC e i c) = l0 := fun hd => by
          have : markC e i c = c := by simp [markC, h4, hd]
          rw [this]
          exact set_self hc
        have hmd : e.done = true → l0.set n (markC e i c) = l0.set n ⟨c.thread, c.op, c.from_, c.point, i, e.answer⟩ := fun hd => by simp [markC, h4, hd]
        (conv => whnf); (try (refine ⟨(rfl : (_ : Heap) = _), ?_⟩; (conv => whnf)))
        refine ⟨fun h5 => ?_, fun h5 => ?_⟩
        · (conv => whnf); (try (refine ⟨(rfl : (_ : Heap) = _), ?_⟩; (conv => whnf))); refine .inl ⟨⟨false, [4], [5], []⟩, by kernel_rfl, ?_⟩; (conv => whnf); (try rw [Nat.zero_add]); (refine ⟨_, get_enc hc, rfl, ?_⟩); (conv => whnf); (try (refine ⟨(rfl : (_ : Heap) = _), ?_⟩; (conv => whnf))); (refine ⟨rfl, ?_⟩); (conv => whnf); (try (refine ⟨(rfl : (_ : Heap) = _), ?_⟩; (conv => whnf))); (obtain ⟨c2, e2⟩ : ∃ c2 : Cal, c2 = ⟨c.thread, c.op, c.from_, c.point, i, c.answer⟩ := ⟨_, rfl⟩); rw [set_encR (l := l0) (n := n) (c := c2)]; (rotate_left; focus (subst e2; rfl)); (have hc2 := set_get (c1 := c2) hc); (refine ⟨_, get_enc hc2, rfl, ?_⟩); (conv => whnf); (try (refine ⟨(rfl : (_ : Heap) = _), ?_⟩; (conv => whnf))); (refine ⟨rfl, ?_⟩); (conv => whnf); (try (refine ⟨(rfl : (_ : Heap) = _), ?_⟩; (conv => whnf))); rw [set_encR (l := l0.set n c2) (n := n) (c := ⟨c.thread, c.op, c.from_, c.point, i, e.answer⟩)]; (rotate_left; focus (subst e2; rfl)); (rw [List.set_set]); refine .inl ⟨⟨false, [], [], []⟩, by kernel_rfl, ?_⟩; (conv => whnf); refine ⟨_, _, OpV.mapUpdate (id := 1) _ _ _ _ (.inl rfl) Try.underlying53 kInt rfl rfl (e.thread) (fun E u h => val_v h) (encI64 0) (fun E u h => val_v h), ?_⟩; (conv => whnf); (try (refine ⟨(rfl : (_ : Heap) = _), ?_⟩; (conv => whnf))); rw [putV_vI]; (rw [hmd h5, if_pos h5]); exact ⟨.inl rfl, _, .refl _, rfl, rfl⟩
        · (conv => whnf); (try (refine ⟨(rfl : (_ : Heap) = _), ?_⟩; (conv => whnf))); (rw [hmk h5, if_neg (by simp [h5])]); exact ⟨.inl rfl, _, .refl _, rfl, rfl⟩

end Go.Cal

/- Layer 10 (calls): a trace's first event, walked. -/
namespace Go.Cal
open Go.Ab Go.Proofs Go.Hy
set_option linter.unusedVariables false
set_option maxRecDepth 100000


abbrev bk0 : Bk := ⟨[], [], []⟩
theorem get0 {κ : Type} [DecidableEq κ] (k : κ) : getI ([] : List (κ × Int)) k = 0 := rfl

theorem app_nilR {c : Cal} {r : List C} (h : r = encCal c) : ([] : List (List C)) ++ [r] = [c].map encCal := by subst h; rfl

theorem eventFirstNo_sound (b1 b2 : Nat) (X : Ob) (i : Int) (e : Eve) (he : e.begin_ = false) :
    SoundAt Try.prog 28 [obM b1 (entE encII (vI bk0.of_)) (vI bk0.of_).length, obM b2 (entE encI64 (vI bk0.busy)) (vI bk0.busy).length, ⟨1, 58, 3, [[.lst 1 0 [], .v (.map (some b1)), .v (.map (some b2))]], 0⟩, X] [.ref 2 [] 3 0 0, I i, .agg (encEv e)] (Bo false) [obM b1 (entE encII (vI bk0.of_)) (vI bk0.of_).length, obM b2 (entE encI64 (vI bk0.busy)) (vI bk0.busy).length, ⟨1, 58, 3, [[.lst 1 0 [], .v (.map (some b1)), .v (.map (some b2))]], 0⟩, X, ⟨1, 49, 23, [encEv e], 0⟩] := by
  refine SoundAt.of_wpA (fn := Try.f28) Try.func28 rfl ?_
  conv => whnf
  refine .inl ⟨⟨false, [], [], []⟩, by kernel_rfl, ?_⟩; (conv => whnf)
  refine ⟨_, _, OpV.lookup (id := 0) _ _ _ rfl Try.underlying56 kKey rfl rfl (e.thread, e.op) (fun E u h => agg2_v h) rfl rfl (fun E => by rw [get_vI]; exact .v _ rfl), ?_⟩; (conv => whnf); (try (refine ⟨(rfl : (_ : Heap) = _), ?_⟩; (conv => whnf)))
  refine ⟨fun h => absurd ((he).symm.trans h : false = true) (by decide), fun _ => ?_⟩; (conv => whnf); (try (refine ⟨(rfl : (_ : Heap) = _), ?_⟩; (conv => whnf)))
  refine .inl ⟨⟨false, [], [], []⟩, by kernel_rfl, ?_⟩; (conv => whnf)
  refine ⟨fun _ => ?_, fun h => absurd h (by rw [get0]; decide)⟩
  (conv => whnf); (try (refine ⟨(rfl : (_ : Heap) = _), ?_⟩; (conv => whnf)))
  exact ⟨.inl rfl, _, .refl _, rfl, rfl⟩

theorem eventFirst_sound (b1 b2 : Nat) (X : Ob) (i : Int) (e : Eve) (he : e.begin_ = true) :
    SoundAt Try.prog 28 [obM b1 (entE encII (vI bk0.of_)) (vI bk0.of_).length, obM b2 (entE encI64 (vI bk0.busy)) (vI bk0.busy).length, ⟨1, 58, 3, [[.lst 1 0 [], .v (.map (some b1)), .v (.map (some b2))]], 0⟩, X] [.ref 2 [] 3 0 0, I i, .agg (encEv e)] (Bo true)
      (match eventV bk0 i e with | some b => [obM b1 (entE encII (vI b.of_)) (vI b.of_).length, obM b2 (entE encI64 (vI b.busy)) (vI b.busy).length, ⟨1, 58, 3, [[.sl 5 [] 18 0 1 false, .v (.map (some b1)), .v (.map (some b2))]], 0⟩, X, ⟨1, 49, 23, [encEv e], 0⟩, ⟨2, 41, 18, (b.l).map encCal, 0⟩] | none => []) := by
  refine SoundAt.of_wpA (fn := Try.f28) Try.func28 rfl ?_
  conv => whnf
  refine .inl ⟨⟨false, [], [], []⟩, by kernel_rfl, ?_⟩; (conv => whnf)
  refine ⟨_, _, OpV.lookup (id := 0) _ _ _ rfl Try.underlying56 kKey rfl rfl (e.thread, e.op) (fun E u h => agg2_v h) rfl rfl (fun E => by rw [get_vI]; exact .v _ rfl), ?_⟩; (conv => whnf); (try (refine ⟨(rfl : (_ : Heap) = _), ?_⟩; (conv => whnf)))
  refine ⟨fun _ => ?_, fun h => absurd ((he).symm.trans h : true = false) (by decide)⟩; (conv => whnf); (try (refine ⟨(rfl : (_ : Heap) = _), ?_⟩; (conv => whnf)))
  refine .inl ⟨⟨false, [], [], []⟩, by kernel_rfl, ?_⟩; (conv => whnf)
  refine ⟨fun h => absurd h (by rw [get0]; decide), fun _ => ?_⟩
  · (conv => whnf); (try (refine ⟨(rfl : (_ : Heap) = _), ?_⟩; (conv => whnf)))
    refine ⟨_, _, OpV.lookup (id := 1) _ _ _ rfl Try.underlying53 kInt rfl rfl (e.thread) (fun E u h => val_v h) rfl rfl (fun E => by rw [get_vI]; exact .v _ rfl), ?_⟩; (conv => whnf); (try (refine ⟨(rfl : (_ : Heap) = _), ?_⟩; (conv => whnf)))
    refine ⟨fun h => absurd h (by rw [get0]; decide), fun _ => ?_⟩
    · have hno : ¬ (0 < getI bk0.of_ (e.thread, e.op) ∨ 0 < getI bk0.busy e.thread) := by rw [get0, get0]; decide
      obtain ⟨l0, hl0⟩ : ∃ l0 : List Cal, l0 = [⟨e.thread, e.op, i, -1, -1, ans0⟩] := ⟨_, rfl⟩
      have ev : eventV bk0 i e = goV ⟨l0, putV bk0.of_ (e.thread, e.op) (1 : Int), putV bk0.busy e.thread (1 : Int)⟩ i e (1 : Int) := by unfold eventV; rw [if_pos he, if_neg hno, hl0]; rfl
      have hbz : getI (putV bk0.busy e.thread (1 : Int)) e.thread = 1 := by rw [findV_put, if_pos rfl]
      obtain ⟨c, hce⟩ : ∃ c : Cal, c = ⟨e.thread, e.op, i, -1, -1, ans0⟩ := ⟨_, rfl⟩
      have hc : l0[((1 : Int) - 1).toNat]? = some c := by
        have : ((1 : Int) - 1).toNat = 0 := by omega
        rw [this, hl0, hce]
        simp
      rw [ev, go_some (by rw [hbz]; omega) hc]
      (conv => whnf); (try (refine ⟨(rfl : (_ : Heap) = _), ?_⟩; (conv => whnf)))
      refine .inl ⟨⟨false, [], [], []⟩, by kernel_rfl, ?_⟩; (conv => whnf)
      refine .inr ⟨.inl rfl, by simp [maxLen], by show _ * 144 ≤ _; simp, ?_⟩
      (conv => whnf); (try (refine ⟨(rfl : (_ : Heap) = _), ?_⟩; (conv => whnf)))
      rw [app_nilR (c := ⟨e.thread, e.op, i, -1, -1, ans0⟩)]
      rotate_left
      · rfl
      rw [← hl0]
      have e1 : 0 + ([].length (α := List C) + 1) = 0 + 1 := rfl
      refine .inl ⟨⟨false, [3, 5, 7, 12, 14], [2, 4], []⟩, by kernel_rfl, ?_⟩; (conv => whnf)
      refine ⟨_, _, OpV.mapEntry (id := 0) _ _ _ rfl Try.underlying56 kKey rfl rfl ((e.thread, e.op)) (fun E u h => agg2_v h) rfl rfl, ?_⟩; (conv => whnf); (try (refine ⟨(rfl : (_ : Heap) = _), ?_⟩; (conv => whnf))); (refine ⟨rfl, rfl, ?_⟩); (conv => whnf); (try (refine ⟨(rfl : (_ : Heap) = _), ?_⟩; (conv => whnf)))
      (obtain ⟨hi0, hset0⟩ := ens_put (vI bk0.of_) (e.thread, e.op) (encI64 0) (encI64 (1 : Int))); (refine ⟨_, _, OpV.entryStore (id := 0) _ _ _ _ rfl rfl rfl rfl hi0 (encI64 (1 : Int)) (fun E u h => val_v h), ?_⟩); (conv => whnf); (try (refine ⟨(rfl : (_ : Heap) = _), ?_⟩; (conv => whnf))); (refine ⟨rfl, rfl, ?_⟩); (conv => whnf); (try (refine ⟨(rfl : (_ : Heap) = _), ?_⟩; (conv => whnf))); rw [hset0, putV_vI]
      refine ⟨_, _, OpV.mapEntry (id := 1) _ _ _ rfl Try.underlying53 kInt rfl rfl (e.thread) (fun E u h => val_v h) rfl rfl, ?_⟩; (conv => whnf); (try (refine ⟨(rfl : (_ : Heap) = _), ?_⟩; (conv => whnf))); (refine ⟨rfl, rfl, ?_⟩); (conv => whnf); (try (refine ⟨(rfl : (_ : Heap) = _), ?_⟩; (conv => whnf)))
      (obtain ⟨hi1, hset1⟩ := ens_put (vI bk0.busy) e.thread (encI64 0) (encI64 (1 : Int))); (refine ⟨_, _, OpV.entryStore (id := 1) _ _ _ _ rfl rfl rfl rfl hi1 (encI64 (1 : Int)) (fun E u h => val_v h), ?_⟩); (conv => whnf); (try (refine ⟨(rfl : (_ : Heap) = _), ?_⟩; (conv => whnf))); (refine ⟨rfl, rfl, ?_⟩); (conv => whnf); (try (refine ⟨(rfl : (_ : Heap) = _), ?_⟩; (conv => whnf))); rw [hset1, putV_vI]
      refine .inl ⟨⟨false, [], [], []⟩, by kernel_rfl, ?_⟩; (conv => whnf)
      refine ⟨fun h => absurd h (by simp), fun _ => ?_⟩
      (conv => whnf); (try (refine ⟨(rfl : (_ : Heap) = _), ?_⟩; (conv => whnf)))
      refine ⟨_, _, OpV.lookup (id := 1) _ _ _ rfl Try.underlying53 kInt rfl rfl (e.thread) (fun E u h => val_v h) rfl rfl (fun E => by rw [get_vI]; exact .v _ rfl), ?_⟩; (conv => whnf); (try (refine ⟨(rfl : (_ : Heap) = _), ?_⟩; (conv => whnf)))
      refine ⟨fun h => absurd h (by rw [findV_put, if_pos rfl]; simp), fun _ => ?_⟩
      (conv => whnf); (try (refine ⟨(rfl : (_ : Heap) = _), ?_⟩; (conv => whnf)))
      have ek : (((([] : List (List C)).length + (([] : List (List C)).length + 1)) : Nat) : Int) = 1 := by simp
      rw [ek, i64_ok (by omega) (by omega)]
      refine ⟨by omega, by simp, ?_⟩
      (conv => whnf); (try (refine ⟨(rfl : (_ : Heap) = _), ?_⟩; (conv => whnf)))
      generalize hN : ((1 : Int) - 1).toNat = n at *
      refine ⟨fun h4 => ?_, fun h4 => ?_⟩
      · (conv => whnf); (try (refine ⟨(rfl : (_ : Heap) = _), ?_⟩; (conv => whnf)))
        rw [Nat.zero_add]
        refine ⟨_, get_enc hc, rfl, ?_⟩
        (conv => whnf); (try (refine ⟨(rfl : (_ : Heap) = _), ?_⟩; (conv => whnf)))
        obtain ⟨c1, e1⟩ : ∃ c1 : Cal, c1 = ⟨c.thread, c.op, c.from_, i, c.to_, c.answer⟩ := ⟨_, rfl⟩
        rw [set_encR (l := l0) (n := n) (c := c1)]
        rotate_left
        · subst e1; rfl
        have hc1 := set_get (c1 := c1) hc
        generalize hL : l0.set n c1 = l1 at *
        have hmk : e.done = false → l0.set n (markC e i c) = l1 := fun hd => by rw [← hL, e1]; simp [markC, h4, hd]
        have hmd : e.done = true → l0.set n (markC e i c) = l1.set n ⟨c1.thread, c1.op, c1.from_, c1.point, i, e.answer⟩ := fun hd => by rw [← hL, List.set_set, e1]; simp [markC, h4, hd]
        refine ⟨fun h5 => ?_, fun h5 => ?_⟩
        · (conv => whnf); (try (refine ⟨(rfl : (_ : Heap) = _), ?_⟩; (conv => whnf))); refine .inl ⟨⟨false, [4], [4], []⟩, by kernel_rfl, ?_⟩; (conv => whnf); (try rw [Nat.zero_add]); (refine ⟨_, get_enc hc1, rfl, ?_⟩); (conv => whnf); (try (refine ⟨(rfl : (_ : Heap) = _), ?_⟩; (conv => whnf))); (refine ⟨rfl, ?_⟩); (conv => whnf); (try (refine ⟨(rfl : (_ : Heap) = _), ?_⟩; (conv => whnf))); (obtain ⟨c2, e2⟩ : ∃ c2 : Cal, c2 = ⟨c1.thread, c1.op, c1.from_, c1.point, i, c1.answer⟩ := ⟨_, rfl⟩); rw [set_encR (l := l1) (n := n) (c := c2)]; (rotate_left; focus (subst e2; rfl)); (have hc2 := set_get (c1 := c2) hc1); (refine ⟨_, get_enc hc2, rfl, ?_⟩); (conv => whnf); (try (refine ⟨(rfl : (_ : Heap) = _), ?_⟩; (conv => whnf))); (refine ⟨rfl, ?_⟩); (conv => whnf); (try (refine ⟨(rfl : (_ : Heap) = _), ?_⟩; (conv => whnf))); rw [set_encR (l := l1.set n c2) (n := n) (c := ⟨c1.thread, c1.op, c1.from_, c1.point, i, e.answer⟩)]; (rotate_left; focus (subst e2; rfl)); (rw [List.set_set]); refine .inl ⟨⟨false, [], [], []⟩, by kernel_rfl, ?_⟩; (conv => whnf); refine ⟨_, _, OpV.mapUpdate (id := 1) _ _ _ _ (.inl rfl) Try.underlying53 kInt rfl rfl (e.thread) (fun E u h => val_v h) (encI64 0) (fun E u h => val_v h), ?_⟩; (conv => whnf); (try (refine ⟨(rfl : (_ : Heap) = _), ?_⟩; (conv => whnf))); rw [putV_vI]; (rw [hmd h5, if_pos h5]); exact ⟨.inl rfl, _, .refl _, rfl, rfl⟩
        · (conv => whnf); (try (refine ⟨(rfl : (_ : Heap) = _), ?_⟩; (conv => whnf))); (rw [hmk h5, if_neg (by simp [h5])]); exact ⟨.inl rfl, _, .refl _, rfl, rfl⟩
      · have hmk : e.done = false → l0.set n (markC e i c) = l0 := fun hd => by
          have : markC e i c = c := by simp [markC, h4, hd]
          rw [this]
          exact set_self hc
        have hmd : e.done = true → l0.set n (markC e i c) = l0.set n ⟨c.thread, c.op, c.from_, c.point, i, e.answer⟩ := fun hd => by simp [markC, h4, hd]
        (conv => whnf); (try (refine ⟨(rfl : (_ : Heap) = _), ?_⟩; (conv => whnf)))
        refine ⟨fun h5 => ?_, fun h5 => ?_⟩
        · (conv => whnf); (try (refine ⟨(rfl : (_ : Heap) = _), ?_⟩; (conv => whnf))); refine .inl ⟨⟨false, [4], [4], []⟩, by kernel_rfl, ?_⟩; (conv => whnf); (try rw [Nat.zero_add]); (refine ⟨_, get_enc hc, rfl, ?_⟩); (conv => whnf); (try (refine ⟨(rfl : (_ : Heap) = _), ?_⟩; (conv => whnf))); (refine ⟨rfl, ?_⟩); (conv => whnf); (try (refine ⟨(rfl : (_ : Heap) = _), ?_⟩; (conv => whnf))); (obtain ⟨c2, e2⟩ : ∃ c2 : Cal, c2 = ⟨c.thread, c.op, c.from_, c.point, i, c.answer⟩ := ⟨_, rfl⟩); rw [set_encR (l := l0) (n := n) (c := c2)]; (rotate_left; focus (subst e2; rfl)); (have hc2 := set_get (c1 := c2) hc); (refine ⟨_, get_enc hc2, rfl, ?_⟩); (conv => whnf); (try (refine ⟨(rfl : (_ : Heap) = _), ?_⟩; (conv => whnf))); (refine ⟨rfl, ?_⟩); (conv => whnf); (try (refine ⟨(rfl : (_ : Heap) = _), ?_⟩; (conv => whnf))); rw [set_encR (l := l0.set n c2) (n := n) (c := ⟨c.thread, c.op, c.from_, c.point, i, e.answer⟩)]; (rotate_left; focus (subst e2; rfl)); (rw [List.set_set]); refine .inl ⟨⟨false, [], [], []⟩, by kernel_rfl, ?_⟩; (conv => whnf); refine ⟨_, _, OpV.mapUpdate (id := 1) _ _ _ _ (.inl rfl) Try.underlying53 kInt rfl rfl (e.thread) (fun E u h => val_v h) (encI64 0) (fun E u h => val_v h), ?_⟩; (conv => whnf); (try (refine ⟨(rfl : (_ : Heap) = _), ?_⟩; (conv => whnf))); rw [putV_vI]; (rw [hmd h5, if_pos h5]); exact ⟨.inl rfl, _, .refl _, rfl, rfl⟩
        · (conv => whnf); (try (refine ⟨(rfl : (_ : Heap) = _), ?_⟩; (conv => whnf))); (rw [hmk h5, if_neg (by simp [h5])]); exact ⟨.inl rfl, _, .refl _, rfl, rfl⟩

end Go.Cal

/- Layer 10 (calls): what the program makes of a trace, walked. -/
namespace Go.Cal
open Go.Ab Go.Proofs Go.Hy
set_option linter.unusedVariables false
set_option maxRecDepth 100000




/-! ### Plain -/

/-- What is kept behind so many events. -/
def bkAt (l : List Eve) : Nat → Option Bk
  | 0 => some bk0
  | k + 1 => (bkAt l k).bind fun b => (l[k]?).bind fun e => eventV b k e
def bkD (l : List Eve) (k : Nat) : Bk := (bkAt l k).getD bk0
def ofV (l : List Eve) : List Cal × Int := match bkAt l l.length with
  | some b => (b.l, 0)
  | none => ([], 11)

theorem bk0_ok : bk0.ok := ⟨fun k => ⟨by rw [get0]; decide, by rw [get0]; decide⟩, fun k => ⟨by rw [get0]; decide, by rw [get0]; decide⟩⟩

theorem event_len {b b' : Bk} {i : Int} {e : Eve} (hb : b.ok) (h : eventV b i e = some b') : b'.l.length = b.l.length + (if e.begin_ then 1 else 0) := by
  unfold eventV at h
  split at h
  · rename_i he
    split at h
    · cases h
    · rw [(go_ok (begin_ok hb) h).2, if_pos he]; simp [beginV]
  · rename_i he
    rw [(go_ok hb h).2, if_neg he]; rfl

theorem bkAt_ok {l : List Eve} : ∀ {k : Nat} {b : Bk}, bkAt l k = some b → b.ok ∧ b.l.length ≤ k
  | 0, b, h => by cases h; exact ⟨bk0_ok, Nat.le_refl _⟩
  | k + 1, b, h => by
    simp only [bkAt] at h
    cases h1 : bkAt l k with
    | none => rw [h1] at h; cases h
    | some b0 =>
      rw [h1] at h
      obtain ⟨h2, h3⟩ := bkAt_ok h1
      cases h4 : l[k]? with
      | none => rw [h4] at h; cases h
      | some e =>
        rw [h4] at h
        refine ⟨event_ok h2 h, ?_⟩
        rw [event_len h2 h]
        split <;> omega

theorem bkAt_none {l : List Eve} {k : Nat} (h : bkAt l k = none) : ∀ m, k ≤ m → bkAt l m = none := by
  intro m hm
  induction m with
  | zero => (have e : k = 0 := by omega); subst e; exact h
  | succ m ih =>
    rcases Nat.lt_or_ge k (m + 1) with h1 | h1
    · simp only [bkAt]; rw [ih (by omega)]; rfl
    · have e : k = m + 1 := by omega
      subst e; exact h

theorem first_some (i : Int) (e : Eve) (he : e.begin_ = true) : ∃ b, eventV bk0 i e = some b := by
  have hno : ¬ (0 < getI bk0.of_ (e.thread, e.op) ∨ 0 < getI bk0.busy e.thread) := by rw [get0, get0]; decide
  unfold eventV
  rw [if_pos he, if_neg hno]
  unfold goV
  rw [if_neg]
  · exact ⟨_, rfl⟩
  · have : getI (beginV bk0 i e).busy e.thread = 1 := by simp only [beginV, findV_put]; simp
    rw [this]
    simp

/-! ### Walked -/

abbrev tC (r : List Cal × Int) : C := .tup [lCal r.1, I r.2]

theorem of_sound (l : List Eve) (hl : l.length < 900000000000) : SoundAt Try.prog 14 [] [lEv l] (tC (ofV l)) [] := by
  have hlm : (l.map encEv).length = l.length := List.length_map ..
  refine SoundAt.of_wpA1 (fn := Try.f14) Try.func14 rfl ?_
  conv => whnf
  intro b1
  (conv => whnf); (try (refine ⟨(rfl : (_ : Heap) = _), ?_⟩; (conv => whnf)))
  intro b2
  (conv => whnf); (try (refine ⟨(rfl : (_ : Heap) = _), ?_⟩; (conv => whnf)))
  rw [hlm]
  refine Loops.seq l.length (fun k => [lEv l, .junk, .lst 1 0 [], I 0, .ref 2 [] 3 0 0, .fn 28 [] [], .junk, .junk, .junk, .junk, .junk, .junk, lEv l, I l.length, I k, .junk, .junk, .junk, .junk, .junk, .junk, .junk, .junk, .junk, .junk, .junk, .junk, .junk, .junk, .junk]) (fun k => (match k with | 0 => [obM b1 (entE encII (vI bk0.of_)) (vI bk0.of_).length, obM b2 (entE encI64 (vI bk0.busy)) (vI bk0.busy).length, ⟨1, 58, 3, [[.lst 1 0 [], .v (.map (some b1)), .v (.map (some b2))]], 0⟩] | j + 1 => [obM b1 (entE encII (vI (bkD l (j + 1)).of_)) (vI (bkD l (j + 1)).of_).length, obM b2 (entE encI64 (vI (bkD l (j + 1)).busy)) (vI (bkD l (j + 1)).busy).length, ⟨1, 58, 3, [[.sl 3 [] 18 0 (bkD l (j + 1)).l.length false, .v (.map (some b1)), .v (.map (some b2))]], 0⟩, ⟨2, 41, 18, ((bkD l (j + 1)).l).map encCal, 0⟩])) (fun k => ∃ b, bkAt l k = some b) ?_ ⟨_, rfl⟩ (fun k hk hr => ?_) (fun hr => ?_)
  · exact Weak.cov (by (conv => whnf); (repeat (refine ⟨rfl, ?_⟩; (conv => whnf))); exact trivial)
  · obtain ⟨b, hb⟩ := hr
    have hg : (l.map encEv)[k]? = some (encEv l[k]) := by rw [List.getElem?_map, List.getElem?_eq_getElem hk]; rfl
    have hgl : l[k]? = some l[k] := List.getElem?_eq_getElem hk
    obtain ⟨o1, o2⟩ := bkAt_ok hb
    have hnext : bkAt l (k + 1) = eventV b k l[k] := by simp only [bkAt, hb, hgl]; rfl
    have hbad : eventV b k l[k] = none → ofV l = ([], 11) := fun h => by
      have := bkAt_none (l := l) (k := k + 1) (by rw [hnext, h]) l.length (by omega)
      unfold ofV; rw [this]
    cases k with
    | zero =>
      cases hb
      conv => whnf
      refine ⟨fun _ => ?_, fun h => absurd hk (by simp at h; simp [h])⟩
      conv => whnf
      refine ⟨by omega, _, hg, ?_⟩
      (conv => whnf); (try (refine ⟨(rfl : (_ : Heap) = _), ?_⟩; (conv => whnf)))
      by_cases he : l[0].begin_ = true
      rotate_left
      · have he : l[0].begin_ = false := by simpa using he
        have hev : eventV bk0 0 l[0] = none := by
          unfold eventV; rw [if_neg (by simp [he])]; exact go_none (.inl (get0 _))
        rw [hbad hev]
        refine ⟨_, _, eventFirstNo_sound b1 b2 _ 0 l[0] he, ?_⟩
        (conv => whnf); (try (refine ⟨(rfl : (_ : Heap) = _), ?_⟩; (conv => whnf)))
        (repeat (first | (refine ⟨fun _ => ?_, fun h => absurd h (by decide)⟩; (conv => whnf); (try (refine ⟨(rfl : (_ : Heap) = _), ?_⟩; (conv => whnf)))) | (refine ⟨fun h => absurd h (by decide), fun _ => ?_⟩; (conv => whnf); (try (refine ⟨(rfl : (_ : Heap) = _), ?_⟩; (conv => whnf))))))
        refine .inr ⟨by simp, ?_⟩
        conv => whnf
        exact ⟨.inl rfl, _, Weak.cell 2 rfl (WC.nil 0 18), rfl⟩
      · refine ⟨_, _, eventFirst_sound b1 b2 _ ((0 : Nat) : Int) l[0] he, ?_⟩
        (conv => whnf); (try (refine ⟨(rfl : (_ : Heap) = _), ?_⟩; (conv => whnf)))
        (repeat (first | (refine ⟨fun _ => ?_, fun h => absurd h (by decide)⟩; (conv => whnf); (try (refine ⟨(rfl : (_ : Heap) = _), ?_⟩; (conv => whnf)))) | (refine ⟨fun h => absurd h (by decide), fun _ => ?_⟩; (conv => whnf); (try (refine ⟨(rfl : (_ : Heap) = _), ?_⟩; (conv => whnf))))))
        obtain ⟨b, hev⟩ : ∃ b, eventV bk0 ((0 : Nat) : Int) l[0] = some b := first_some _ _ he
        have e2 : bkD l (0 + 1) = b := by unfold bkD; rw [hnext, hev]; rfl
        refine .inl ⟨rfl, ?_, ⟨b, by rw [hnext, hev]⟩⟩
        have e3 : b.l.length = 1 := by rw [event_len bk0_ok hev, if_pos he]; rfl
        dsimp only
        rw [hev, e2, e3, i64_nat (by omega)]
        exact Weak.ren [0, 1, 2, 5] [0, 2, 3, 4, 5, 12, 13, 14] _ _ rfl rfl rfl rfl
    | succ j =>
      have hD : bkD l (j + 1) = b := by unfold bkD; rw [hb]; rfl
      dsimp only
      rw [hD]
      conv => whnf
      refine ⟨fun _ => ?_, fun h => absurd h (by simp; omega)⟩
      conv => whnf
      refine ⟨by omega, _, by rw [toNat_cast]; exact hg, ?_⟩
      (conv => whnf); (try (refine ⟨(rfl : (_ : Heap) = _), ?_⟩; (conv => whnf)))
      by_cases he : l[j + 1].begin_ = true
      rotate_left
      · have he : l[j + 1].begin_ = false := by simpa using he
        refine ⟨_, _, eventGo_sound b1 b2 b o1 (by omega) _ ((j + 1 : Nat) : Int) l[j + 1] he, ?_⟩
        cases hev : eventV b ((j + 1 : Nat) : Int) l[j + 1] with
        | none =>
          rw [hbad hev]
          (conv => whnf); (try (refine ⟨(rfl : (_ : Heap) = _), ?_⟩; (conv => whnf)))
          (repeat (first | (refine ⟨fun _ => ?_, fun h => absurd h (by decide)⟩; (conv => whnf); (try (refine ⟨(rfl : (_ : Heap) = _), ?_⟩; (conv => whnf)))) | (refine ⟨fun h => absurd h (by decide), fun _ => ?_⟩; (conv => whnf); (try (refine ⟨(rfl : (_ : Heap) = _), ?_⟩; (conv => whnf))))))
          refine .inr ⟨by simp, ?_⟩
          conv => whnf
          exact ⟨.inl rfl, _, Weak.cell 2 rfl (WC.nil 0 18), rfl⟩
        | some b' =>
          (conv => whnf); (try (refine ⟨(rfl : (_ : Heap) = _), ?_⟩; (conv => whnf)))
          (first | (refine ⟨fun _ => ?_, ?_⟩; rotate_left 1; (focus (intro h; simp at h; done)); ((conv => whnf); (try (refine ⟨(rfl : (_ : Heap) = _), ?_⟩; (conv => whnf))))) | (refine ⟨?_, fun _ => ?_⟩; (focus (intro h; simp at h; done)); ((conv => whnf); (try (refine ⟨(rfl : (_ : Heap) = _), ?_⟩; (conv => whnf))))))
          have e2 : bkD l (j + 1 + 1) = b' := by unfold bkD; rw [hnext, hev]; rfl
          have e3 : b'.l.length = b.l.length := by rw [event_len o1 hev, if_neg (by simp [he])]; rfl
          refine .inl ⟨rfl, ?_, ⟨b', by rw [hnext, hev]⟩⟩
          dsimp only
          rw [e2, e3, i64_nat (by omega)]
          exact Weak.covD 4 (by (conv => whnf); (repeat (refine ⟨rfl, ?_⟩; (conv => whnf))); exact trivial) rfl rfl rfl rfl rfl
      · refine ⟨_, _, eventBegin_sound b1 b2 b o1 (by omega) _ ((j + 1 : Nat) : Int) l[j + 1] he, ?_⟩
        cases hev : eventV b ((j + 1 : Nat) : Int) l[j + 1] with
        | none =>
          rw [hbad hev]
          (conv => whnf); (try (refine ⟨(rfl : (_ : Heap) = _), ?_⟩; (conv => whnf)))
          (repeat (first | (refine ⟨fun _ => ?_, fun h => absurd h (by decide)⟩; (conv => whnf); (try (refine ⟨(rfl : (_ : Heap) = _), ?_⟩; (conv => whnf)))) | (refine ⟨fun h => absurd h (by decide), fun _ => ?_⟩; (conv => whnf); (try (refine ⟨(rfl : (_ : Heap) = _), ?_⟩; (conv => whnf))))))
          refine .inr ⟨by simp, ?_⟩
          conv => whnf
          exact ⟨.inl rfl, _, Weak.cell 2 rfl (WC.nil 0 18), rfl⟩
        | some b' =>
          (conv => whnf); (try (refine ⟨(rfl : (_ : Heap) = _), ?_⟩; (conv => whnf)))
          (first | (refine ⟨fun _ => ?_, ?_⟩; rotate_left 1; (focus (intro h; simp at h; done)); ((conv => whnf); (try (refine ⟨(rfl : (_ : Heap) = _), ?_⟩; (conv => whnf))))) | (refine ⟨?_, fun _ => ?_⟩; (focus (intro h; simp at h; done)); ((conv => whnf); (try (refine ⟨(rfl : (_ : Heap) = _), ?_⟩; (conv => whnf))))))
          have e2 : bkD l (j + 1 + 1) = b' := by unfold bkD; rw [hnext, hev]; rfl
          have e3 : b'.l.length = b.l.length + 1 := by rw [event_len o1 hev, if_pos he]
          refine .inl ⟨rfl, ?_, ⟨b', by rw [hnext, hev]⟩⟩
          dsimp only
          rw [e2, e3, i64_nat (by omega)]
          exact Weak.ren [0, 1, 2, 6] [0, 2, 3, 4, 5, 12, 13, 14] _ _ rfl rfl rfl rfl
  · obtain ⟨b, hb⟩ := hr
    have e1 : ofV l = (b.l, 0) := by unfold ofV; rw [hb]
    rw [e1]
    cases hN : l.length with
    | zero =>
      rw [hN] at hb
      cases hb
      conv => whnf
      refine ⟨fun h => absurd h (by simp), fun _ => ?_⟩
      conv => whnf
      refine ⟨by simp, ?_⟩
      conv => whnf
      exact ⟨.inl rfl, _, Weak.cell 2 rfl (WC.nil 0 18), rfl⟩
    | succ j =>
      have hD : bkD l (j + 1) = b := by unfold bkD; rw [← hN, hb]; rfl
      dsimp only
      rw [hD]
      conv => whnf
      refine ⟨fun h => absurd h (by simp), fun _ => ?_⟩
      conv => whnf
      refine ⟨by simp, ?_⟩
      conv => whnf
      exact ⟨.inl rfl, _, Weak.freezeA 2 rfl rfl (by simp) (fun r hr c hc => by
        obtain ⟨x, _, rfl⟩ := List.mem_map.1 hr
        exact List.all_eq_true.1 (List.all_eq_true.1 (enc_own b.l) _ hr) c hc), rfl⟩

end Go.Cal

/- Layer 10 (calls), plain: the document's answer, and that the program's is the same. -/
namespace Go.Cal
open Go.Ab Go.Hy
set_option linter.unusedVariables false

def placeV (l : List Cal) (t o : Int) : Option Nat := l.findIdx? fun c => c.thread == t && c.op == o
def busyV (l : List Cal) (t : Int) : Bool := l.any fun c => c.thread == t && decide (c.to_ < 0)

/-- An event, by the document. -/
def refE (l : List Cal) (i : Int) (e : Eve) : Option (List Cal) :=
  if e.begin_ then
    if (placeV l e.thread e.op).isSome || busyV l e.thread then none
    else some ((l ++ [newCal e i]).modify l.length (markC e i))
  else match placeV l e.thread e.op with
    | none => none
    | some n => if (l[n]?.any fun c => decide (0 ≤ c.to_)) then none else some (l.modify n (markC e i))

def refAt (l : List Eve) : Nat → Option (List Cal)
  | 0 => some []
  | k + 1 => (refAt l k).bind fun b => (l[k]?).bind fun e => refE b k e
def refV (l : List Eve) : List Cal × Int := match refAt l l.length with
  | some b => (b, 0)
  | none => ([], 11)

structure Inv (b : Bk) : Prop where
  ok : b.ok
  of_ : ∀ t o : Int, getI b.of_ (t, o) = match placeV b.l t o with | some n => (n : Int) + 1 | none => 0
  busy : ∀ (t : Int) (n : Nat), getI b.busy t = (n : Int) + 1 ↔ ∃ c, b.l[n]? = some c ∧ c.thread = t ∧ c.to_ < 0

theorem mark_thread (e : Eve) (i : Int) (c : Cal) : (markC e i c).thread = c.thread ∧ (markC e i c).op = c.op := by
  unfold markC
  cases e.point <;> cases e.done <;> exact ⟨rfl, rfl⟩
theorem mark_to (e : Eve) (i : Int) (c : Cal) : (markC e i c).to_ = if e.done then i else c.to_ := by
  unfold markC
  cases e.point <;> cases e.done <;> rfl

theorem place_modify (l : List Cal) (n : Nat) (e : Eve) (i : Int) (t o : Int) : placeV (l.modify n (markC e i)) t o = placeV l t o := by
  unfold placeV
  have h : ∀ m : List Cal, m.findIdx? (fun c => c.thread == t && c.op == o) = (m.map fun c => (c.thread, c.op)).findIdx? (fun x => x.1 == t && x.2 == o) := fun m => by
    rw [List.findIdx?_map]; rfl
  rw [h, h]
  congr 1
  apply List.ext_getElem?
  intro j
  simp only [List.getElem?_map, List.getElem?_modify]
  cases l[j]? with
  | none => rfl
  | some c =>
    simp only [Option.map_some]
    split
    · simp [mark_thread]
    · rfl

theorem place_some {l : List Cal} {t o : Int} {n : Nat} (h : placeV l t o = some n) : ∃ c, l[n]? = some c ∧ c.thread = t ∧ c.op = o := by
  unfold placeV at h
  rw [List.findIdx?_eq_some_iff_getElem] at h
  obtain ⟨h1, h2, _⟩ := h
  refine ⟨l[n], List.getElem?_eq_getElem h1, ?_⟩
  simpa using h2

theorem busy_iff {b : Bk} (hb : Inv b) (t : Int) : busyV b.l t = true ↔ 0 < getI b.busy t := by
  unfold busyV
  rw [List.any_eq_true]
  constructor
  · rintro ⟨c, hc, h⟩
    obtain ⟨n, hn, rfl⟩ := List.mem_iff_getElem.1 hc
    simp at h
    have := (hb.busy t n).2 ⟨_, List.getElem?_eq_getElem hn, h⟩
    omega
  · intro h
    obtain ⟨n, hn⟩ : ∃ n : Nat, getI b.busy t = (n : Int) + 1 := ⟨(getI b.busy t - 1).toNat, by omega⟩
    obtain ⟨c, h1, h2, h3⟩ := (hb.busy t n).1 hn
    exact ⟨c, List.mem_of_getElem? h1, by simp [h2, h3]⟩

theorem mark_inv {b : Bk} (hb : Inv b) {n : Nat} {c : Cal} {e : Eve} {i : Int} (hi : 0 ≤ i) (hc : b.l[n]? = some c) (ht : c.thread = e.thread) (hn : getI b.busy e.thread = (n : Int) + 1) :
    Inv ⟨b.l.modify n (markC e i), b.of_, if e.done then putV b.busy e.thread 0 else b.busy⟩ := by
  have hok : Bk.ok ⟨b.l.modify n (markC e i), b.of_, if e.done then putV b.busy e.thread 0 else b.busy⟩ := by
    refine ⟨by simpa using hb.ok.1, fun t => ?_⟩
    have := hb.ok.2 t
    simp only [List.length_modify]
    split
    · rw [findV_put]
      split <;> omega
    · exact this
  refine ⟨hok, fun t o => ?_, fun t m => ?_⟩
  · dsimp only
    rw [place_modify]
    exact hb.of_ t o
  · dsimp only
    have hbusy := hb.busy t m
    by_cases hm : m = n
    · subst hm
      have e1 : (b.l.modify m (markC e i))[m]? = some (markC e i c) := by rw [List.getElem?_modify, hc]; simp
      rw [e1]
      simp only [Option.some.injEq, exists_eq_left', mark_thread, mark_to]
      cases hd : e.done with
      | true =>
        rw [if_pos rfl, if_pos rfl, findV_put]
        by_cases h1 : t = e.thread
        · rw [if_pos h1]
          constructor
          · intro h; omega
          · rintro ⟨_, h⟩; omega
        · rw [if_neg h1, hbusy]
          constructor
          · rintro ⟨c', h2, h3, _⟩
            rw [hc] at h2; cases h2
            exact absurd (h3.symm.trans ht) h1
          · rintro ⟨h2, _⟩
            exact absurd (h2.symm.trans ht) h1
      | false =>
        rw [if_neg (by simp), if_neg (by simp), hbusy, hc]
        simp
    · have e1 : (b.l.modify n (markC e i))[m]? = b.l[m]? := by
        rw [List.getElem?_modify]
        cases b.l[m]? with
        | none => rfl
        | some x => simp [Ne.symm hm]
      rw [e1]
      cases hd : e.done with
      | true =>
        rw [if_pos rfl, findV_put]
        by_cases h1 : t = e.thread
        · rw [if_pos h1]
          subst h1
          constructor
          · intro h; omega
          · intro h
            have h2 := hbusy.2 h
            omega
        · rw [if_neg h1, hbusy]
      | false => rw [if_neg (by simp), hbusy]

theorem begin_inv {b : Bk} (hb : Inv b) {e : Eve} {i : Int} (hp : placeV b.l e.thread e.op = none) (hq : busyV b.l e.thread = false) : Inv (beginV b i e) := by
  refine ⟨begin_ok hb.ok, fun t o => ?_, fun t n => ?_⟩
  · simp only [beginV, findV_put, hb.of_ t o]
    unfold placeV at hp ⊢
    rw [List.findIdx?_append]
    by_cases h : (t, o) = (e.thread, e.op)
    · cases h
      rw [if_pos rfl, hp]
      simp [newCal]
    · rw [if_neg h]
      cases h1 : List.findIdx? (fun c : Cal => c.thread == t && c.op == o) b.l with
      | some n => simp
      | none =>
        have : (e.thread == t && e.op == o) = false := by
          rw [Bool.and_eq_false_iff]
          simp only [beq_eq_false_iff_ne]
          rcases Decidable.em (e.thread = t) with h2 | h2
          · exact .inr fun h3 => h (by rw [h2, h3])
          · exact .inl h2
        simp [newCal, this]
  · simp only [beginV, findV_put]
    have hbusy := hb.busy t n
    by_cases h : t = e.thread
    · subst h
      rw [if_pos rfl]
      rcases Nat.lt_trichotomy n b.l.length with h1 | h1 | h1
      · rw [List.getElem?_append_left h1]
        constructor
        · intro h2; omega
        · intro h2
          have := hbusy.2 h2
          have h3 := (busy_iff hb e.thread).2 (by omega)
          rw [hq] at h3; cases h3
      · subst h1
        simp [newCal]
      · rw [List.getElem?_eq_none (by simp; omega)]
        constructor
        · intro h2; omega
        · rintro ⟨c, h2, _⟩; cases h2
    · rw [if_neg h, hbusy]
      rcases Nat.lt_trichotomy n b.l.length with h1 | h1 | h1
      · rw [List.getElem?_append_left h1]
      · subst h1
        constructor
        · rintro ⟨c, h2, _⟩; rw [List.getElem?_eq_none (Nat.le_refl _)] at h2; cases h2
        · rintro ⟨c, h2, h3, _⟩
          simp at h2
          subst h2
          exact absurd h3.symm h
      · constructor
        · rintro ⟨c, h2, _⟩; rw [List.getElem?_eq_none (by omega)] at h2; cases h2
        · rintro ⟨c, h2, _⟩; rw [List.getElem?_eq_none (by simp; omega)] at h2; cases h2

theorem event_same {b : Bk} (hb : Inv b) {e : Eve} {i : Int} (hi : 0 ≤ i) : refE b.l i e = (eventV b i e).map (·.l) ∧ ∀ b', eventV b i e = some b' → Inv b' := by
  unfold refE eventV
  cases he : e.begin_ with
  | true =>
    rw [if_pos rfl, if_pos rfl]
    have h1 : (0 < getI b.of_ (e.thread, e.op) ∨ 0 < getI b.busy e.thread) ↔ ((placeV b.l e.thread e.op).isSome || busyV b.l e.thread) = true := by
      rw [Bool.or_eq_true, busy_iff hb, hb.of_]
      cases placeV b.l e.thread e.op with
      | none => simp
      | some n => simp
    by_cases h2 : ((placeV b.l e.thread e.op).isSome || busyV b.l e.thread) = true
    · rw [if_pos h2, if_pos (h1.2 h2)]
      exact ⟨rfl, fun b' h => by cases h⟩
    · rw [if_neg h2, if_neg (fun h => h2 (h1.1 h))]
      have h3 : placeV b.l e.thread e.op = none ∧ busyV b.l e.thread = false := by simpa using h2
      have hv := begin_inv (i := i) hb h3.1 h3.2
      have hbz : getI (beginV b i e).busy e.thread = (b.l.length : Int) + 1 := by simp only [beginV, findV_put, if_true]
      unfold goV
      rw [if_neg (by rw [hbz]; omega)]
      have e1 : ((b.l.length : Int) + 1 - 1).toNat = b.l.length := by omega
      rw [e1]
      refine ⟨rfl, fun b' h => ?_⟩
      cases h
      exact mark_inv hv hi (c := newCal e i) (by simp [beginV]) rfl hbz
  | false =>
    rw [if_neg (by simp), if_neg (by simp)]
    unfold goV
    rw [hb.of_]
    cases hp : placeV b.l e.thread e.op with
    | none => simp
    | some n =>
      obtain ⟨c, hc, ht, ho⟩ := place_some hp
      have hbusy := hb.busy e.thread n
      dsimp only
      rw [hc]
      by_cases h1 : 0 ≤ c.to_
      · rw [if_pos (by simp [h1]), if_pos]
        · exact ⟨rfl, fun b' h => by cases h⟩
        · right
          intro h
          obtain ⟨c', h2, _, h3⟩ := hbusy.1 h
          rw [hc] at h2; cases h2
          omega
      · have h2 := hbusy.2 ⟨c, hc, ht, by omega⟩
        have h3 : ¬ ((n : Int) + 1 = 0 ∨ getI b.busy e.thread ≠ (n : Int) + 1) := by
          rw [h2]
          rintro (h | h)
          · omega
          · exact h rfl
        have h4 : ¬ (Option.any (fun c : Cal => decide (0 ≤ c.to_)) (some c)) = true := by simp only [Option.any_some, decide_eq_true_eq]; exact h1
        rw [if_neg h4, if_neg h3]
        have e1 : ((n : Int) + 1 - 1).toNat = n := by omega
        rw [e1]
        refine ⟨rfl, fun b' h => ?_⟩
        cases h
        exact mark_inv hb hi hc ht h2

theorem inv0 : Inv bk0 := by
  refine ⟨bk0_ok, fun t o => ?_, fun t n => ?_⟩
  · rw [get0]; rfl
  · rw [get0]
    constructor
    · intro h; omega
    · rintro ⟨c, h, _⟩; simp at h

theorem at_same (l : List Eve) : ∀ k, refAt l k = (bkAt l k).map (·.l) ∧ ∀ b, bkAt l k = some b → Inv b
  | 0 => ⟨rfl, fun b h => by cases h; exact inv0⟩
  | k + 1 => by
    obtain ⟨h1, h2⟩ := at_same l k
    simp only [refAt, bkAt, h1]
    cases hb : bkAt l k with
    | none => exact ⟨rfl, fun b h => by cases h⟩
    | some b =>
      cases he : l[k]? with
      | none => exact ⟨rfl, fun b h => by cases h⟩
      | some e =>
        obtain ⟨h3, h4⟩ := event_same (h2 b hb) (e := e) (i := (k : Int)) (by omega)
        exact ⟨h3, h4⟩

theorem ref_of (l : List Eve) : refV l = ofV l := by
  unfold refV ofV
  rw [(at_same l l.length).1]
  cases bkAt l l.length with
  | none => rfl
  | some b => rfl

end Go.Cal

/- Layer 10 (calls): the document's answer, walked. -/
namespace Go.Cal
open Go.Ab Go.Proofs Go.Hy
set_option linter.unusedVariables false
set_option maxRecDepth 100000

abbrev placeI (l : List Cal) (t o : Int) : Int := match placeV l t o with | some n => (n : Int) | none => -1

theorem place_at {l : List Cal} {t o : Int} {k : Nat} (hk : k < l.length) (hr : ∀ j, (h : j < l.length) → j < k → ¬ (l[j].thread = t ∧ l[j].op = o)) (h1 : l[k].thread = t) (h2 : l[k].op = o) : placeV l t o = some k := by
  unfold placeV
  rw [List.findIdx?_eq_some_iff_getElem]
  refine ⟨hk, by simp [h1, h2], fun j hj => ?_⟩
  have := hr j (by omega) hj
  simpa using this
theorem place_no {l : List Cal} {t o : Int} (hr : ∀ j, (h : j < l.length) → j < l.length → ¬ (l[j].thread = t ∧ l[j].op = o)) : placeV l t o = none := by
  unfold placeV
  rw [List.findIdx?_eq_none_iff]
  intro c hc
  obtain ⟨j, hj, rfl⟩ := List.mem_iff_getElem.1 hc
  have := hr j hj hj
  simpa using this
theorem busy_at {l : List Cal} {t : Int} {k : Nat} (hk : k < l.length) (h1 : l[k].thread = t) (h2 : l[k].to_ < 0) : busyV l t = true := by
  unfold busyV
  rw [List.any_eq_true]
  exact ⟨l[k], List.getElem_mem hk, by simp [h1, h2]⟩
theorem busy_no {l : List Cal} {t : Int} (hr : ∀ j, (h : j < l.length) → j < l.length → ¬ (l[j].thread = t ∧ l[j].to_ < 0)) : busyV l t = false := by
  unfold busyV
  rw [List.any_eq_false]
  intro c hc
  obtain ⟨j, hj, rfl⟩ := List.mem_iff_getElem.1 hc
  have := hr j hj hj
  simpa using this

theorem place_sound (l : List Cal) (X : Ob) (t o : Int) (hl : l.length < 4611686018427387904) :
    SoundAt Try.prog 34 [⟨2, 41, 18, (l).map encCal, 0⟩, X] [.sl 0 [] 18 0 l.length false, I t, I o] (I (placeI l t o)) [⟨2, 41, 18, (l).map encCal, 0⟩, X] := by
  refine SoundAt.of_wpA (fn := Try.f34) Try.func34 rfl ?_
  have hlm : (l.map encCal).length = l.length := List.length_map ..
  conv => whnf
  refine Loops.seq l.length (fun k => [.sl 0 [] 18 0 l.length false, I t, I o, .junk, .junk, .junk, I 0, I k, .junk, .junk, .junk, .junk, .junk, .junk, .junk, .junk, .junk, .junk, .junk, .junk, .junk, .junk, .junk, .junk, .junk, .junk, .junk, .junk, .junk, .junk, .junk]) (fun k => [⟨2, 41, 18, (l).map encCal, 0⟩, X]) (fun k => ∀ j, (h : j < l.length) → j < k → ¬ (l[j].thread = t ∧ l[j].op = o)) ?_ (by simp) (fun k hk hr => ?_) (fun hr => ?_)
  · exact Weak.cov (by (conv => whnf); (repeat (refine ⟨rfl, ?_⟩; (conv => whnf))); exact trivial)
  · have hg : (l.map encCal)[k]? = some (encCal l[k]) := by rw [List.getElem?_map, List.getElem?_eq_getElem hk]; rfl
    conv => whnf
    refine ⟨fun _ => ?_, fun h => absurd h (by simp; omega)⟩
    conv => whnf
    refine ⟨by omega, by rw [toNat_cast]; exact hk, ?_⟩
    (conv => whnf); (try (refine ⟨(rfl : (_ : Heap) = _), ?_⟩; (conv => whnf)))
    rw [toNat_cast, Nat.zero_add]
    refine ⟨_, hg, Nat.le_of_ble_eq_true rfl, ?_⟩
    (conv => whnf); (try (refine ⟨(rfl : (_ : Heap) = _), ?_⟩; (conv => whnf)))
    refine ⟨fun h1 => ?_, fun h1 => ?_⟩
    · (conv => whnf); (try (refine ⟨(rfl : (_ : Heap) = _), ?_⟩; (conv => whnf)))
      refine ⟨by omega, by rw [toNat_cast]; exact hk, ?_⟩
      (conv => whnf); (try (refine ⟨(rfl : (_ : Heap) = _), ?_⟩; (conv => whnf)))
      rw [toNat_cast, Nat.zero_add]
      refine ⟨_, hg, Nat.le_of_ble_eq_true rfl, ?_⟩
      (conv => whnf); (try (refine ⟨(rfl : (_ : Heap) = _), ?_⟩; (conv => whnf)))
      refine ⟨fun h2 => ?_, fun h2 => ?_⟩
      · (conv => whnf); (try (refine ⟨(rfl : (_ : Heap) = _), ?_⟩; (conv => whnf)))
        refine .inr ⟨by simp, ?_⟩
        conv => whnf
        have e : placeI l t o = (k : Int) := by unfold placeI; rw [place_at hk hr (by simpa using h1) (by simpa using h2)]
        rw [e]
        exact ⟨.inl rfl, _, .refl _, rfl, rfl⟩
      · (conv => whnf); (try (refine ⟨(rfl : (_ : Heap) = _), ?_⟩; (conv => whnf)))
        refine .inl ⟨rfl, ?_, fun j h hj => ?_⟩
        · rw [i64_nat (by omega)]
          exact Weak.cov (by (conv => whnf); (repeat (refine ⟨rfl, ?_⟩; (conv => whnf))); exact trivial)
        · by_cases e : j = k
          · subst e; simp at h2; simp [h2]
          · exact hr j h (by omega)
    · (conv => whnf); (try (refine ⟨(rfl : (_ : Heap) = _), ?_⟩; (conv => whnf)))
      refine .inl ⟨rfl, ?_, fun j h hj => ?_⟩
      · rw [i64_nat (by omega)]
        exact Weak.cov (by (conv => whnf); (repeat (refine ⟨rfl, ?_⟩; (conv => whnf))); exact trivial)
      · by_cases e : j = k
        · subst e; simp at h1; simp [h1]
        · exact hr j h (by omega)
  · conv => whnf
    refine ⟨fun h => absurd h (by simp), fun h => ?_⟩
    conv => whnf
    refine ⟨by simp, ?_⟩
    conv => whnf
    have e : placeI l t o = -1 := by unfold placeI; rw [place_no hr]
    rw [e]
    exact ⟨.inl rfl, _, .refl _, rfl, rfl⟩

theorem busy_sound (l : List Cal) (X : Ob) (t : Int) (hl : l.length < 4611686018427387904) :
    SoundAt Try.prog 35 [⟨2, 41, 18, (l).map encCal, 0⟩, X] [.sl 0 [] 18 0 l.length false, I t] (Bo (busyV l t)) [⟨2, 41, 18, (l).map encCal, 0⟩, X] := by
  refine SoundAt.of_wpA (fn := Try.f35) Try.func35 rfl ?_
  have hlm : (l.map encCal).length = l.length := List.length_map ..
  conv => whnf
  refine Loops.seq l.length (fun k => [.sl 0 [] 18 0 l.length false, I t, .junk, .junk, Bo false, I k, .junk, .junk, .junk, .junk, .junk, .junk, .junk, .junk, .junk, .junk, .junk, .junk, .junk, .junk, .junk, .junk, .junk, .junk, .junk, .junk, .junk]) (fun k => [⟨2, 41, 18, (l).map encCal, 0⟩, X]) (fun k => ∀ j, (h : j < l.length) → j < k → ¬ (l[j].thread = t ∧ l[j].to_ < 0)) ?_ (by simp) (fun k hk hr => ?_) (fun hr => ?_)
  · exact Weak.cov (by (conv => whnf); (repeat (refine ⟨rfl, ?_⟩; (conv => whnf))); exact trivial)
  · have hg : (l.map encCal)[k]? = some (encCal l[k]) := by rw [List.getElem?_map, List.getElem?_eq_getElem hk]; rfl
    conv => whnf
    refine ⟨fun _ => ?_, fun h => absurd h (by simp; omega)⟩
    conv => whnf
    refine ⟨by omega, by rw [toNat_cast]; exact hk, ?_⟩
    (conv => whnf); (try (refine ⟨(rfl : (_ : Heap) = _), ?_⟩; (conv => whnf)))
    rw [toNat_cast, Nat.zero_add]
    refine ⟨_, hg, Nat.le_of_ble_eq_true rfl, ?_⟩
    (conv => whnf); (try (refine ⟨(rfl : (_ : Heap) = _), ?_⟩; (conv => whnf)))
    refine ⟨fun h1 => ?_, fun h1 => ?_⟩
    · (conv => whnf); (try (refine ⟨(rfl : (_ : Heap) = _), ?_⟩; (conv => whnf)))
      refine ⟨by omega, by rw [toNat_cast]; exact hk, ?_⟩
      (conv => whnf); (try (refine ⟨(rfl : (_ : Heap) = _), ?_⟩; (conv => whnf)))
      rw [toNat_cast, Nat.zero_add]
      refine ⟨_, hg, Nat.le_of_ble_eq_true rfl, ?_⟩
      (conv => whnf); (try (refine ⟨(rfl : (_ : Heap) = _), ?_⟩; (conv => whnf)))
      refine ⟨fun h2 => ?_, fun h2 => ?_⟩
      · (conv => whnf); (try (refine ⟨(rfl : (_ : Heap) = _), ?_⟩; (conv => whnf)))
        refine .inr ⟨by simp, ?_⟩
        conv => whnf
        rw [busy_at hk (by simpa using h1) (by simpa using h2)]
        exact ⟨.inl rfl, _, .refl _, rfl, rfl⟩
      · (conv => whnf); (try (refine ⟨(rfl : (_ : Heap) = _), ?_⟩; (conv => whnf)))
        refine .inl ⟨rfl, ?_, fun j h hj => ?_⟩
        · rw [i64_nat (by omega)]
          exact Weak.cov (by (conv => whnf); (repeat (refine ⟨rfl, ?_⟩; (conv => whnf))); exact trivial)
        · by_cases e : j = k
          · subst e; simp at h2; simp [h2]
          · exact hr j h (by omega)
    · (conv => whnf); (try (refine ⟨(rfl : (_ : Heap) = _), ?_⟩; (conv => whnf)))
      refine .inl ⟨rfl, ?_, fun j h hj => ?_⟩
      · rw [i64_nat (by omega)]
        exact Weak.cov (by (conv => whnf); (repeat (refine ⟨rfl, ?_⟩; (conv => whnf))); exact trivial)
      · by_cases e : j = k
        · subst e; simp at h1; simp [h1]
        · exact hr j h (by omega)
  · conv => whnf
    refine ⟨fun h => absurd h (by simp), fun h => ?_⟩
    conv => whnf
    refine ⟨by simp, ?_⟩
    conv => whnf
    rw [busy_no hr]
    exact ⟨.inl rfl, _, .refl _, rfl, rfl⟩

theorem place0_sound (t o : Int) : SoundAt Try.prog 34 [] [.lst 1 18 [], I t, I o] (I (-1)) [] := by
  refine SoundAt.of_wpA1 (fn := Try.f34) Try.func34 rfl ?_
  conv => whnf
  refine Loops.seq 0 (fun k => [.lst 1 18 [], I t, I o, .junk, .junk, .junk, I 0, I k, .junk, .junk, .junk, .junk, .junk, .junk, .junk, .junk, .junk, .junk, .junk, .junk, .junk, .junk, .junk, .junk, .junk, .junk, .junk, .junk, .junk, .junk, .junk]) (fun k => []) (fun k => True) ?_ trivial (fun k hk hr => ?_) (fun hr => ?_)
  · exact Weak.cov (by (conv => whnf); (repeat (refine ⟨rfl, ?_⟩; (conv => whnf))); exact trivial)
  · omega
  · conv => whnf
    refine ⟨fun h => absurd h (by decide), fun h => ?_⟩
    conv => whnf
    refine ⟨by simp, ?_⟩
    conv => whnf
    exact ⟨.inl rfl, _, .refl _, rfl⟩
theorem busy0_sound (t : Int) : SoundAt Try.prog 35 [] [.lst 1 18 [], I t] (Bo false) [] := by
  refine SoundAt.of_wpA1 (fn := Try.f35) Try.func35 rfl ?_
  conv => whnf
  refine Loops.seq 0 (fun k => [.lst 1 18 [], I t, .junk, .junk, Bo false, I k, .junk, .junk, .junk, .junk, .junk, .junk, .junk, .junk, .junk, .junk, .junk, .junk, .junk, .junk, .junk, .junk, .junk, .junk, .junk, .junk, .junk]) (fun k => []) (fun k => True) ?_ trivial (fun k hk hr => ?_) (fun hr => ?_)
  · exact Weak.cov (by (conv => whnf); (repeat (refine ⟨rfl, ?_⟩; (conv => whnf))); exact trivial)
  · omega
  · conv => whnf
    refine ⟨fun h => absurd h (by decide), fun h => ?_⟩
    conv => whnf
    refine ⟨by simp, ?_⟩
    conv => whnf
    exact ⟨.inl rfl, _, .refl _, rfl⟩

/-! ### Are two rows the same; is one ahead of another one -/

abbrev aheadV (a b : Cal) : Bool := a.to_ != -1 && decide (a.to_ < b.from_)
end Go.Cal

/- Layer 10 (calls): the document's answer of a trace, walked. -/
namespace Go.Cal
open Go.Ab Go.Proofs Go.Hy
set_option linter.unusedVariables false
set_option maxRecDepth 100000
set_option maxHeartbeats 2000000


def refD (l : List Eve) (k : Nat) : List Cal := (refAt l k).getD []
theorem refAt_none {l : List Eve} {k : Nat} (h : refAt l k = none) : ∀ m, k ≤ m → refAt l m = none := by
  intro m hm
  induction m with
  | zero => (have e : k = 0 := by omega); subst e; exact h
  | succ m ih =>
    rcases Nat.lt_or_ge k (m + 1) with h1 | h1
    · simp only [refAt]; rw [ih (by omega)]; rfl
    · have e : k = m + 1 := by omega
      subst e; exact h
theorem refE_len {b b' : List Cal} {i : Int} {e : Eve} (h : refE b i e = some b') : b'.length ≤ b.length + 1 ∧ 0 < b'.length := by
  unfold refE at h
  split at h
  · split at h
    · cases h
    · cases h; simp
  · split at h
    · cases h
    · rename_i n hp
      obtain ⟨c, hc, _⟩ := place_some hp
      have := (List.getElem?_eq_some_iff.1 hc).1
      split at h
      · cases h
      · cases h; simp; omega
theorem refAt_len {l : List Eve} : ∀ {k : Nat} {b : List Cal}, refAt l k = some b → b.length ≤ k
  | 0, b, h => by cases h; simp
  | k + 1, b, h => by
    simp only [refAt] at h
    cases h1 : refAt l k with
    | none => rw [h1] at h; cases h
    | some b0 =>
      rw [h1] at h
      have h3 := refAt_len h1
      cases h4 : l[k]? with
      | none => rw [h4] at h; cases h
      | some e =>
        rw [h4] at h
        have := refE_len h
        omega


theorem refOf_sound (l : List Eve) (hl : l.length < 900000000000) : SoundAt Try.prog 17 [] [lEv l] (tC (refV l)) [] := by
  have hlm : (l.map encEv).length = l.length := List.length_map ..
  refine SoundAt.of_wpA1 (fn := Try.f17) Try.func17 rfl ?_
  conv => whnf
  refine Loops.seq l.length (fun k => [lEv l, .junk, .lst 1 0 [], I 0, (match k with | 0 => .lst 1 18 [] | j + 1 => .sl 0 [] 18 0 (refD l (j + 1)).length false), I k, .junk, .junk, .junk, .junk, .junk, .junk, .junk, .junk, .junk, .junk, .junk, .junk, .junk, .junk, .junk, .junk, .junk, .junk, .junk, .junk, .junk, .junk, .junk, .junk, .junk, .junk, .junk, .junk, .junk, .junk, .junk, .junk, .junk, .junk, .junk, .junk, .junk, .junk, .junk, .junk, .junk, .junk, .junk, .junk, .junk, .junk, .junk, .junk, .junk, .junk, .junk, .junk, .junk, .junk, .junk, .junk, .junk, .junk, .junk, .junk, .junk, .junk, .junk, .junk, .junk, .junk, .junk, .junk, .junk, .junk, .junk]) (fun k => (match k with | 0 => [] | j + 1 => [⟨2, 41, 18, (refD l (j + 1)).map encCal, 0⟩])) (fun k => ∃ b, refAt l k = some b) ?_ ⟨_, rfl⟩ (fun k hk hr => ?_) (fun hr => ?_)
  · exact Weak.cov (by (conv => whnf); (repeat (refine ⟨rfl, ?_⟩; (conv => whnf))); exact trivial)
  · obtain ⟨b, hb⟩ := hr
    have hg : (l.map encEv)[k]? = some (encEv l[k]) := by rw [List.getElem?_map, List.getElem?_eq_getElem hk]; rfl
    have hgl : l[k]? = some l[k] := List.getElem?_eq_getElem hk
    have hbl := refAt_len hb
    have hnext : refAt l (k + 1) = refE b k l[k] := by simp only [refAt, hb, hgl]; rfl
    have hbad : refE b k l[k] = none → refV l = ([], 11) := fun h => by
      have := refAt_none (l := l) (k := k + 1) (by rw [hnext, h]) l.length (by omega)
      unfold refV; rw [this]
    cases k with
    | zero =>
      cases hb
      dsimp only
      conv => whnf
      refine ⟨fun _ => ?_, fun h => absurd hk (by simp at h; simp [h])⟩
      conv => whnf
      refine ⟨by omega, _, hg, ?_⟩
      (conv => whnf); (try (refine ⟨(rfl : (_ : Heap) = _), ?_⟩; (conv => whnf)))
      refine ⟨_, _, (place0_sound l[0].thread l[0].op).frame rfl _, ?_⟩; (conv => whnf); (try (refine ⟨(rfl : (_ : Heap) = _), ?_⟩; (conv => whnf)))
      by_cases he : l[0].begin_ = true
      rotate_left
      · have he : l[0].begin_ = false := by simpa using he
        rw [hbad (by unfold refE; rw [if_neg (by simp [he])]; rfl)]
        refine ⟨fun h => absurd ((he).symm.trans h : false = true) (by decide), fun _ => ?_⟩; (conv => whnf); (try (refine ⟨(rfl : (_ : Heap) = _), ?_⟩; (conv => whnf)))
        (repeat (first | (refine ⟨fun _ => ?_, fun h => absurd h (by decide)⟩; (conv => whnf); (try (refine ⟨(rfl : (_ : Heap) = _), ?_⟩; (conv => whnf)))) | (refine ⟨fun h => absurd h (by decide), fun _ => ?_⟩; (conv => whnf); (try (refine ⟨(rfl : (_ : Heap) = _), ?_⟩; (conv => whnf))))))
        refine .inr ⟨by simp, ?_⟩
        conv => whnf
        exact ⟨.inl rfl, _, Weak.cell 2 rfl (WC.nil 0 18), rfl⟩
      · refine ⟨fun _ => ?_, fun h => absurd ((he).symm.trans h : true = false) (by decide)⟩; (conv => whnf); (try (refine ⟨(rfl : (_ : Heap) = _), ?_⟩; (conv => whnf)))
        (repeat (first | (refine ⟨fun _ => ?_, fun h => absurd h (by decide)⟩; (conv => whnf); (try (refine ⟨(rfl : (_ : Heap) = _), ?_⟩; (conv => whnf)))) | (refine ⟨fun h => absurd h (by decide), fun _ => ?_⟩; (conv => whnf); (try (refine ⟨(rfl : (_ : Heap) = _), ?_⟩; (conv => whnf))))))
        refine ⟨_, _, (busy0_sound l[0].thread).frame rfl _, ?_⟩; (conv => whnf); (try (refine ⟨(rfl : (_ : Heap) = _), ?_⟩; (conv => whnf)))
        (repeat (first | (refine ⟨fun _ => ?_, fun h => absurd h (by decide)⟩; (conv => whnf); (try (refine ⟨(rfl : (_ : Heap) = _), ?_⟩; (conv => whnf)))) | (refine ⟨fun h => absurd h (by decide), fun _ => ?_⟩; (conv => whnf); (try (refine ⟨(rfl : (_ : Heap) = _), ?_⟩; (conv => whnf))))))
        obtain ⟨l0, hl0⟩ : ∃ l0 : List Cal, l0 = [newCal l[0] ((0 : Nat) : Int)] := ⟨_, rfl⟩
        obtain ⟨c, hce⟩ : ∃ c : Cal, c = newCal l[0] ((0 : Nat) : Int) := ⟨_, rfl⟩
        have hc : l0[0]? = some c := by rw [hl0, hce]; simp
        have hll : l0.length = 0 + 1 := by rw [hl0]; simp
        have hct : c.to_ = -1 := by rw [hce]; rfl
        have hev : refE [] ((0 : Nat) : Int) l[0] = some (l0.modify 0 (markC l[0] ((0 : Nat) : Int))) := by unfold refE; rw [if_pos he, if_neg (by simp [placeV, busyV]), hl0]; (try rfl)
        refine .inr ⟨.inl rfl, by simp [maxLen], by show _ * 144 ≤ _; simp, ?_⟩
        (conv => whnf); (try (refine ⟨(rfl : (_ : Heap) = _), ?_⟩; (conv => whnf)))
        rw [app_nilR (c := newCal l[0] ((0 : Nat) : Int))]
        rotate_left
        · rfl
        rw [← hl0]
        (try rw [show ([] : List (List C)).length = 0 from rfl])
        (repeat (first | (refine ⟨fun _ => ?_, fun h => absurd h (by decide)⟩; (conv => whnf); (try (refine ⟨(rfl : (_ : Heap) = _), ?_⟩; (conv => whnf)))) | (refine ⟨fun h => absurd h (by decide), fun _ => ?_⟩; (conv => whnf); (try (refine ⟨(rfl : (_ : Heap) = _), ?_⟩; (conv => whnf))))))
        refine ⟨by omega, by simp, ?_⟩
        (conv => whnf); (try (refine ⟨(rfl : (_ : Heap) = _), ?_⟩; (conv => whnf)))
        (try rw [toNat_cast])
        (try rw [Nat.zero_add])
        refine ⟨_, get_enc hc, Nat.le_of_ble_eq_true rfl, ?_⟩
        (conv => whnf); (try (refine ⟨(rfl : (_ : Heap) = _), ?_⟩; (conv => whnf)))
        refine ⟨fun h => absurd h (by rw [hct]; decide), fun _ => ?_⟩
        (conv => whnf); (try (refine ⟨(rfl : (_ : Heap) = _), ?_⟩; (conv => whnf)))
        have hfin : ∀ l2 : List Cal, l2 = l0.set 0 (markC l[0] ((0 : Nat) : Int) c) → refD l (0 + 1) = l2 ∧ l2.length = l0.length := fun l2 h2 => by
          subst h2
          refine ⟨?_, by simp⟩
          unfold refD; rw [hnext, hev, modify_at hc]; rfl
        have hex : ∃ b, refAt l (0 + 1) = some b := ⟨_, hnext.trans hev⟩
        refine ⟨fun h4 => ?_, fun h4 => ?_⟩
        · (conv => whnf); (try (refine ⟨(rfl : (_ : Heap) = _), ?_⟩; (conv => whnf)))
          refine ⟨by omega, by simp, ?_⟩; (conv => whnf); (try (refine ⟨(rfl : (_ : Heap) = _), ?_⟩; (conv => whnf))); (try rw [toNat_cast]); (try rw [Nat.zero_add])
          refine ⟨_, get_enc hc, rfl, ?_⟩
          (conv => whnf); (try (refine ⟨(rfl : (_ : Heap) = _), ?_⟩; (conv => whnf)))
          obtain ⟨c1, e1⟩ : ∃ c1 : Cal, c1 = ⟨c.thread, c.op, c.from_, ((0 : Nat) : Int), c.to_, c.answer⟩ := ⟨_, rfl⟩
          rw [set_encR (l := l0) (n := 0) (c := c1)]
          rotate_left
          · subst e1; rfl
          have hc1 := set_get (c1 := c1) hc
          refine ⟨fun h5 => ?_, fun h5 => ?_⟩
          · (conv => whnf); (try (refine ⟨(rfl : (_ : Heap) = _), ?_⟩; (conv => whnf)))
            refine ⟨by omega, by simp, ?_⟩; (conv => whnf); (try (refine ⟨(rfl : (_ : Heap) = _), ?_⟩; (conv => whnf))); (try rw [toNat_cast]); (try rw [Nat.zero_add])
            refine ⟨_, get_enc hc1, rfl, ?_⟩
            (conv => whnf); (try (refine ⟨(rfl : (_ : Heap) = _), ?_⟩; (conv => whnf)))
            obtain ⟨c2, e2⟩ : ∃ c2 : Cal, c2 = ⟨c1.thread, c1.op, c1.from_, c1.point, ((0 : Nat) : Int), c1.answer⟩ := ⟨_, rfl⟩
            rw [set_encR (l := l0.set 0 c1) (n := 0) (c := c2)]
            rotate_left
            · subst e2; rfl
            rw [List.set_set]
            have hc2 := set_get (c1 := c2) hc
            refine ⟨by omega, by simp, ?_⟩; (conv => whnf); (try (refine ⟨(rfl : (_ : Heap) = _), ?_⟩; (conv => whnf))); (try rw [toNat_cast]); (try rw [Nat.zero_add])
            refine ⟨_, get_enc hc2, rfl, ?_⟩
            (conv => whnf); (try (refine ⟨(rfl : (_ : Heap) = _), ?_⟩; (conv => whnf)))
            rw [set_encR (l := l0.set 0 c2) (n := 0) (c := ⟨c2.thread, c2.op, c2.from_, c2.point, c2.to_, l[0].answer⟩)]
            rotate_left
            · rfl
            rw [List.set_set]
            obtain ⟨f1, f2⟩ := hfin (l0.set 0 ⟨c2.thread, c2.op, c2.from_, c2.point, c2.to_, l[0].answer⟩) (by subst e2; subst e1; simp [markC, h4, h5])
            refine .inl ⟨rfl, ?_, hex⟩; (try dsimp only); rw [f1, f2, hll, i64_nat (by omega)]; exact Weak.ren [1] [0, 2, 3, 4, 5] _ _ rfl rfl rfl rfl
          · (conv => whnf); (try (refine ⟨(rfl : (_ : Heap) = _), ?_⟩; (conv => whnf)))
            obtain ⟨f1, f2⟩ := hfin (l0.set 0 c1) (by subst e1; simp [markC, h4, h5])
            refine .inl ⟨rfl, ?_, hex⟩; (try dsimp only); rw [f1, f2, hll, i64_nat (by omega)]; exact Weak.ren [1] [0, 2, 3, 4, 5] _ _ rfl rfl rfl rfl
        · (conv => whnf); (try (refine ⟨(rfl : (_ : Heap) = _), ?_⟩; (conv => whnf)))
          refine ⟨fun h5 => ?_, fun h5 => ?_⟩
          · (conv => whnf); (try (refine ⟨(rfl : (_ : Heap) = _), ?_⟩; (conv => whnf)))
            refine ⟨by omega, by simp, ?_⟩; (conv => whnf); (try (refine ⟨(rfl : (_ : Heap) = _), ?_⟩; (conv => whnf))); (try rw [toNat_cast]); (try rw [Nat.zero_add])
            refine ⟨_, get_enc hc, rfl, ?_⟩
            (conv => whnf); (try (refine ⟨(rfl : (_ : Heap) = _), ?_⟩; (conv => whnf)))
            obtain ⟨c2, e2⟩ : ∃ c2 : Cal, c2 = ⟨c.thread, c.op, c.from_, c.point, ((0 : Nat) : Int), c.answer⟩ := ⟨_, rfl⟩
            rw [set_encR (l := l0) (n := 0) (c := c2)]
            rotate_left
            · subst e2; rfl
            have hc2 := set_get (c1 := c2) hc
            refine ⟨by omega, by simp, ?_⟩; (conv => whnf); (try (refine ⟨(rfl : (_ : Heap) = _), ?_⟩; (conv => whnf))); (try rw [toNat_cast]); (try rw [Nat.zero_add])
            refine ⟨_, get_enc hc2, rfl, ?_⟩
            (conv => whnf); (try (refine ⟨(rfl : (_ : Heap) = _), ?_⟩; (conv => whnf)))
            rw [set_encR (l := l0.set 0 c2) (n := 0) (c := ⟨c2.thread, c2.op, c2.from_, c2.point, c2.to_, l[0].answer⟩)]
            rotate_left
            · rfl
            rw [List.set_set]
            obtain ⟨f1, f2⟩ := hfin (l0.set 0 ⟨c2.thread, c2.op, c2.from_, c2.point, c2.to_, l[0].answer⟩) (by subst e2; simp [markC, h4, h5])
            refine .inl ⟨rfl, ?_, hex⟩; (try dsimp only); rw [f1, f2, hll, i64_nat (by omega)]; exact Weak.ren [1] [0, 2, 3, 4, 5] _ _ rfl rfl rfl rfl
          · (conv => whnf); (try (refine ⟨(rfl : (_ : Heap) = _), ?_⟩; (conv => whnf)))
            obtain ⟨f1, f2⟩ := hfin l0 (by simp only [markC, h4, h5]; exact (set_self hc).symm)
            refine .inl ⟨rfl, ?_, hex⟩; (try dsimp only); rw [f1, f2, hll, i64_nat (by omega)]; exact Weak.ren [1] [0, 2, 3, 4, 5] _ _ rfl rfl rfl rfl
    | succ j =>
      have hD : refD l (j + 1) = b := by unfold refD; rw [hb]; rfl
      have hbm : (b.map encCal).length = b.length := List.length_map ..
      dsimp only
      rw [hD]
      conv => whnf
      refine ⟨fun _ => ?_, fun h => absurd h (by simp; omega)⟩
      conv => whnf
      refine ⟨by omega, _, by rw [toNat_cast]; exact hg, ?_⟩
      (conv => whnf); (try (refine ⟨(rfl : (_ : Heap) = _), ?_⟩; (conv => whnf)))
      refine ⟨_, _, place_sound b _ l[j + 1].thread l[j + 1].op (by omega), ?_⟩
      (conv => whnf); (try (refine ⟨(rfl : (_ : Heap) = _), ?_⟩; (conv => whnf)))
      by_cases he : l[j + 1].begin_ = true
      rotate_left
      · have he : l[j + 1].begin_ = false := by simpa using he
        refine ⟨fun h => absurd ((he).symm.trans h : false = true) (by decide), fun _ => ?_⟩; (conv => whnf); (try (refine ⟨(rfl : (_ : Heap) = _), ?_⟩; (conv => whnf)))
        cases hp : placeV b l[j + 1].thread l[j + 1].op with
        | none =>
          have hpi : placeI b l[j + 1].thread l[j + 1].op = -1 := by unfold placeI; rw [hp]
          rw [hpi, hbad (by unfold refE; rw [if_neg (by simp [he]), hp])]
          (repeat (first | (refine ⟨fun _ => ?_, fun h => absurd h (by decide)⟩; (conv => whnf); (try (refine ⟨(rfl : (_ : Heap) = _), ?_⟩; (conv => whnf)))) | (refine ⟨fun h => absurd h (by decide), fun _ => ?_⟩; (conv => whnf); (try (refine ⟨(rfl : (_ : Heap) = _), ?_⟩; (conv => whnf))))))
          refine .inr ⟨by simp, ?_⟩
          conv => whnf
          exact ⟨.inl rfl, _, Weak.cell 2 rfl (WC.nil 0 18), rfl⟩
        | some n =>
          have hpi : placeI b l[j + 1].thread l[j + 1].op = (n : Int) := by unfold placeI; rw [hp]
          obtain ⟨c, hc, ht, ho⟩ := place_some hp
          have hn := (List.getElem?_eq_some_iff.1 hc).1
          rw [hpi]
          refine ⟨fun h => absurd h (by simp), fun _ => ?_⟩
          (conv => whnf); (try (refine ⟨(rfl : (_ : Heap) = _), ?_⟩; (conv => whnf)))
          refine ⟨by omega, by rw [toNat_cast]; exact hn, ?_⟩
          (conv => whnf); (try (refine ⟨(rfl : (_ : Heap) = _), ?_⟩; (conv => whnf)))
          rw [toNat_cast, Nat.zero_add]
          refine ⟨_, get_enc hc, Nat.le_of_ble_eq_true rfl, ?_⟩
          (conv => whnf); (try (refine ⟨(rfl : (_ : Heap) = _), ?_⟩; (conv => whnf)))
          refine ⟨fun h1 => ?_, fun h1 => ?_⟩
          · rw [hbad (by unfold refE; rw [if_neg (by simp [he]), hp]; dsimp only; rw [hc, if_pos (by simpa using h1)])]
            (conv => whnf); (try (refine ⟨(rfl : (_ : Heap) = _), ?_⟩; (conv => whnf)))
            refine .inr ⟨by simp, ?_⟩
            conv => whnf
            exact ⟨.inl rfl, _, Weak.cell 2 rfl (WC.nil 0 18), rfl⟩
          · (conv => whnf); (try (refine ⟨(rfl : (_ : Heap) = _), ?_⟩; (conv => whnf)))
            have hev : refE b ((j + 1 : Nat) : Int) l[j + 1] = some (b.modify n (markC l[j + 1] ((j + 1 : Nat) : Int))) := by unfold refE; rw [if_neg (by simp [he]), hp]; dsimp only; rw [hc, if_neg (by simpa using h1)]
            have hfin : ∀ l2 : List Cal, l2 = b.set n (markC l[j + 1] ((j + 1 : Nat) : Int) c) → refD l (j + 1 + 1) = l2 ∧ l2.length = b.length := fun l2 h2 => by
              subst h2
              refine ⟨?_, by simp⟩
              unfold refD; rw [hnext, hev, modify_at hc]; rfl
            have hex : ∃ b, refAt l (j + 1 + 1) = some b := ⟨_, hnext.trans hev⟩
            refine ⟨fun h4 => ?_, fun h4 => ?_⟩
            · (conv => whnf); (try (refine ⟨(rfl : (_ : Heap) = _), ?_⟩; (conv => whnf)))
              refine ⟨by omega, by rw [toNat_cast]; simpa using hn, ?_⟩; (conv => whnf); (try (refine ⟨(rfl : (_ : Heap) = _), ?_⟩; (conv => whnf))); (try rw [toNat_cast]); (try rw [Nat.zero_add])
              refine ⟨_, get_enc hc, rfl, ?_⟩
              (conv => whnf); (try (refine ⟨(rfl : (_ : Heap) = _), ?_⟩; (conv => whnf)))
              obtain ⟨c1, e1⟩ : ∃ c1 : Cal, c1 = ⟨c.thread, c.op, c.from_, ((j + 1 : Nat) : Int), c.to_, c.answer⟩ := ⟨_, rfl⟩
              rw [set_encR (l := b) (n := n) (c := c1)]
              rotate_left
              · subst e1; rfl
              have hc1 := set_get (c1 := c1) hc
              refine ⟨fun h5 => ?_, fun h5 => ?_⟩
              · (conv => whnf); (try (refine ⟨(rfl : (_ : Heap) = _), ?_⟩; (conv => whnf)))
                refine ⟨by omega, by rw [toNat_cast]; simpa using hn, ?_⟩; (conv => whnf); (try (refine ⟨(rfl : (_ : Heap) = _), ?_⟩; (conv => whnf))); (try rw [toNat_cast]); (try rw [Nat.zero_add])
                refine ⟨_, get_enc hc1, rfl, ?_⟩
                (conv => whnf); (try (refine ⟨(rfl : (_ : Heap) = _), ?_⟩; (conv => whnf)))
                obtain ⟨c2, e2⟩ : ∃ c2 : Cal, c2 = ⟨c1.thread, c1.op, c1.from_, c1.point, ((j + 1 : Nat) : Int), c1.answer⟩ := ⟨_, rfl⟩
                rw [set_encR (l := b.set n c1) (n := n) (c := c2)]
                rotate_left
                · subst e2; rfl
                rw [List.set_set]
                have hc2 := set_get (c1 := c2) hc
                refine ⟨by omega, by rw [toNat_cast]; simpa using hn, ?_⟩; (conv => whnf); (try (refine ⟨(rfl : (_ : Heap) = _), ?_⟩; (conv => whnf))); (try rw [toNat_cast]); (try rw [Nat.zero_add])
                refine ⟨_, get_enc hc2, rfl, ?_⟩
                (conv => whnf); (try (refine ⟨(rfl : (_ : Heap) = _), ?_⟩; (conv => whnf)))
                rw [set_encR (l := b.set n c2) (n := n) (c := ⟨c2.thread, c2.op, c2.from_, c2.point, c2.to_, l[j + 1].answer⟩)]
                rotate_left
                · rfl
                rw [List.set_set]
                obtain ⟨f1, f2⟩ := hfin (b.set n ⟨c2.thread, c2.op, c2.from_, c2.point, c2.to_, l[j + 1].answer⟩) (by subst e2; subst e1; simp [markC, h4, h5])
                refine .inl ⟨rfl, ?_, hex⟩; (try dsimp only); rw [f1, f2, i64_nat (by omega)]; exact Weak.covD 1 (by (conv => whnf); (repeat (refine ⟨rfl, ?_⟩; (conv => whnf))); exact trivial) rfl rfl rfl rfl rfl
              · (conv => whnf); (try (refine ⟨(rfl : (_ : Heap) = _), ?_⟩; (conv => whnf)))
                obtain ⟨f1, f2⟩ := hfin (b.set n c1) (by subst e1; simp [markC, h4, h5])
                refine .inl ⟨rfl, ?_, hex⟩; (try dsimp only); rw [f1, f2, i64_nat (by omega)]; exact Weak.covD 1 (by (conv => whnf); (repeat (refine ⟨rfl, ?_⟩; (conv => whnf))); exact trivial) rfl rfl rfl rfl rfl
            · (conv => whnf); (try (refine ⟨(rfl : (_ : Heap) = _), ?_⟩; (conv => whnf)))
              refine ⟨fun h5 => ?_, fun h5 => ?_⟩
              · (conv => whnf); (try (refine ⟨(rfl : (_ : Heap) = _), ?_⟩; (conv => whnf)))
                refine ⟨by omega, by rw [toNat_cast]; simpa using hn, ?_⟩; (conv => whnf); (try (refine ⟨(rfl : (_ : Heap) = _), ?_⟩; (conv => whnf))); (try rw [toNat_cast]); (try rw [Nat.zero_add])
                refine ⟨_, get_enc hc, rfl, ?_⟩
                (conv => whnf); (try (refine ⟨(rfl : (_ : Heap) = _), ?_⟩; (conv => whnf)))
                obtain ⟨c2, e2⟩ : ∃ c2 : Cal, c2 = ⟨c.thread, c.op, c.from_, c.point, ((j + 1 : Nat) : Int), c.answer⟩ := ⟨_, rfl⟩
                rw [set_encR (l := b) (n := n) (c := c2)]
                rotate_left
                · subst e2; rfl
                have hc2 := set_get (c1 := c2) hc
                refine ⟨by omega, by rw [toNat_cast]; simpa using hn, ?_⟩; (conv => whnf); (try (refine ⟨(rfl : (_ : Heap) = _), ?_⟩; (conv => whnf))); (try rw [toNat_cast]); (try rw [Nat.zero_add])
                refine ⟨_, get_enc hc2, rfl, ?_⟩
                (conv => whnf); (try (refine ⟨(rfl : (_ : Heap) = _), ?_⟩; (conv => whnf)))
                rw [set_encR (l := b.set n c2) (n := n) (c := ⟨c2.thread, c2.op, c2.from_, c2.point, c2.to_, l[j + 1].answer⟩)]
                rotate_left
                · rfl
                rw [List.set_set]
                obtain ⟨f1, f2⟩ := hfin (b.set n ⟨c2.thread, c2.op, c2.from_, c2.point, c2.to_, l[j + 1].answer⟩) (by subst e2; simp [markC, h4, h5])
                refine .inl ⟨rfl, ?_, hex⟩; (try dsimp only); rw [f1, f2, i64_nat (by omega)]; exact Weak.covD 1 (by (conv => whnf); (repeat (refine ⟨rfl, ?_⟩; (conv => whnf))); exact trivial) rfl rfl rfl rfl rfl
              · (conv => whnf); (try (refine ⟨(rfl : (_ : Heap) = _), ?_⟩; (conv => whnf)))
                obtain ⟨f1, f2⟩ := hfin b (by simp only [markC, h4, h5]; exact (set_self hc).symm)
                refine .inl ⟨rfl, ?_, hex⟩; (try dsimp only); rw [f1, f2, i64_nat (by omega)]; exact Weak.covD 1 (by (conv => whnf); (repeat (refine ⟨rfl, ?_⟩; (conv => whnf))); exact trivial) rfl rfl rfl rfl rfl
      · refine ⟨fun _ => ?_, fun h => absurd ((he).symm.trans h : true = false) (by decide)⟩; (conv => whnf); (try (refine ⟨(rfl : (_ : Heap) = _), ?_⟩; (conv => whnf)))
        cases hp : placeV b l[j + 1].thread l[j + 1].op with
        | some n =>
          have hpi : placeI b l[j + 1].thread l[j + 1].op = (n : Int) := by unfold placeI; rw [hp]
          rw [hpi, hbad (by unfold refE; rw [if_pos he, hp]; rfl)]
          refine ⟨fun _ => ?_, fun h => absurd h (by simp)⟩
          (conv => whnf); (try (refine ⟨(rfl : (_ : Heap) = _), ?_⟩; (conv => whnf)))
          refine .inr ⟨by simp, ?_⟩
          conv => whnf
          exact ⟨.inl rfl, _, Weak.cell 2 rfl (WC.nil 0 18), rfl⟩
        | none =>
          have hpi : placeI b l[j + 1].thread l[j + 1].op = -1 := by unfold placeI; rw [hp]
          rw [hpi]
          (repeat (first | (refine ⟨fun _ => ?_, fun h => absurd h (by decide)⟩; (conv => whnf); (try (refine ⟨(rfl : (_ : Heap) = _), ?_⟩; (conv => whnf)))) | (refine ⟨fun h => absurd h (by decide), fun _ => ?_⟩; (conv => whnf); (try (refine ⟨(rfl : (_ : Heap) = _), ?_⟩; (conv => whnf))))))
          refine ⟨_, _, busy_sound b _ l[j + 1].thread (by omega), ?_⟩
          (conv => whnf); (try (refine ⟨(rfl : (_ : Heap) = _), ?_⟩; (conv => whnf)))
          refine ⟨fun g2 => ?_, fun g2 => ?_⟩
          · rw [hbad (by unfold refE; rw [if_pos he, hp, g2]; rfl)]
            (conv => whnf); (try (refine ⟨(rfl : (_ : Heap) = _), ?_⟩; (conv => whnf)))
            refine .inr ⟨by simp, ?_⟩
            conv => whnf
            exact ⟨.inl rfl, _, Weak.cell 2 rfl (WC.nil 0 18), rfl⟩
          · (conv => whnf); (try (refine ⟨(rfl : (_ : Heap) = _), ?_⟩; (conv => whnf)))
            obtain ⟨l0, hl0⟩ : ∃ l0 : List Cal, l0 = b ++ [newCal l[j + 1] ((j + 1 : Nat) : Int)] := ⟨_, rfl⟩
            obtain ⟨c, hce⟩ : ∃ c : Cal, c = newCal l[j + 1] ((j + 1 : Nat) : Int) := ⟨_, rfl⟩
            have hc : l0[b.length]? = some c := by rw [hl0, hce]; simp
            have hll : l0.length = b.length + 1 := by rw [hl0]; simp
            have hct : c.to_ = -1 := by rw [hce]; rfl
            have hev : refE b ((j + 1 : Nat) : Int) l[j + 1] = some (l0.modify b.length (markC l[j + 1] ((j + 1 : Nat) : Int))) := by unfold refE; rw [if_pos he, if_neg (by rw [hp, g2]; decide), hl0]; (try rfl)
            refine ⟨hbm, enc_own _, by simp [maxLen]; omega, by show _ * 144 ≤ _; simp; omega, ?_⟩
            (conv => whnf); (try (refine ⟨(rfl : (_ : Heap) = _), ?_⟩; (conv => whnf)))
            rw [app_encR (l := b) (c := newCal l[j + 1] ((j + 1 : Nat) : Int))]
            rotate_left
            · rfl
            rw [← hl0]
            refine ⟨fun h => absurd h (by simp), fun _ => ?_⟩
            (conv => whnf); (try (refine ⟨(rfl : (_ : Heap) = _), ?_⟩; (conv => whnf)))
            refine ⟨by omega, by rw [toNat_cast]; simp, ?_⟩
            (conv => whnf); (try (refine ⟨(rfl : (_ : Heap) = _), ?_⟩; (conv => whnf)))
            (try rw [toNat_cast])
            (try rw [Nat.zero_add])
            refine ⟨_, get_enc hc, Nat.le_of_ble_eq_true rfl, ?_⟩
            (conv => whnf); (try (refine ⟨(rfl : (_ : Heap) = _), ?_⟩; (conv => whnf)))
            refine ⟨fun h => absurd h (by rw [hct]; decide), fun _ => ?_⟩
            (conv => whnf); (try (refine ⟨(rfl : (_ : Heap) = _), ?_⟩; (conv => whnf)))
            have hfin : ∀ l2 : List Cal, l2 = l0.set b.length (markC l[j + 1] ((j + 1 : Nat) : Int) c) → refD l (j + 1 + 1) = l2 ∧ l2.length = l0.length := fun l2 h2 => by
              subst h2
              refine ⟨?_, by simp⟩
              unfold refD; rw [hnext, hev, modify_at hc]; rfl
            have hex : ∃ b, refAt l (j + 1 + 1) = some b := ⟨_, hnext.trans hev⟩
            refine ⟨fun h4 => ?_, fun h4 => ?_⟩
            · (conv => whnf); (try (refine ⟨(rfl : (_ : Heap) = _), ?_⟩; (conv => whnf)))
              refine ⟨by omega, by rw [toNat_cast]; simp, ?_⟩; (conv => whnf); (try (refine ⟨(rfl : (_ : Heap) = _), ?_⟩; (conv => whnf))); (try rw [toNat_cast]); (try rw [Nat.zero_add])
              refine ⟨_, get_enc hc, rfl, ?_⟩
              (conv => whnf); (try (refine ⟨(rfl : (_ : Heap) = _), ?_⟩; (conv => whnf)))
              obtain ⟨c1, e1⟩ : ∃ c1 : Cal, c1 = ⟨c.thread, c.op, c.from_, ((j + 1 : Nat) : Int), c.to_, c.answer⟩ := ⟨_, rfl⟩
              rw [set_encR (l := l0) (n := b.length) (c := c1)]
              rotate_left
              · subst e1; rfl
              have hc1 := set_get (c1 := c1) hc
              refine ⟨fun h5 => ?_, fun h5 => ?_⟩
              · (conv => whnf); (try (refine ⟨(rfl : (_ : Heap) = _), ?_⟩; (conv => whnf)))
                refine ⟨by omega, by rw [toNat_cast]; simp, ?_⟩; (conv => whnf); (try (refine ⟨(rfl : (_ : Heap) = _), ?_⟩; (conv => whnf))); (try rw [toNat_cast]); (try rw [Nat.zero_add])
                refine ⟨_, get_enc hc1, rfl, ?_⟩
                (conv => whnf); (try (refine ⟨(rfl : (_ : Heap) = _), ?_⟩; (conv => whnf)))
                obtain ⟨c2, e2⟩ : ∃ c2 : Cal, c2 = ⟨c1.thread, c1.op, c1.from_, c1.point, ((j + 1 : Nat) : Int), c1.answer⟩ := ⟨_, rfl⟩
                rw [set_encR (l := l0.set b.length c1) (n := b.length) (c := c2)]
                rotate_left
                · subst e2; rfl
                rw [List.set_set]
                have hc2 := set_get (c1 := c2) hc
                refine ⟨by omega, by rw [toNat_cast]; simp, ?_⟩; (conv => whnf); (try (refine ⟨(rfl : (_ : Heap) = _), ?_⟩; (conv => whnf))); (try rw [toNat_cast]); (try rw [Nat.zero_add])
                refine ⟨_, get_enc hc2, rfl, ?_⟩
                (conv => whnf); (try (refine ⟨(rfl : (_ : Heap) = _), ?_⟩; (conv => whnf)))
                rw [set_encR (l := l0.set b.length c2) (n := b.length) (c := ⟨c2.thread, c2.op, c2.from_, c2.point, c2.to_, l[j + 1].answer⟩)]
                rotate_left
                · rfl
                rw [List.set_set]
                obtain ⟨f1, f2⟩ := hfin (l0.set b.length ⟨c2.thread, c2.op, c2.from_, c2.point, c2.to_, l[j + 1].answer⟩) (by subst e2; subst e1; simp [markC, h4, h5])
                refine .inl ⟨rfl, ?_, hex⟩; (try dsimp only); rw [f1, f2, hll, i64_nat (by omega)]; exact Weak.ren [2] [0, 2, 3, 4, 5] _ _ rfl rfl rfl rfl
              · (conv => whnf); (try (refine ⟨(rfl : (_ : Heap) = _), ?_⟩; (conv => whnf)))
                obtain ⟨f1, f2⟩ := hfin (l0.set b.length c1) (by subst e1; simp [markC, h4, h5])
                refine .inl ⟨rfl, ?_, hex⟩; (try dsimp only); rw [f1, f2, hll, i64_nat (by omega)]; exact Weak.ren [2] [0, 2, 3, 4, 5] _ _ rfl rfl rfl rfl
            · (conv => whnf); (try (refine ⟨(rfl : (_ : Heap) = _), ?_⟩; (conv => whnf)))
              refine ⟨fun h5 => ?_, fun h5 => ?_⟩
              · (conv => whnf); (try (refine ⟨(rfl : (_ : Heap) = _), ?_⟩; (conv => whnf)))
                refine ⟨by omega, by rw [toNat_cast]; simp, ?_⟩; (conv => whnf); (try (refine ⟨(rfl : (_ : Heap) = _), ?_⟩; (conv => whnf))); (try rw [toNat_cast]); (try rw [Nat.zero_add])
                refine ⟨_, get_enc hc, rfl, ?_⟩
                (conv => whnf); (try (refine ⟨(rfl : (_ : Heap) = _), ?_⟩; (conv => whnf)))
                obtain ⟨c2, e2⟩ : ∃ c2 : Cal, c2 = ⟨c.thread, c.op, c.from_, c.point, ((j + 1 : Nat) : Int), c.answer⟩ := ⟨_, rfl⟩
                rw [set_encR (l := l0) (n := b.length) (c := c2)]
                rotate_left
                · subst e2; rfl
                have hc2 := set_get (c1 := c2) hc
                refine ⟨by omega, by rw [toNat_cast]; simp, ?_⟩; (conv => whnf); (try (refine ⟨(rfl : (_ : Heap) = _), ?_⟩; (conv => whnf))); (try rw [toNat_cast]); (try rw [Nat.zero_add])
                refine ⟨_, get_enc hc2, rfl, ?_⟩
                (conv => whnf); (try (refine ⟨(rfl : (_ : Heap) = _), ?_⟩; (conv => whnf)))
                rw [set_encR (l := l0.set b.length c2) (n := b.length) (c := ⟨c2.thread, c2.op, c2.from_, c2.point, c2.to_, l[j + 1].answer⟩)]
                rotate_left
                · rfl
                rw [List.set_set]
                obtain ⟨f1, f2⟩ := hfin (l0.set b.length ⟨c2.thread, c2.op, c2.from_, c2.point, c2.to_, l[j + 1].answer⟩) (by subst e2; simp [markC, h4, h5])
                refine .inl ⟨rfl, ?_, hex⟩; (try dsimp only); rw [f1, f2, hll, i64_nat (by omega)]; exact Weak.ren [2] [0, 2, 3, 4, 5] _ _ rfl rfl rfl rfl
              · (conv => whnf); (try (refine ⟨(rfl : (_ : Heap) = _), ?_⟩; (conv => whnf)))
                obtain ⟨f1, f2⟩ := hfin l0 (by simp only [markC, h4, h5]; exact (set_self hc).symm)
                refine .inl ⟨rfl, ?_, hex⟩; (try dsimp only); rw [f1, f2, hll, i64_nat (by omega)]; exact Weak.ren [2] [0, 2, 3, 4, 5] _ _ rfl rfl rfl rfl
  · obtain ⟨b, hb⟩ := hr
    have e1 : refV l = (b, 0) := by unfold refV; rw [hb]
    rw [e1]
    cases hN : l.length with
    | zero =>
      rw [hN] at hb
      cases hb
      dsimp only
      conv => whnf
      refine ⟨fun h => absurd h (by simp [List.length_eq_zero_iff.1 hN]), fun _ => ?_⟩
      conv => whnf
      refine ⟨by simp, ?_⟩
      conv => whnf
      exact ⟨.inl rfl, _, Weak.cell 2 rfl (WC.share 1 18 []), rfl⟩
    | succ j =>
      have hD : refD l (j + 1) = b := by unfold refD; rw [← hN, hb]; rfl
      dsimp only
      rw [hD]
      conv => whnf
      refine ⟨fun h => absurd h (by simp [hN]), fun _ => ?_⟩
      conv => whnf
      refine ⟨by simp, ?_⟩
      conv => whnf
      exact ⟨.inl rfl, _, Weak.freezeA 2 rfl rfl (by simp) (fun r hr c hc => by
        obtain ⟨x, _, rfl⟩ := List.mem_map.1 hr
        exact List.all_eq_true.1 (List.all_eq_true.1 (enc_own b) _ hr) c hc), rfl⟩

end Go.Cal

/- Layer 10 (calls): two calls of two threads, walked. -/
namespace Go.Cal
open Go.Ab Go.Proofs Go.Hy
set_option linter.unusedVariables false
set_option maxRecDepth 100000

def sameEV (a b : En) : Bool := a.head == b.head && a.active == b.active && a.next == b.next
abbrev ans4 : Ans := ⟨4, 0, 0, 0, 0, 0, 0, six0⟩
abbrev p0 : Eve := ⟨1, 0, 0, 0, 0, false, 0, true, false, false, ans0⟩
abbrev p1 : Eve := ⟨0, 0, 0, 0, 0, false, 0, true, true, false, ans0⟩
abbrev p2 : Eve := ⟨0, 0, 0, 0, 0, false, 0, false, false, true, ans4⟩
abbrev p3 : Eve := ⟨1, 0, 0, 0, 0, false, 0, false, true, false, ans0⟩
abbrev p4 : Eve := ⟨0, 0, 0, 0, 0, false, 0, true, false, false, ans0⟩
abbrev p5 : Eve := ⟨0, 1, 0, 0, 0, false, 0, true, false, true, ans0⟩
abbrev plainL : List Eve := [p0, p1, p2, p3]

abbrev cA : Cal := ⟨1, 0, 0, 3, -1, ans0⟩
abbrev cB : Cal := ⟨0, 0, 1, 1, 2, ans4⟩
abbrev cD : Cal := ⟨0, 1, 3, -1, 3, ans0⟩
abbrev cA3 : Cal := ⟨1, 0, 0, -1, -1, ans0⟩

theorem of0 : ofV plainL = ([cA, cB], 0) := by kernel_rfl
theorem of1 : ofV [p1, p2, p3] = ([], 11) := by kernel_rfl
theorem of2 : ofV [p0, p1, p2, p4] = ([], 11) := by kernel_rfl
theorem of3 : ofV [p0, p1, p2, p5] = ([cA3, cB, cD], 0) := by kernel_rfl

end Go.Cal

/- Layer 10 (calls): the order of two calls, walked. -/
namespace Go.Cal
open Go.Ab Go.Proofs Go.Hy
set_option linter.unusedVariables false
set_option maxRecDepth 100000


end Go.Cal

/- Layer 10 (calls): CallsOf. -/
namespace Go.Cal
open Go.Ab Go.Proofs Go.Hy
set_option linter.unusedVariables false
set_option maxRecDepth 100000

theorem ofV_len (l : List Eve) : (ofV l).1.length ≤ l.length := by
  unfold ofV
  cases h : bkAt l l.length with
  | none => exact Nat.zero_le _
  | some b => exact (bkAt_ok h).2

end Go.Cal

