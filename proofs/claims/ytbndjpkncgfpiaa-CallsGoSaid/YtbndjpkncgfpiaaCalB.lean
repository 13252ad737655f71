/- Layer 10 (calls): an event written down, walked. -/
import Derived.Test.YtbndjpkncgfpiaaCalA
import Derived.Test.YtbndjpkncgfpiaaAbN
import Derived.Test.YtbndjpkncgfpiaaProg
namespace Go.Cal
open Go.Ab Go.Proofs Go.Hy
set_option linter.unusedVariables false
set_option maxRecDepth 100000

theorem kInt : KeyT Try.prog 3 encI64 := KeyT.int Try.underlying3
theorem kKey : KeyT Try.prog 108 encII := KeyT.two Try.underlying108 rfl (by decide) Try.underlying3 rfl (by decide) Try.underlying3 (by kernel_rfl) (fun a b => rfl)

theorem agg2_v {E : Env} {a b : Int} {u : Value} (h : L E (.agg [I a, I b]) u) : u = encII (a, b) := by
  cases h with
  | agg _ ys h1 h2 h3 =>
    obtain ⟨l⟩ := ys
    match l, h1 with
    | [x, y], _ =>
      have e1 := h2 0 _ x rfl rfl
      have e2 := h2 1 _ y rfl rfl
      cases e1; cases e2; rfl


theorem modify_at {l : List Cal} {n : Nat} {c : Cal} (h : l[n]? = some c) (f : Cal → Cal) : l.modify n f = l.set n (f c) := modify_set f h
theorem set_enc (l : List Cal) (n : Nat) (c : Cal) : (l.map encCal).set n (encCal c) = (l.set n c).map encCal := by rw [List.map_set]
theorem set_encR {l : List Cal} {n : Nat} {c : Cal} {r : List C} (h : r = encCal c) : (l.map encCal).set n r = (l.set n c).map encCal := by subst h; rw [List.map_set]
theorem get_enc {l : List Cal} {n : Nat} {c : Cal} (h : l[n]? = some c) : (l.map encCal)[n]? = some (encCal c) := by rw [List.getElem?_map, h]; rfl
theorem set_get {l : List Cal} {n : Nat} {c c1 : Cal} (h : l[n]? = some c) : (l.set n c1)[n]? = some c1 := by rw [List.getElem?_set, if_pos rfl, if_pos (List.getElem?_eq_some_iff.1 h).1]

theorem go_none {b : Bk} {i k : Int} {e : Eve} (h : k = 0 ∨ getI b.busy e.thread ≠ k) : goV b i e k = none := by unfold goV; rw [if_pos h]
theorem go_some {b : Bk} {i k : Int} {e : Eve} {c : Cal} (h : ¬ (k = 0 ∨ getI b.busy e.thread ≠ k)) (hc : b.l[(k - 1).toNat]? = some c) : goV b i e k = some ⟨b.l.set (k - 1).toNat (markC e i c), b.of_, if e.done then putV b.busy e.thread 0 else b.busy⟩ := by
  unfold goV; rw [if_neg h, modify_at hc]

theorem eventGo_sound (b1 b2 : Nat) (bk : Bk) (hb : bk.ok) (hl : bk.l.length < 4611686018427387904) (X : Ob) (i : Int) (e : Eve) (he : e.begin_ = false) :
    SoundAt Try.prog 37 [obM b1 (entE encII (vI bk.of_)) (vI bk.of_).length, obM b2 (entE encI64 (vI bk.busy)) (vI bk.busy).length, ⟨1, 76, 3, [[.sl 3 [] 18 0 bk.l.length false, .v (.map (some b1)), .v (.map (some b2))]], 0⟩, ⟨2, 38, 18, (bk.l).map encCal, 0⟩, X] [.ref 2 [] 3 0 0, I i, .agg (encEv e)] (Bo (eventV bk i e).isSome)
      (match eventV bk i e with | some b => [obM b1 (entE encII (vI b.of_)) (vI b.of_).length, obM b2 (entE encI64 (vI b.busy)) (vI b.busy).length, ⟨1, 76, 3, [[.sl 3 [] 18 0 bk.l.length false, .v (.map (some b1)), .v (.map (some b2))]], 0⟩, ⟨2, 38, 18, (b.l).map encCal, 0⟩, X, ⟨1, 42, 23, [encEv e], 0⟩] | none => [obM b1 (entE encII (vI bk.of_)) (vI bk.of_).length, obM b2 (entE encI64 (vI bk.busy)) (vI bk.busy).length, ⟨1, 76, 3, [[.sl 3 [] 18 0 bk.l.length false, .v (.map (some b1)), .v (.map (some b2))]], 0⟩, ⟨2, 38, 18, (bk.l).map encCal, 0⟩, X, ⟨1, 42, 23, [encEv e], 0⟩]) := by
  refine SoundAt.of_wpA (fn := Try.f37) Try.func37 rfl ?_
  have ev : eventV bk i e = goV bk i e (getI bk.of_ (e.thread, e.op)) := by unfold eventV; rw [if_neg (by simp [he])]
  rw [ev]
  conv => whnf
  refine ⟨⟨false, [], []⟩, by kernel_rfl, ?_⟩; (conv => whnf)
  refine ⟨_, _, OpV.lookup (id := 0) _ _ _ rfl Try.underlying73 kKey rfl rfl (e.thread, e.op) (fun E u h => agg2_v h) rfl rfl (fun E => by rw [get_vI]; exact .v _ rfl), ?_⟩; (conv => whnf); (try (refine ⟨(rfl : (_ : Heap) = _), ?_⟩; (conv => whnf)))
  have hk := hb.1 (e.thread, e.op)
  generalize getI bk.of_ (e.thread, e.op) = k at *
  refine ⟨fun h => absurd ((he).symm.trans h : false = true) (by decide), fun _ => ?_⟩; (conv => whnf); (try (refine ⟨(rfl : (_ : Heap) = _), ?_⟩; (conv => whnf)))
  refine ⟨⟨false, [], []⟩, by kernel_rfl, ?_⟩; (conv => whnf)
  refine ⟨fun h1 => ?_, fun h1 => ?_⟩
  · rw [go_none (.inl (by simpa using h1))]
    (conv => whnf); (try (refine ⟨(rfl : (_ : Heap) = _), ?_⟩; (conv => whnf)))
    exact ⟨.inl rfl, _, .refl _, rfl, rfl⟩
  · (conv => whnf); (try (refine ⟨(rfl : (_ : Heap) = _), ?_⟩; (conv => whnf)))
    refine ⟨_, _, OpV.lookup (id := 1) _ _ _ rfl Try.underlying74 kInt rfl rfl (e.thread) (fun E u h => val_v h) rfl rfl (fun E => by rw [get_vI]; exact .v _ rfl), ?_⟩; (conv => whnf); (try (refine ⟨(rfl : (_ : Heap) = _), ?_⟩; (conv => whnf)))
    refine ⟨fun h2 => ?_, fun h2 => ?_⟩
    · rw [go_none (.inr (by simpa using h2))]
      (conv => whnf); (try (refine ⟨(rfl : (_ : Heap) = _), ?_⟩; (conv => whnf)))
      exact ⟨.inl rfl, _, .refl _, rfl, rfl⟩
    · have h3 : ¬ (k = 0 ∨ getI bk.busy e.thread ≠ k) := by simp at h1 h2; simp [h1, h2]
      have hn : (k - 1).toNat < bk.l.length := by omega
      obtain ⟨c, hc⟩ : ∃ c, bk.l[(k - 1).toNat]? = some c := ⟨_, List.getElem?_eq_getElem hn⟩
      rw [go_some h3 hc]
      (conv => whnf); (try (refine ⟨(rfl : (_ : Heap) = _), ?_⟩; (conv => whnf)))
      rw [i64_ok (by omega) (by omega)]
      refine ⟨by omega, hn, ?_⟩
      (conv => whnf); (try (refine ⟨(rfl : (_ : Heap) = _), ?_⟩; (conv => whnf)))
      generalize hN : (k - 1).toNat = n at *
      have fin : ∀ (X : Prop), X → X := fun _ h => h
      refine ⟨fun h4 => ?_, fun h4 => ?_⟩
      · (conv => whnf); (try (refine ⟨(rfl : (_ : Heap) = _), ?_⟩; (conv => whnf)))
        rw [Nat.zero_add]
        refine ⟨_, get_enc hc, rfl, ?_⟩
        (conv => whnf); (try (refine ⟨(rfl : (_ : Heap) = _), ?_⟩; (conv => whnf)))
        obtain ⟨c1, e1⟩ : ∃ c1 : Cal, c1 = ⟨c.thread, c.op, c.from_, i, c.to_, c.answer⟩ := ⟨_, rfl⟩
        rw [set_encR (l := bk.l) (n := n) (c := c1)]
        rotate_left
        · subst e1; rfl
        have hc1 := set_get (c1 := c1) hc
        generalize hL : bk.l.set n c1 = l1 at *
        have hmk : e.done = false → bk.l.set n (markC e i c) = l1 := fun hd => by rw [← hL, e1]; simp [markC, h4, hd]
        have hmd : e.done = true → bk.l.set n (markC e i c) = l1.set n ⟨c1.thread, c1.op, c1.from_, c1.point, i, e.answer⟩ := fun hd => by rw [← hL, List.set_set, e1]; simp [markC, h4, hd]
        refine ⟨fun h5 => ?_, fun h5 => ?_⟩
        · (conv => whnf); (try (refine ⟨(rfl : (_ : Heap) = _), ?_⟩; (conv => whnf))); refine ⟨⟨false, [4], [5]⟩, by kernel_rfl, ?_⟩; (conv => whnf); (try rw [Nat.zero_add]); (refine ⟨_, get_enc hc1, rfl, ?_⟩); (conv => whnf); (try (refine ⟨(rfl : (_ : Heap) = _), ?_⟩; (conv => whnf))); (refine ⟨rfl, ?_⟩); (conv => whnf); (try (refine ⟨(rfl : (_ : Heap) = _), ?_⟩; (conv => whnf))); (obtain ⟨c2, e2⟩ : ∃ c2 : Cal, c2 = ⟨c1.thread, c1.op, c1.from_, c1.point, i, c1.answer⟩ := ⟨_, rfl⟩); rw [set_encR (l := l1) (n := n) (c := c2)]; (rotate_left; focus (subst e2; rfl)); (have hc2 := set_get (c1 := c2) hc1); (refine ⟨_, get_enc hc2, rfl, ?_⟩); (conv => whnf); (try (refine ⟨(rfl : (_ : Heap) = _), ?_⟩; (conv => whnf))); (refine ⟨rfl, ?_⟩); (conv => whnf); (try (refine ⟨(rfl : (_ : Heap) = _), ?_⟩; (conv => whnf))); rw [set_encR (l := l1.set n c2) (n := n) (c := ⟨c1.thread, c1.op, c1.from_, c1.point, i, e.answer⟩)]; (rotate_left; focus (subst e2; rfl)); (rw [List.set_set]); refine ⟨⟨false, [], []⟩, by kernel_rfl, ?_⟩; (conv => whnf); refine ⟨_, _, OpV.mapUpdate (id := 1) _ _ _ _ (.inl rfl) Try.underlying74 kInt rfl rfl (e.thread) (fun E u h => val_v h) (encI64 0) (fun E u h => val_v h), ?_⟩; (conv => whnf); (try (refine ⟨(rfl : (_ : Heap) = _), ?_⟩; (conv => whnf))); rw [putV_vI]; (rw [hmd h5, if_pos h5]); exact ⟨.inl rfl, _, .refl _, rfl, rfl⟩
        · (conv => whnf); (try (refine ⟨(rfl : (_ : Heap) = _), ?_⟩; (conv => whnf))); (rw [hmk h5, if_neg (by simp [h5])]); exact ⟨.inl rfl, _, .refl _, rfl, rfl⟩
      · have hmk : e.done = false → bk.l.set n (markC e i c) = bk.l := fun hd => by
          have : markC e i c = c := by simp [markC, h4, hd]
          rw [this]
          exact set_self hc
        have hmd : e.done = true → bk.l.set n (markC e i c) = bk.l.set n ⟨c.thread, c.op, c.from_, c.point, i, e.answer⟩ := fun hd => by simp [markC, h4, hd]
        (conv => whnf); (try (refine ⟨(rfl : (_ : Heap) = _), ?_⟩; (conv => whnf)))
        refine ⟨fun h5 => ?_, fun h5 => ?_⟩
        · (conv => whnf); (try (refine ⟨(rfl : (_ : Heap) = _), ?_⟩; (conv => whnf))); refine ⟨⟨false, [4], [5]⟩, by kernel_rfl, ?_⟩; (conv => whnf); (try rw [Nat.zero_add]); (refine ⟨_, get_enc hc, rfl, ?_⟩); (conv => whnf); (try (refine ⟨(rfl : (_ : Heap) = _), ?_⟩; (conv => whnf))); (refine ⟨rfl, ?_⟩); (conv => whnf); (try (refine ⟨(rfl : (_ : Heap) = _), ?_⟩; (conv => whnf))); (obtain ⟨c2, e2⟩ : ∃ c2 : Cal, c2 = ⟨c.thread, c.op, c.from_, c.point, i, c.answer⟩ := ⟨_, rfl⟩); rw [set_encR (l := bk.l) (n := n) (c := c2)]; (rotate_left; focus (subst e2; rfl)); (have hc2 := set_get (c1 := c2) hc); (refine ⟨_, get_enc hc2, rfl, ?_⟩); (conv => whnf); (try (refine ⟨(rfl : (_ : Heap) = _), ?_⟩; (conv => whnf))); (refine ⟨rfl, ?_⟩); (conv => whnf); (try (refine ⟨(rfl : (_ : Heap) = _), ?_⟩; (conv => whnf))); rw [set_encR (l := bk.l.set n c2) (n := n) (c := ⟨c.thread, c.op, c.from_, c.point, i, e.answer⟩)]; (rotate_left; focus (subst e2; rfl)); (rw [List.set_set]); refine ⟨⟨false, [], []⟩, by kernel_rfl, ?_⟩; (conv => whnf); refine ⟨_, _, OpV.mapUpdate (id := 1) _ _ _ _ (.inl rfl) Try.underlying74 kInt rfl rfl (e.thread) (fun E u h => val_v h) (encI64 0) (fun E u h => val_v h), ?_⟩; (conv => whnf); (try (refine ⟨(rfl : (_ : Heap) = _), ?_⟩; (conv => whnf))); rw [putV_vI]; (rw [hmd h5, if_pos h5]); exact ⟨.inl rfl, _, .refl _, rfl, rfl⟩
        · (conv => whnf); (try (refine ⟨(rfl : (_ : Heap) = _), ?_⟩; (conv => whnf))); (rw [hmk h5, if_neg (by simp [h5])]); exact ⟨.inl rfl, _, .refl _, rfl, rfl⟩

end Go.Cal
