/- Layer 10 (calls): a trace's first event, walked. -/
import Derived.Test.YtbndjpkncgfpiaaCalC
namespace Go.Cal
open Go.Ab Go.Proofs Go.Hy
set_option linter.unusedVariables false
set_option maxRecDepth 100000


abbrev bk0 : Bk := ⟨[], [], []⟩
theorem get0 {κ : Type} [DecidableEq κ] (k : κ) : getI ([] : List (κ × Int)) k = 0 := rfl

theorem app_nilR {c : Cal} {r : List C} (h : r = encCal c) : ([] : List (List C)) ++ [r] = [c].map encCal := by subst h; rfl

theorem eventFirstNo_sound (b1 b2 : Nat) (X : Ob) (i : Int) (e : Eve) (he : e.begin_ = false) :
    SoundAt Try.prog 37 [obM b1 (entE encII (vI bk0.of_)) (vI bk0.of_).length, obM b2 (entE encI64 (vI bk0.busy)) (vI bk0.busy).length, ⟨1, 76, 3, [[.lst 1 0 [], .v (.map (some b1)), .v (.map (some b2))]], 0⟩, X] [.ref 2 [] 3 0 0, I i, .agg (encEv e)] (Bo false) [obM b1 (entE encII (vI bk0.of_)) (vI bk0.of_).length, obM b2 (entE encI64 (vI bk0.busy)) (vI bk0.busy).length, ⟨1, 76, 3, [[.lst 1 0 [], .v (.map (some b1)), .v (.map (some b2))]], 0⟩, X, ⟨1, 42, 23, [encEv e], 0⟩] := by
  refine SoundAt.of_wpA (fn := Try.f37) Try.func37 rfl ?_
  conv => whnf
  refine ⟨⟨false, [], []⟩, by kernel_rfl, ?_⟩; (conv => whnf)
  refine ⟨_, _, OpV.lookup (id := 0) _ _ _ rfl Try.underlying73 kKey rfl rfl (e.thread, e.op) (fun E u h => agg2_v h) rfl rfl (fun E => by rw [get_vI]; exact .v _ rfl), ?_⟩; (conv => whnf); (try (refine ⟨(rfl : (_ : Heap) = _), ?_⟩; (conv => whnf)))
  refine ⟨fun h => absurd ((he).symm.trans h : false = true) (by decide), fun _ => ?_⟩; (conv => whnf); (try (refine ⟨(rfl : (_ : Heap) = _), ?_⟩; (conv => whnf)))
  refine ⟨⟨false, [], []⟩, by kernel_rfl, ?_⟩; (conv => whnf)
  refine ⟨fun _ => ?_, fun h => absurd h (by rw [get0]; decide)⟩
  (conv => whnf); (try (refine ⟨(rfl : (_ : Heap) = _), ?_⟩; (conv => whnf)))
  exact ⟨.inl rfl, _, .refl _, rfl, rfl⟩

theorem eventFirst_sound (b1 b2 : Nat) (X : Ob) (i : Int) (e : Eve) (he : e.begin_ = true) :
    SoundAt Try.prog 37 [obM b1 (entE encII (vI bk0.of_)) (vI bk0.of_).length, obM b2 (entE encI64 (vI bk0.busy)) (vI bk0.busy).length, ⟨1, 76, 3, [[.lst 1 0 [], .v (.map (some b1)), .v (.map (some b2))]], 0⟩, X] [.ref 2 [] 3 0 0, I i, .agg (encEv e)] (Bo true)
      (match eventV bk0 i e with | some b => [obM b1 (entE encII (vI b.of_)) (vI b.of_).length, obM b2 (entE encI64 (vI b.busy)) (vI b.busy).length, ⟨1, 76, 3, [[.sl 5 [] 18 0 1 false, .v (.map (some b1)), .v (.map (some b2))]], 0⟩, X, ⟨1, 42, 23, [encEv e], 0⟩, ⟨2, 38, 18, (b.l).map encCal, 0⟩] | none => []) := by
  refine SoundAt.of_wpA (fn := Try.f37) Try.func37 rfl ?_
  conv => whnf
  refine ⟨⟨false, [], []⟩, by kernel_rfl, ?_⟩; (conv => whnf)
  refine ⟨_, _, OpV.lookup (id := 0) _ _ _ rfl Try.underlying73 kKey rfl rfl (e.thread, e.op) (fun E u h => agg2_v h) rfl rfl (fun E => by rw [get_vI]; exact .v _ rfl), ?_⟩; (conv => whnf); (try (refine ⟨(rfl : (_ : Heap) = _), ?_⟩; (conv => whnf)))
  refine ⟨fun _ => ?_, fun h => absurd ((he).symm.trans h : true = false) (by decide)⟩; (conv => whnf); (try (refine ⟨(rfl : (_ : Heap) = _), ?_⟩; (conv => whnf)))
  refine ⟨⟨false, [], []⟩, by kernel_rfl, ?_⟩; (conv => whnf)
  refine ⟨fun h => absurd h (by rw [get0]; decide), fun _ => ?_⟩
  · (conv => whnf); (try (refine ⟨(rfl : (_ : Heap) = _), ?_⟩; (conv => whnf)))
    refine ⟨_, _, OpV.lookup (id := 1) _ _ _ rfl Try.underlying74 kInt rfl rfl (e.thread) (fun E u h => val_v h) rfl rfl (fun E => by rw [get_vI]; exact .v _ rfl), ?_⟩; (conv => whnf); (try (refine ⟨(rfl : (_ : Heap) = _), ?_⟩; (conv => whnf)))
    refine ⟨fun h => absurd h (by rw [get0]; decide), fun _ => ?_⟩
    · have hno : ¬ (0 < getI bk0.of_ (e.thread, e.op) ∨ 0 < getI bk0.busy e.thread) := by rw [get0, get0]; decide
      obtain ⟨l0, hl0⟩ : ∃ l0 : List Cal, l0 = [⟨e.thread, e.op, i, -1, -1, ans0⟩] := ⟨_, rfl⟩
      have ev : eventV bk0 i e = goV ⟨l0, putV bk0.of_ (e.thread, e.op) (1 : Int), putV bk0.busy e.thread (1 : Int)⟩ i e (1 : Int) := by unfold eventV; rw [if_pos he, if_neg hno, hl0]; rfl
      have hbz : getI (putV bk0.busy e.thread (1 : Int)) e.thread = 1 := by rw [findV_put, if_pos rfl]
      obtain ⟨c, hce⟩ : ∃ c : Cal, c = ⟨e.thread, e.op, i, -1, -1, ans0⟩ := ⟨_, rfl⟩
      have hc : l0[((1 : Int) - 1).toNat]? = some c := by
        have : ((1 : Int) - 1).toNat = 0 := by omega
        rw [this, hl0, hce]
        simp
      rw [ev, go_some (by rw [hbz]; omega) hc]
      (conv => whnf); (try (refine ⟨(rfl : (_ : Heap) = _), ?_⟩; (conv => whnf)))
      refine ⟨⟨false, [], []⟩, by kernel_rfl, ?_⟩; (conv => whnf)
      refine .inr ⟨.inl rfl, by simp [maxLen], by show _ * 144 ≤ _; simp, ?_⟩
      (conv => whnf); (try (refine ⟨(rfl : (_ : Heap) = _), ?_⟩; (conv => whnf)))
      rw [app_nilR (c := ⟨e.thread, e.op, i, -1, -1, ans0⟩)]
      rotate_left
      · rfl
      rw [← hl0]
      have e1 : 0 + ([].length (α := List C) + 1) = 0 + 1 := rfl
      refine ⟨⟨false, [3, 5, 7, 12, 14], [2, 4]⟩, by kernel_rfl, ?_⟩; (conv => whnf)
      refine ⟨_, _, OpV.mapEntry (id := 0) _ _ _ rfl Try.underlying73 kKey rfl rfl ((e.thread, e.op)) (fun E u h => agg2_v h) rfl rfl, ?_⟩; (conv => whnf); (try (refine ⟨(rfl : (_ : Heap) = _), ?_⟩; (conv => whnf))); (refine ⟨rfl, rfl, ?_⟩); (conv => whnf); (try (refine ⟨(rfl : (_ : Heap) = _), ?_⟩; (conv => whnf)))
      (obtain ⟨hi0, hset0⟩ := ens_put (vI bk0.of_) (e.thread, e.op) (encI64 0) (encI64 (1 : Int))); (refine ⟨_, _, OpV.entryStore (id := 0) _ _ _ _ rfl rfl rfl rfl hi0 (encI64 (1 : Int)) (fun E u h => val_v h), ?_⟩); (conv => whnf); (try (refine ⟨(rfl : (_ : Heap) = _), ?_⟩; (conv => whnf))); (refine ⟨rfl, rfl, ?_⟩); (conv => whnf); (try (refine ⟨(rfl : (_ : Heap) = _), ?_⟩; (conv => whnf))); rw [hset0, putV_vI]
      refine ⟨_, _, OpV.mapEntry (id := 1) _ _ _ rfl Try.underlying74 kInt rfl rfl (e.thread) (fun E u h => val_v h) rfl rfl, ?_⟩; (conv => whnf); (try (refine ⟨(rfl : (_ : Heap) = _), ?_⟩; (conv => whnf))); (refine ⟨rfl, rfl, ?_⟩); (conv => whnf); (try (refine ⟨(rfl : (_ : Heap) = _), ?_⟩; (conv => whnf)))
      (obtain ⟨hi1, hset1⟩ := ens_put (vI bk0.busy) e.thread (encI64 0) (encI64 (1 : Int))); (refine ⟨_, _, OpV.entryStore (id := 1) _ _ _ _ rfl rfl rfl rfl hi1 (encI64 (1 : Int)) (fun E u h => val_v h), ?_⟩); (conv => whnf); (try (refine ⟨(rfl : (_ : Heap) = _), ?_⟩; (conv => whnf))); (refine ⟨rfl, rfl, ?_⟩); (conv => whnf); (try (refine ⟨(rfl : (_ : Heap) = _), ?_⟩; (conv => whnf))); rw [hset1, putV_vI]
      refine ⟨⟨false, [], []⟩, by kernel_rfl, ?_⟩; (conv => whnf)
      refine ⟨fun h => absurd h (by simp), fun _ => ?_⟩
      (conv => whnf); (try (refine ⟨(rfl : (_ : Heap) = _), ?_⟩; (conv => whnf)))
      refine ⟨_, _, OpV.lookup (id := 1) _ _ _ rfl Try.underlying74 kInt rfl rfl (e.thread) (fun E u h => val_v h) rfl rfl (fun E => by rw [get_vI]; exact .v _ rfl), ?_⟩; (conv => whnf); (try (refine ⟨(rfl : (_ : Heap) = _), ?_⟩; (conv => whnf)))
      refine ⟨fun h => absurd h (by rw [findV_put, if_pos rfl]; simp), fun _ => ?_⟩
      (conv => whnf); (try (refine ⟨(rfl : (_ : Heap) = _), ?_⟩; (conv => whnf)))
      have ek : (((([] : List (List C)).length + (([] : List (List C)).length + 1)) : Nat) : Int) = 1 := by simp
      rw [ek, i64_ok (by omega) (by omega)]
      refine ⟨by omega, by simp, ?_⟩
      (conv => whnf); (try (refine ⟨(rfl : (_ : Heap) = _), ?_⟩; (conv => whnf)))
      generalize hN : ((1 : Int) - 1).toNat = n at *
      refine ⟨fun h4 => ?_, fun h4 => ?_⟩
      · (conv => whnf); (try (refine ⟨(rfl : (_ : Heap) = _), ?_⟩; (conv => whnf)))
        rw [Nat.zero_add]
        refine ⟨_, get_enc hc, rfl, ?_⟩
        (conv => whnf); (try (refine ⟨(rfl : (_ : Heap) = _), ?_⟩; (conv => whnf)))
        obtain ⟨c1, e1⟩ : ∃ c1 : Cal, c1 = ⟨c.thread, c.op, c.from_, i, c.to_, c.answer⟩ := ⟨_, rfl⟩
        rw [set_encR (l := l0) (n := n) (c := c1)]
        rotate_left
        · subst e1; rfl
        have hc1 := set_get (c1 := c1) hc
        generalize hL : l0.set n c1 = l1 at *
        have hmk : e.done = false → l0.set n (markC e i c) = l1 := fun hd => by rw [← hL, e1]; simp [markC, h4, hd]
        have hmd : e.done = true → l0.set n (markC e i c) = l1.set n ⟨c1.thread, c1.op, c1.from_, c1.point, i, e.answer⟩ := fun hd => by rw [← hL, List.set_set, e1]; simp [markC, h4, hd]
        refine ⟨fun h5 => ?_, fun h5 => ?_⟩
        · (conv => whnf); (try (refine ⟨(rfl : (_ : Heap) = _), ?_⟩; (conv => whnf))); refine ⟨⟨false, [4], [4]⟩, by kernel_rfl, ?_⟩; (conv => whnf); (try rw [Nat.zero_add]); (refine ⟨_, get_enc hc1, rfl, ?_⟩); (conv => whnf); (try (refine ⟨(rfl : (_ : Heap) = _), ?_⟩; (conv => whnf))); (refine ⟨rfl, ?_⟩); (conv => whnf); (try (refine ⟨(rfl : (_ : Heap) = _), ?_⟩; (conv => whnf))); (obtain ⟨c2, e2⟩ : ∃ c2 : Cal, c2 = ⟨c1.thread, c1.op, c1.from_, c1.point, i, c1.answer⟩ := ⟨_, rfl⟩); rw [set_encR (l := l1) (n := n) (c := c2)]; (rotate_left; focus (subst e2; rfl)); (have hc2 := set_get (c1 := c2) hc1); (refine ⟨_, get_enc hc2, rfl, ?_⟩); (conv => whnf); (try (refine ⟨(rfl : (_ : Heap) = _), ?_⟩; (conv => whnf))); (refine ⟨rfl, ?_⟩); (conv => whnf); (try (refine ⟨(rfl : (_ : Heap) = _), ?_⟩; (conv => whnf))); rw [set_encR (l := l1.set n c2) (n := n) (c := ⟨c1.thread, c1.op, c1.from_, c1.point, i, e.answer⟩)]; (rotate_left; focus (subst e2; rfl)); (rw [List.set_set]); refine ⟨⟨false, [], []⟩, by kernel_rfl, ?_⟩; (conv => whnf); refine ⟨_, _, OpV.mapUpdate (id := 1) _ _ _ _ (.inl rfl) Try.underlying74 kInt rfl rfl (e.thread) (fun E u h => val_v h) (encI64 0) (fun E u h => val_v h), ?_⟩; (conv => whnf); (try (refine ⟨(rfl : (_ : Heap) = _), ?_⟩; (conv => whnf))); rw [putV_vI]; (rw [hmd h5, if_pos h5]); exact ⟨.inl rfl, _, .refl _, rfl, rfl⟩
        · (conv => whnf); (try (refine ⟨(rfl : (_ : Heap) = _), ?_⟩; (conv => whnf))); (rw [hmk h5, if_neg (by simp [h5])]); exact ⟨.inl rfl, _, .refl _, rfl, rfl⟩
      · have hmk : e.done = false → l0.set n (markC e i c) = l0 := fun hd => by
          have : markC e i c = c := by simp [markC, h4, hd]
          rw [this]
          exact set_self hc
        have hmd : e.done = true → l0.set n (markC e i c) = l0.set n ⟨c.thread, c.op, c.from_, c.point, i, e.answer⟩ := fun hd => by simp [markC, h4, hd]
        (conv => whnf); (try (refine ⟨(rfl : (_ : Heap) = _), ?_⟩; (conv => whnf)))
        refine ⟨fun h5 => ?_, fun h5 => ?_⟩
        · (conv => whnf); (try (refine ⟨(rfl : (_ : Heap) = _), ?_⟩; (conv => whnf))); refine ⟨⟨false, [4], [4]⟩, by kernel_rfl, ?_⟩; (conv => whnf); (try rw [Nat.zero_add]); (refine ⟨_, get_enc hc, rfl, ?_⟩); (conv => whnf); (try (refine ⟨(rfl : (_ : Heap) = _), ?_⟩; (conv => whnf))); (refine ⟨rfl, ?_⟩); (conv => whnf); (try (refine ⟨(rfl : (_ : Heap) = _), ?_⟩; (conv => whnf))); (obtain ⟨c2, e2⟩ : ∃ c2 : Cal, c2 = ⟨c.thread, c.op, c.from_, c.point, i, c.answer⟩ := ⟨_, rfl⟩); rw [set_encR (l := l0) (n := n) (c := c2)]; (rotate_left; focus (subst e2; rfl)); (have hc2 := set_get (c1 := c2) hc); (refine ⟨_, get_enc hc2, rfl, ?_⟩); (conv => whnf); (try (refine ⟨(rfl : (_ : Heap) = _), ?_⟩; (conv => whnf))); (refine ⟨rfl, ?_⟩); (conv => whnf); (try (refine ⟨(rfl : (_ : Heap) = _), ?_⟩; (conv => whnf))); rw [set_encR (l := l0.set n c2) (n := n) (c := ⟨c.thread, c.op, c.from_, c.point, i, e.answer⟩)]; (rotate_left; focus (subst e2; rfl)); (rw [List.set_set]); refine ⟨⟨false, [], []⟩, by kernel_rfl, ?_⟩; (conv => whnf); refine ⟨_, _, OpV.mapUpdate (id := 1) _ _ _ _ (.inl rfl) Try.underlying74 kInt rfl rfl (e.thread) (fun E u h => val_v h) (encI64 0) (fun E u h => val_v h), ?_⟩; (conv => whnf); (try (refine ⟨(rfl : (_ : Heap) = _), ?_⟩; (conv => whnf))); rw [putV_vI]; (rw [hmd h5, if_pos h5]); exact ⟨.inl rfl, _, .refl _, rfl, rfl⟩
        · (conv => whnf); (try (refine ⟨(rfl : (_ : Heap) = _), ?_⟩; (conv => whnf))); (rw [hmk h5, if_neg (by simp [h5])]); exact ⟨.inl rfl, _, .refl _, rfl, rfl⟩

end Go.Cal
