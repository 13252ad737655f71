/- Joined: SnaA SnaB SnaC SnaD LinA. -/
import Derived.Test.YtbndjpkncgfpiaaGreatQE
/- Layers 6, 7 and 12 (routes, snap, turns): the program, walked. -/
namespace Go.Sna
open Go.Ab Go.Proofs Go.Hy Go.Gat Go.Nam Go.Hos Go.Con
set_option linter.unusedVariables false
set_option linter.unusedSimpArgs false
set_option maxRecDepth 8000
set_option maxHeartbeats 2000000

/-! ### Where one of a name stands -/

theorem lis1_sound (s x : Str) : SoundAt Tryz.prog 51 [⟨1, 9, 1, [[Tx s]], 0⟩] [Tx x, .ref 0 [] 1 0 0] (Bo (x == s)) [⟨1, 9, 1, [[Tx s]], 0⟩] := by
  refine SoundAt.of_wpA (fn := Tryz.f51) Tryz.func51 rfl ?_
  conv => whnf
  refine ⟨fun h => ?_, fun h => ?_⟩ <;> rw [h]
  · conv => whnf
    exact ⟨.inl rfl, _, .refl _, rfl, rfl⟩
  · conv => whnf
    exact ⟨.inl rfl, _, .refl _, rfl, rfl⟩
theorem clu1_sound (s : Str) (x : Clu) : SoundAt Tryz.prog 53 [⟨1, 9, 1, [[Tx s]], 0⟩, ⟨1, 68, 4, [encC x], 0⟩] [Cc x, .ref 0 [] 1 0 0] (Bo (x.name == s)) [⟨1, 9, 1, [[Tx s]], 0⟩, ⟨1, 68, 4, [encC x], 0⟩] := by
  refine SoundAt.of_wpA (fn := Tryz.f53) Tryz.func53 rfl ?_
  conv => whnf
  refine ⟨fun h => ?_, fun h => ?_⟩ <;> rw [h]
  · conv => whnf
    exact ⟨.inl rfl, _, Weak.keep [3] 2 _ _ rfl rfl rfl rfl, rfl, rfl⟩
  · conv => whnf
    exact ⟨.inl rfl, _, Weak.keep [3] 2 _ _ rfl rfl rfl rfl, rfl, rfl⟩

theorem placeT_sound (l : List Str) (s : Str) (hl : l.length < 4611686018427387904) : SoundAt Tryz.prog 50 [⟨1, 9, 1, [[Tx s]], 0⟩] [lT l, .fn 51 [] [.ref 0 [] 1 0 0]] (I (idxT l s)) [⟨1, 9, 1, [[Tx s]], 0⟩] := by
  have hlm : (l.map encT).length = l.length := List.length_map ..
  refine SoundAt.of_wpA (fn := Tryz.f50) Tryz.func50 rfl ?_
  conv => whnf
  rw [hlm]
  refine Loops.seq l.length (fun k => [lT l, .fn 51 [] [.ref 0 [] 1 0 0], .junk, .junk, I 0, .junk, .junk, lT l, I l.length, I k, .junk, .junk, .junk, .junk, .junk, .junk, .junk, .junk, .junk]) (fun k => [⟨1, 9, 1, [[Tx s]], 0⟩]) (fun k => ∀ j, (h : j < l.length) → j < k → (l[j] == s) = false) ?_ (by simp) (fun k hk hr => ?_) (fun hr => ?_)
  · exact Weak.cov (by (conv => whnf); (repeat (refine ⟨rfl, ?_⟩; (conv => whnf))); exact trivial)
  · have hg : (l.map encT)[k]? = some (encT l[k]) := by rw [List.getElem?_map, List.getElem?_eq_getElem hk]; rfl
    conv => whnf
    (refine ⟨fun _ => ?_, fun h => absurd h (by simp; omega)⟩); (conv => whnf); (try (refine ⟨(rfl : (_ : Heap) = _), ?_⟩; (conv => whnf)))
    (refine ⟨by omega, _, by rw [toNat_cast]; exact hg, ?_⟩); (conv => whnf); (try (refine ⟨(rfl : (_ : Heap) = _), ?_⟩; (conv => whnf)))
    refine ⟨_, _, lis1_sound s l[k], ?_⟩
    (conv => whnf); (try (refine ⟨(rfl : (_ : Heap) = _), ?_⟩; (conv => whnf)))
    refine ⟨fun h2 => ?_, fun h2 => ?_⟩
    · (conv => whnf); (try (refine ⟨(rfl : (_ : Heap) = _), ?_⟩; (conv => whnf)))
      (refine .inr ⟨by simp, ?_⟩); (conv => whnf)
      have e : idxT l s = k := by
        unfold idxT
        have : l.findIdx? (fun x => x == s) = some k := by
          rw [List.findIdx?_eq_some_iff_getElem]
          exact ⟨hk, h2, fun j hj => by simp only [hr j (by omega) hj]; decide⟩
        rw [this]
      rw [e]
      exact ⟨.inl rfl, _, .refl _, rfl, rfl⟩
    · (conv => whnf); (try (refine ⟨(rfl : (_ : Heap) = _), ?_⟩; (conv => whnf)))
      refine .inl ⟨rfl, ?_, fun j hj hjk => ?_⟩
      · rw [i64_nat (by omega)]
        exact Weak.cov (by (conv => whnf); (repeat (refine ⟨rfl, ?_⟩; (conv => whnf))); exact trivial)
      · by_cases e : j = k
        · subst e; exact h2
        · exact hr j hj (by omega)
  · (conv => whnf); (refine ⟨fun h => absurd h (by simp), fun _ => ?_⟩); (conv => whnf); (try (refine ⟨(rfl : (_ : Heap) = _), ?_⟩; (conv => whnf))); (refine ⟨by simp, ?_⟩); (conv => whnf)
    have e : idxT l s = -1 := by
      unfold idxT
      have : l.findIdx? (fun x => x == s) = none := by
        rw [List.findIdx?_eq_none_iff]
        intro x hx
        obtain ⟨j, hj, rfl⟩ := List.mem_iff_getElem.1 hx
        exact hr j hj hj
      rw [this]
    rw [e]
    exact ⟨.inl rfl, _, .refl _, rfl, rfl⟩
theorem listener_sound (l : List Str) (s : Str) (hl : l.length < 4611686018427387904) : SoundAt Tryz.prog 35 [] [lT l, Tx s] (I (idxT l s)) [] := by
  refine SoundAt.of_wpA1 (fn := Tryz.f35) Tryz.func35 rfl ?_
  conv => whnf
  refine ⟨_, _, placeT_sound l s hl, ?_⟩
  (conv => whnf); (try (refine ⟨(rfl : (_ : Heap) = _), ?_⟩; (conv => whnf)))
  exact ⟨.inl rfl, _, .refl _, rfl⟩

theorem placeC_sound (l : List Clu) (s : Str) (hl : l.length < 4611686018427387904) : SoundAt Tryz.prog 52 [⟨1, 9, 1, [[Tx s]], 0⟩] [lC l, .fn 53 [] [.ref 0 [] 1 0 0]] (I (idxN l s)) [⟨1, 9, 1, [[Tx s]], 0⟩] := by
  have hlm : (l.map encC).length = l.length := List.length_map ..
  refine SoundAt.of_wpA (fn := Tryz.f52) Tryz.func52 rfl ?_
  conv => whnf
  rw [hlm]
  refine Loops.seq l.length (fun k => [lC l, .fn 53 [] [.ref 0 [] 1 0 0], .junk, .junk, I 0, .junk, .junk, lC l, I l.length, I k, .junk, .junk, .junk, .junk, .junk, .junk, .junk, .junk, .junk]) (fun k => [⟨1, 9, 1, [[Tx s]], 0⟩]) (fun k => ∀ j, (h : j < l.length) → j < k → (l[j].name == s) = false) ?_ (by simp) (fun k hk hr => ?_) (fun hr => ?_)
  · exact Weak.cov (by (conv => whnf); (repeat (refine ⟨rfl, ?_⟩; (conv => whnf))); exact trivial)
  · have hg : (l.map encC)[k]? = some (encC l[k]) := by rw [List.getElem?_map, List.getElem?_eq_getElem hk]; rfl
    conv => whnf
    (refine ⟨fun _ => ?_, fun h => absurd h (by simp; omega)⟩); (conv => whnf); (try (refine ⟨(rfl : (_ : Heap) = _), ?_⟩; (conv => whnf)))
    (refine ⟨by omega, _, by rw [toNat_cast]; exact hg, ?_⟩); (conv => whnf); (try (refine ⟨(rfl : (_ : Heap) = _), ?_⟩; (conv => whnf)))
    refine ⟨_, _, clu1_sound s l[k], ?_⟩
    (conv => whnf); (try (refine ⟨(rfl : (_ : Heap) = _), ?_⟩; (conv => whnf)))
    refine ⟨fun h2 => ?_, fun h2 => ?_⟩
    · (conv => whnf); (try (refine ⟨(rfl : (_ : Heap) = _), ?_⟩; (conv => whnf)))
      (refine .inr ⟨by simp, ?_⟩); (conv => whnf)
      have e : idxN l s = k := by
        unfold idxN
        have : l.findIdx? (fun x => x.name == s) = some k := by
          rw [List.findIdx?_eq_some_iff_getElem]
          exact ⟨hk, h2, fun j hj => by simp only [hr j (by omega) hj]; decide⟩
        rw [this]
      rw [e]
      exact ⟨.inl rfl, _, Weak.keep [4] 1 _ _ rfl rfl rfl rfl, rfl, rfl⟩
    · (conv => whnf); (try (refine ⟨(rfl : (_ : Heap) = _), ?_⟩; (conv => whnf)))
      refine .inl ⟨rfl, ?_, fun j hj hjk => ?_⟩
      · rw [i64_nat (by omega)]
        exact Weak.covD 1 (by (conv => whnf); (repeat (refine ⟨rfl, ?_⟩; (conv => whnf))); exact trivial) rfl rfl rfl rfl rfl
      · by_cases e : j = k
        · subst e; exact h2
        · exact hr j hj (by omega)
  · (conv => whnf); (refine ⟨fun h => absurd h (by simp), fun _ => ?_⟩); (conv => whnf); (try (refine ⟨(rfl : (_ : Heap) = _), ?_⟩; (conv => whnf))); (refine ⟨by simp, ?_⟩); (conv => whnf)
    have e : idxN l s = -1 := by
      unfold idxN
      have : l.findIdx? (fun x => x.name == s) = none := by
        rw [List.findIdx?_eq_none_iff]
        intro x hx
        obtain ⟨j, hj, rfl⟩ := List.mem_iff_getElem.1 hx
        exact hr j hj hj
      rw [this]
    rw [e]
    exact ⟨.inl rfl, _, .refl _, rfl, rfl⟩
theorem cluster_sound (l : List Clu) (s : Str) (hl : l.length < 4611686018427387904) : SoundAt Tryz.prog 36 [] [lC l, Tx s] (I (idxN l s)) [] := by
  refine SoundAt.of_wpA1 (fn := Tryz.f36) Tryz.func36 rfl ?_
  conv => whnf
  refine ⟨_, _, placeC_sound l s hl, ?_⟩
  (conv => whnf); (try (refine ⟨(rfl : (_ : Heap) = _), ?_⟩; (conv => whnf)))
  exact ⟨.inl rfl, _, .refl _, rfl⟩

/-! ### The healthy ones -/

def idxB (h : List Bool) : Nat → List Int
  | 0 => []
  | k + 1 => if h[k]? = some true then idxB h k ++ [(k : Int)] else idxB h k
theorem idxB_len (h : List Bool) : ∀ k, (idxB h k).length ≤ k
  | 0 => Nat.le_refl _
  | k + 1 => by
    have := idxB_len h k
    simp only [idxB]
    split
    · simp; omega
    · omega
theorem healthy_sound (X0 X1 : Ob) (c : Clu) : SoundAt Tryz.prog 57 [X0, X1] [Cc c] (.fn 72 [] [.ref 2 [] 4 0 0]) [X0, X1, ⟨1, 68, 4, [encC c], 0⟩] := by
  refine SoundAt.of_wpA (fn := Tryz.f57) Tryz.func57 rfl ?_
  conv => whnf
  exact ⟨.inl rfl, _, .refl _, rfl, rfl⟩
theorem healthy1_sound (l : Nat) (c : Clu) (hl : c.health.length < 4611686018427387904) (X0 : Ob) (X : Nat → Ob) (Y : Nat → List Ob)
    (hy : ∀ k, c.health[k]? = some true → YieldS Tryz.prog l (X0 :: X k :: ⟨1, 68, 4, [encC c], 0⟩ :: Y k) [I k] (Bo true) (X0 :: X (k + 1) :: ⟨1, 68, 4, [encC c], 0⟩ :: Y (k + 1))) (hn : ∀ k, c.health[k]? = some false → X (k + 1) = X k ∧ Y (k + 1) = Y k) :
    SoundAt Tryz.prog 72 (X0 :: X 0 :: ⟨1, 68, 4, [encC c], 0⟩ :: Y 0) [.v (.func (.yield l) #[] #[]), .ref 2 [] 4 0 0] (.tup []) (X0 :: X c.health.length :: ⟨1, 68, 4, [encC c], 0⟩ :: Y c.health.length) := by
  have mh : (c.health.map encB).length = c.health.length := List.length_map ..
  refine SoundAt.of_wpA (fn := Tryz.f72) Tryz.func72 rfl ?_
  conv => whnf
  rw [mh]
  refine Loops.seq c.health.length (fun k => [.v (.func (.yield l) #[] #[]), .ref 2 [] 4 0 0, .junk, .junk, .junk, .junk, lB c.health, I c.health.length, I k, .junk, .junk, .junk, .junk, .junk, .junk, .junk, .junk, .junk, .junk, .junk, .junk]) (fun k => X0 :: X k :: ⟨1, 68, 4, [encC c], 0⟩ :: Y k) (fun k => True) ?_ trivial (fun k hk hr => ?_) (fun hr => ?_)
  · exact Weak.cov (by (conv => whnf); (repeat (refine ⟨rfl, ?_⟩; (conv => whnf))); exact trivial)
  · have hg : (c.health.map encB)[k]? = some (encB c.health[k]) := by rw [List.getElem?_map, List.getElem?_eq_getElem hk]; rfl
    conv => whnf
    (refine ⟨fun _ => ?_, fun h => absurd h (by simp; omega)⟩); (conv => whnf); (try (refine ⟨(rfl : (_ : Heap) = _), ?_⟩; (conv => whnf)))
    (refine ⟨by omega, _, by rw [toNat_cast]; exact hg, ?_⟩); (conv => whnf); (try (refine ⟨(rfl : (_ : Heap) = _), ?_⟩; (conv => whnf)))
    refine ⟨fun h2 => ?_, fun h2 => ?_⟩
    · (conv => whnf); (try (refine ⟨(rfl : (_ : Heap) = _), ?_⟩; (conv => whnf)))
      refine ⟨_, _, hy k (by rw [List.getElem?_eq_getElem hk, h2]), ?_⟩
      (conv => whnf); (try (refine ⟨(rfl : (_ : Heap) = _), ?_⟩; (conv => whnf)))
      (repeat (first | (refine ⟨fun _ => ?_, fun h => absurd h (by decide)⟩; (conv => whnf); (try (refine ⟨(rfl : (_ : Heap) = _), ?_⟩; (conv => whnf)))) | (refine ⟨fun h => absurd h (by decide), fun _ => ?_⟩; (conv => whnf); (try (refine ⟨(rfl : (_ : Heap) = _), ?_⟩; (conv => whnf))))))
      refine .inl ⟨rfl, ?_, trivial⟩
      rw [i64_nat (by omega)]
      exact Weak.cov (by (conv => whnf); (repeat (refine ⟨rfl, ?_⟩; (conv => whnf))); exact trivial)
    · obtain ⟨e1, e2⟩ := hn k (by rw [List.getElem?_eq_getElem hk, h2])
      (conv => whnf); (try (refine ⟨(rfl : (_ : Heap) = _), ?_⟩; (conv => whnf)))
      refine .inl ⟨rfl, ?_, trivial⟩
      rw [i64_nat (by omega), e1, e2]
      exact Weak.cov (by (conv => whnf); (repeat (refine ⟨rfl, ?_⟩; (conv => whnf))); exact trivial)
  · (conv => whnf); (refine ⟨fun h => absurd h (by simp), fun _ => ?_⟩); (conv => whnf); (try (refine ⟨(rfl : (_ : Heap) = _), ?_⟩; (conv => whnf))); (refine ⟨by simp, ?_⟩); (conv => whnf)
    exact ⟨.inr rfl, _, .refl _, rfl, rfl⟩

theorem healthyAll_sound (c : Clu) (hl : c.health.length < 1000000000000) : SoundAt Tryz.prog 39 [] [Cc c] (lI (idxB c.health c.health.length)) [] := by
  refine SoundAt.of_wpA1 (fn := Tryz.f39) Tryz.func39 rfl ?_
  conv => whnf
  refine ⟨_, _, healthy_sound _ _ c, ?_⟩
  conv => whnf
  refine ⟨_, Weak.growH 1 0 3 1 rfl rfl (.inl rfl) rfl rfl, ?_⟩
  have hlen := idxB_len c.health c.health.length
  refine ⟨.normal, _, [⟨1, 68, 4, [encC c], 0⟩, ⟨1, 28, 1, [[.gl 3 1 ((idxB c.health c.health.length).map encI)]], 0⟩, ⟨1, 68, 4, [encC c], 0⟩, ⟨4, 3, 1, (idxB c.health c.health.length).map encI, 0⟩],
    fun l r h1 h2 h3 h4 h5 => ⟨_, _, r, healthy1_sound l c (by omega) _ (fun k => ⟨1, 28, 1, [[.gl 3 1 ((idxB c.health k).map encI)]], 0⟩) (fun k => [⟨4, 3, 1, (idxB c.health k).map encI, 0⟩, obR l r _]) (fun k hk => ?_) (fun k hk => ?_),
    rfl, by rw [h1]; decide, rfl, Nat.zero_le _, by rw [h2]; trivial, Weak.low 4 _ _ rfl rfl rfl⟩, ?_⟩
  · refine YieldS.of_wpA (id := 4) rfl h1 h2 h3 h4 h5 rfl rfl rfl ?_
    conv => whnf
    refine ⟨rfl, rfl, ?_⟩
    conv => whnf
    have hkl := (List.getElem?_eq_some_iff.1 hk).1
    have := idxB_len c.health k
    refine ⟨rfl, .inr rfl, by simp [maxLen]; omega, by show _ * 8 ≤ _; simp; omega, ?_⟩
    conv => whnf
    have e : (idxB c.health (k + 1)).map encI = (idxB c.health k).map encI ++ [[I k]] := by simp only [idxB]; rw [if_pos hk]; simp [encI]
    rw [e]
    exact ⟨_, _, .refl _, rfl, .inl ⟨rfl, rfl, rfl⟩⟩
  · have e : idxB c.health (k + 1) = idxB c.health k := by simp only [idxB]; rw [if_neg (by rw [hk]; simp)]
    exact ⟨by simp only [e], by simp only [e]⟩
  · conv => whnf
    exact ⟨.inl rfl, _, .refl _, rfl⟩
end Go.Sna

/- Layers 6 and 7 (routes, snap): the best rule, a snapshot built, walked. -/
namespace Go.Sna
open Go.Ab Go.Proofs Go.Hy Go.Gat Go.Nam Go.Hos Go.Con
set_option linter.unusedVariables false
set_option linter.unusedSimpArgs false
set_option maxRecDepth 8000
set_option maxHeartbeats 2000000

theorem rowsLow_all {n : Nat} {H : Heap} (h : ∀ ob ∈ H, rowsLow n [ob] = true) : rowsLow n H = true := by
  unfold rowsLow
  rw [List.all_eq_true]
  intro ob hob
  have := h ob hob
  unfold rowsLow at this
  simpa using this

abbrev Cu (r : Rul) : C := .agg (encU4 r)
def fitsV (r : Rul) (n : Int) (h p : Str) : Bool := r.listen == n && matchV r.host h && underV p r.path

/-- What bounds a rule's texts. -/
def SmallU (r : Rul) : Prop := r.host.length < 1000000000000 ∧ r.path.length < 1000000000000

theorem fits_sound (r : Rul) (n : Int) (h p : Str) (hr : SmallU r) (hh : h.length < 1000000000000) (hp : p.length < 1000000000000) : SoundAt Tryz.prog 88 [] [Cu r, I n, Tx h, Tx p] (Bo (fitsV r n h p)) [] := by
  have ⟨r1, r2⟩ := hr
  refine SoundAt.of_wpA1 (fn := Tryz.f88) Tryz.func88 rfl ?_
  conv => whnf
  refine ⟨fun h1 => ?_, fun h1 => ?_⟩
  · (conv => whnf); (try (refine ⟨(rfl : (_ : Heap) = _), ?_⟩; (conv => whnf)))
    refine ⟨_, _, (match_sound r.host h (by omega) (by omega)).frame rfl _, ?_⟩; (conv => whnf); (try (refine ⟨(rfl : (_ : Heap) = _), ?_⟩; (conv => whnf)))
    refine ⟨fun h2 => ?_, fun h2 => ?_⟩
    · (conv => whnf); (try (refine ⟨(rfl : (_ : Heap) = _), ?_⟩; (conv => whnf)))
      refine ⟨_, _, (under_sound p r.path (by omega) (by omega)).frame rfl _, ?_⟩; (conv => whnf); (try (refine ⟨(rfl : (_ : Heap) = _), ?_⟩; (conv => whnf)))
      refine ⟨fun h3 => ?_, fun h3 => ?_⟩
      · (conv => whnf); (try (refine ⟨(rfl : (_ : Heap) = _), ?_⟩; (conv => whnf)))
        (exact ⟨.inl rfl, _, .refl _, congrArg (fun b => some (C.v (Value.bool b))) (by simp at h1; simp [fitsV, h1, h2, h3])⟩)
      · (conv => whnf); (try (refine ⟨(rfl : (_ : Heap) = _), ?_⟩; (conv => whnf)))
        (exact ⟨.inl rfl, _, .refl _, congrArg (fun b => some (C.v (Value.bool b))) (by simp [fitsV, h2, h3])⟩)
    · (conv => whnf); (try (refine ⟨(rfl : (_ : Heap) = _), ?_⟩; (conv => whnf)))
      (exact ⟨.inl rfl, _, .refl _, congrArg (fun b => some (C.v (Value.bool b))) (by simp [fitsV, h2])⟩)
  · (conv => whnf); (try (refine ⟨(rfl : (_ : Heap) = _), ?_⟩; (conv => whnf)))
    (exact ⟨.inl rfl, _, .refl _, congrArg (fun b => some (C.v (Value.bool b))) (by simp at h1; simp [fitsV, h1])⟩)

/-- The best one of the first so many. -/
def bst (l : List Rul) (n : Int) (h p : Str) : Nat → Int
  | 0 => -1
  | k + 1 => match l[k]? with
    | none => bst l n h p k
    | some r => if fitsV r n h p then (match l[(bst l n h p k).toNat]? with
        | none => (k : Int)
        | some b => if bst l n h p k < 0 ∨ betterV r.host r.path b.host b.path = true then (k : Int) else bst l n h p k) else bst l n h p k
theorem bst_lt (l : List Rul) (n : Int) (h p : Str) : ∀ k, bst l n h p k = -1 ∨ (0 ≤ bst l n h p k ∧ bst l n h p k < k ∧ (bst l n h p k).toNat < l.length)
  | 0 => .inl rfl
  | k + 1 => by
    have ih := bst_lt l n h p k
    simp only [bst]
    cases hk : l[k]? with
    | none => simp only; omega
    | some r =>
      have := (List.getElem?_eq_some_iff.1 hk).1
      simp only
      split
      · split
        · omega
        · split <;> omega
      · omega
def bestV (l : List Rul) (n : Int) (h p : Str) : Int × Int := if bst l n h p l.length < 0 then (0, 5) else (bst l n h p l.length, 0)

theorem fitting_sound (l : List Rul) (n : Int) (h p : Str) (X0 X1 : Ob) : SoundAt Tryz.prog 70 [X0, X1] [lRul l, I n, Tx h, Tx p] (.fn 87 [] [.ref 2 [] 1 0 0, .ref 3 [] 1 0 0, .ref 4 [] 1 0 0, .ref 5 [] 1 0 0]) [X0, X1, ⟨1, 78, 1, [[lRul l]], 0⟩, ⟨1, 3, 1, [[I n]], 0⟩, ⟨1, 9, 1, [[Tx h]], 0⟩, ⟨1, 9, 1, [[Tx p]], 0⟩] := by
  refine SoundAt.of_wpA (fn := Tryz.f70) Tryz.func70 rfl ?_
  conv => whnf
  exact ⟨.inl rfl, _, .refl _, rfl, rfl⟩

theorem fitting1_sound (y : Nat) (l : List Rul) (n : Int) (h p : Str) (hl : l.length < 4611686018427387904) (hs : ∀ r ∈ l, SmallU r) (hh : h.length < 1000000000000) (hp : p.length < 1000000000000) (X : Nat → Ob) (Y : Ob) (hX : ∀ k, rowsLow 7 [X k] = true) (hY : rowsLow 7 [Y] = true)
    (hy : ∀ k r, l[k]? = some r → fitsV r n h p = true → YieldS Tryz.prog y [⟨1, 78, 1, [[lRul l]], 0⟩, X k, ⟨1, 78, 1, [[lRul l]], 0⟩, ⟨1, 3, 1, [[I n]], 0⟩, ⟨1, 9, 1, [[Tx h]], 0⟩, ⟨1, 9, 1, [[Tx p]], 0⟩, Y, ⟨1, 102, 4, [encU4 r], 0⟩] [I k, Cu r] (Bo true) [⟨1, 78, 1, [[lRul l]], 0⟩, X (k + 1), ⟨1, 78, 1, [[lRul l]], 0⟩, ⟨1, 3, 1, [[I n]], 0⟩, ⟨1, 9, 1, [[Tx h]], 0⟩, ⟨1, 9, 1, [[Tx p]], 0⟩, Y, ⟨1, 102, 4, [encU4 r], 0⟩]) (hn : ∀ k r, l[k]? = some r → fitsV r n h p = false → X (k + 1) = X k) :
    SoundAt Tryz.prog 87 [⟨1, 78, 1, [[lRul l]], 0⟩, X 0, ⟨1, 78, 1, [[lRul l]], 0⟩, ⟨1, 3, 1, [[I n]], 0⟩, ⟨1, 9, 1, [[Tx h]], 0⟩, ⟨1, 9, 1, [[Tx p]], 0⟩, Y] [.v (.func (.yield y) #[] #[]), .ref 2 [] 1 0 0, .ref 3 [] 1 0 0, .ref 4 [] 1 0 0, .ref 5 [] 1 0 0] (.tup []) [⟨1, 78, 1, [[lRul l]], 0⟩, X l.length, ⟨1, 78, 1, [[lRul l]], 0⟩, ⟨1, 3, 1, [[I n]], 0⟩, ⟨1, 9, 1, [[Tx h]], 0⟩, ⟨1, 9, 1, [[Tx p]], 0⟩, Y] := by
  have mh : (l.map encU4).length = l.length := List.length_map ..
  refine SoundAt.of_wpA (fn := Tryz.f87) Tryz.func87 rfl ?_
  conv => whnf
  rw [mh]
  refine Loops.seq l.length (fun k => [.v (.func (.yield y) #[] #[]), .ref 2 [] 1 0 0, .ref 3 [] 1 0 0, .ref 4 [] 1 0 0, .ref 5 [] 1 0 0, .junk, .junk, .junk, lRul l, I l.length, I k, .junk, .junk, .junk, .junk, .junk, .junk, .junk, .junk, .junk, .junk, .junk, .junk, .junk, .junk, .junk, .junk, .junk]) (fun k => [⟨1, 78, 1, [[lRul l]], 0⟩, X k, ⟨1, 78, 1, [[lRul l]], 0⟩, ⟨1, 3, 1, [[I n]], 0⟩, ⟨1, 9, 1, [[Tx h]], 0⟩, ⟨1, 9, 1, [[Tx p]], 0⟩, Y]) (fun k => True) ?_ trivial (fun k hk hr => ?_) (fun hr => ?_)
  · exact Weak.cov (by (conv => whnf); (repeat (refine ⟨rfl, ?_⟩; (conv => whnf))); exact trivial)
  · obtain ⟨r, hx⟩ : ∃ r, r = l[k] := ⟨_, rfl⟩
    have hg : (l.map encU4)[k]? = some (encU4 r) := by rw [List.getElem?_map, List.getElem?_eq_getElem hk, hx]; rfl
    have hk' : l[k]? = some r := by rw [List.getElem?_eq_getElem hk, hx]
    conv => whnf
    (refine ⟨fun _ => ?_, fun h => absurd h (by simp; omega)⟩); (conv => whnf); (try (refine ⟨(rfl : (_ : Heap) = _), ?_⟩; (conv => whnf)))
    (refine ⟨by omega, _, by rw [toNat_cast]; exact hg, ?_⟩); (conv => whnf); (try (refine ⟨(rfl : (_ : Heap) = _), ?_⟩; (conv => whnf)))
    refine ⟨_, _, (fits_sound r n h p (hs r (by rw [hx]; exact List.getElem_mem hk)) hh hp).frame rfl _, ?_⟩; (conv => whnf); (try (refine ⟨(rfl : (_ : Heap) = _), ?_⟩; (conv => whnf)))
    refine ⟨fun h2 => ?_, fun h2 => ?_⟩
    · (conv => whnf); (try (refine ⟨(rfl : (_ : Heap) = _), ?_⟩; (conv => whnf)))
      refine ⟨_, _, hy k r hk' h2, ?_⟩
      (conv => whnf); (try (refine ⟨(rfl : (_ : Heap) = _), ?_⟩; (conv => whnf)))
      (repeat (first | (refine ⟨fun _ => ?_, fun h => absurd h (by decide)⟩; (conv => whnf); (try (refine ⟨(rfl : (_ : Heap) = _), ?_⟩; (conv => whnf)))) | (refine ⟨fun h => absurd h (by decide), fun _ => ?_⟩; (conv => whnf); (try (refine ⟨(rfl : (_ : Heap) = _), ?_⟩; (conv => whnf))))))
      refine .inl ⟨rfl, ?_, trivial⟩
      rw [i64_nat (by omega)]
      exact Weak.covD 7 (by (conv => whnf); (repeat (refine ⟨rfl, ?_⟩; (conv => whnf))); exact trivial) rfl rfl rfl (rowsLow_all (by intro ob hob; simp at hob; rcases hob with rfl | rfl | rfl | rfl | rfl | rfl | rfl <;> first | exact hX _ | exact hY | rfl)) rfl
    · have e1 := hn k r hk' h2
      (conv => whnf); (try (refine ⟨(rfl : (_ : Heap) = _), ?_⟩; (conv => whnf)))
      refine .inl ⟨rfl, ?_, trivial⟩
      rw [i64_nat (by omega), e1]
      exact Weak.covD 7 (by (conv => whnf); (repeat (refine ⟨rfl, ?_⟩; (conv => whnf))); exact trivial) rfl rfl rfl (rowsLow_all (by intro ob hob; simp at hob; rcases hob with rfl | rfl | rfl | rfl | rfl | rfl | rfl <;> first | exact hX _ | exact hY | rfl)) rfl
  · (conv => whnf); (refine ⟨fun h => absurd h (by simp), fun _ => ?_⟩); (conv => whnf); (try (refine ⟨(rfl : (_ : Heap) = _), ?_⟩; (conv => whnf))); (refine ⟨by simp, ?_⟩); (conv => whnf)
    exact ⟨.inr rfl, _, .refl _, rfl, rfl⟩

theorem best_sound (l : List Rul) (n : Int) (h p : Str) (hl : l.length < 1000000000000) (hs : ∀ r ∈ l, SmallU r) (hh : h.length < 1000000000000) (hp : p.length < 1000000000000) : SoundAt Tryz.prog 56 [] [lRul l, I n, Tx h, Tx p] (t2 (bestV l n h p)) [] := by
  refine SoundAt.of_wpA1 (fn := Tryz.f56) Tryz.func56 rfl ?_
  conv => whnf
  refine ⟨_, _, fitting_sound l n h p _ _, ?_⟩
  conv => whnf
  refine ⟨_, .refl _, ?_⟩
  refine ⟨.normal, _, [⟨1, 78, 1, [[lRul l]], 0⟩, ⟨1, 3, 1, [[I (bst l n h p l.length)]], 0⟩, ⟨1, 78, 1, [[lRul l]], 0⟩, ⟨1, 3, 1, [[I n]], 0⟩, ⟨1, 9, 1, [[Tx h]], 0⟩, ⟨1, 9, 1, [[Tx p]], 0⟩], fun y r h1 h2 h3 h4 h5 => ⟨_, _, r, fitting1_sound y l n h p (by omega) hs hh hp (fun k => ⟨1, 3, 1, [[I (bst l n h p k)]], 0⟩) (obR y r _) (fun k => rfl) rfl (fun k r hk hf => ?_) (fun k r hk hf => ?_),
    rfl, by rw [h1]; decide, rfl, Nat.zero_le _, by rw [h2]; trivial, Weak.low 6 _ _ rfl rfl rfl⟩, ?_⟩
  · refine YieldS.of_wpA (id := 6) rfl h1 h2 h3 h4 h5 rfl rfl rfl ?_
    conv => whnf
    refine ⟨rfl, rfl, ?_⟩
    conv => whnf
    refine ⟨⟨false, [], [], []⟩, by kernel_rfl, ?_⟩; (conv => whnf)
    have hk0 := (List.getElem?_eq_some_iff.1 hk).1
    have hsr := hs r (List.mem_of_getElem? hk)
    have hb := bst_lt l n h p k
    refine ⟨fun hb1 => ?_, fun hb1 => ?_⟩
    · have e : bst l n h p (k + 1) = k := by
        simp only [bst, hk, if_pos hf]
        have hb1 : bst l n h p k < 0 := by simpa using hb1
        split
        · rfl
        · rw [if_pos (.inl hb1)]
      rw [e]
      (conv => whnf); (try (refine ⟨(rfl : (_ : Heap) = _), ?_⟩; (conv => whnf)))
      (repeat (first | (refine ⟨fun _ => ?_, fun h => absurd h (by decide)⟩; (conv => whnf); (try (refine ⟨(rfl : (_ : Heap) = _), ?_⟩; (conv => whnf)))) | (refine ⟨fun h => absurd h (by decide), fun _ => ?_⟩; (conv => whnf); (try (refine ⟨(rfl : (_ : Heap) = _), ?_⟩; (conv => whnf))))))
      exact ⟨_, _, Weak.low 8 _ _ rfl rfl rfl, rfl, .inl ⟨rfl, rfl, rfl⟩⟩
    · have hb1 : 0 ≤ bst l n h p k := by simpa using hb1
      obtain ⟨b, hgb⟩ : ∃ b, l[(bst l n h p k).toNat]? = some b := ⟨_, List.getElem?_eq_getElem (by omega)⟩
      have hgb' : (l.map encU4)[(bst l n h p k).toNat]? = some (encU4 b) := by rw [List.getElem?_map, hgb]; rfl
      have hsb := hs b (List.mem_of_getElem? hgb)
      (conv => whnf); (try (refine ⟨(rfl : (_ : Heap) = _), ?_⟩; (conv => whnf)))
      refine ⟨hb1, _, hgb', ?_⟩
      (conv => whnf); (try (refine ⟨(rfl : (_ : Heap) = _), ?_⟩; (conv => whnf)))
      refine ⟨hb1, _, hgb', ?_⟩
      (conv => whnf); (try (refine ⟨(rfl : (_ : Heap) = _), ?_⟩; (conv => whnf)))
      refine ⟨_, _, (better_sound r.host r.path b.host b.path (by have := hsr.1; omega) (by have := hsb.1; omega)).frame rfl _, ?_⟩; (conv => whnf); (try (refine ⟨(rfl : (_ : Heap) = _), ?_⟩; (conv => whnf)))
      refine ⟨fun hb2 => ?_, fun hb2 => ?_⟩
      · have e : bst l n h p (k + 1) = k := by
          simp only [bst, hk, if_pos hf, hgb]
          rw [if_pos (.inr hb2)]
        rw [e]
        (conv => whnf); (try (refine ⟨(rfl : (_ : Heap) = _), ?_⟩; (conv => whnf)))
        exact ⟨_, _, Weak.low 8 _ _ rfl rfl rfl, rfl, .inl ⟨rfl, rfl, rfl⟩⟩
      · have e : bst l n h p (k + 1) = bst l n h p k := by
          simp only [bst, hk, if_pos hf, hgb]
          rw [if_neg (by simp [hb2]; exact hb1)]
        rw [e]
        (conv => whnf); (try (refine ⟨(rfl : (_ : Heap) = _), ?_⟩; (conv => whnf)))
        exact ⟨_, _, Weak.low 8 _ _ rfl rfl rfl, rfl, .inl ⟨rfl, rfl, rfl⟩⟩
  · simp only [bst, hk, hf]
    rfl
  · conv => whnf
    refine ⟨fun h1 => ?_, fun h1 => ?_⟩
    · have e : bestV l n h p = (0, 5) := by unfold bestV; rw [if_pos (by simpa using h1)]
      rw [e]
      (conv => whnf); (try (refine ⟨(rfl : (_ : Heap) = _), ?_⟩; (conv => whnf)))
      exact ⟨.inl rfl, _, .refl _, rfl⟩
    · have e : bestV l n h p = (bst l n h p l.length, 0) := by unfold bestV; rw [if_neg (by simpa using h1)]
      rw [e]
      (conv => whnf); (try (refine ⟨(rfl : (_ : Heap) = _), ?_⟩; (conv => whnf)))
      exact ⟨.inl rfl, _, .refl _, rfl⟩
end Go.Sna

/- Layer 7 (snap): a snapshot built, and a cluster found, walked. -/
namespace Go.Sna
open Go.Ab Go.Proofs Go.Hy Go.Gat Go.Nam Go.Hos Go.Con
set_option linter.unusedVariables false
set_option linter.unusedSimpArgs false
set_option maxRecDepth 8000
set_option maxHeartbeats 2000000

def ruleV (c : Cfg) (r : Rou) : Rul := ⟨idxT c.listens r.listen, r.host, r.path, idxN c.clusters r.cluster⟩
def buildV (c : Cfg) : Sna × Int × Int := if (checkV c).1 ≠ 0 then (⟨[], [], []⟩, checkV c) else (⟨c.listens, c.routes.map (ruleV c), c.clusters⟩, 0, 0)
abbrev Cs (s : Sna) : C := .agg (encS s)
abbrev t3 (r : Sna × Int × Int) : C := .tup [Cs r.1, I r.2.1, I r.2.2]


theorem build_sound (c : Cfg) (hc : SmallC c) : SoundAt Tryz.prog 24 [] [Cf c] (t3 (buildV c)) [] := by
  have m1 : (c.routes.map encO).length = c.routes.length := List.length_map ..
  have hl := hc.routes.1
  have hl1 := hc.listens.1
  have hl2 := hc.clusters.1
  refine SoundAt.of_wpA1 (fn := Tryz.f24) Tryz.func24 rfl ?_
  conv => whnf
  refine ⟨_, _, (check_sound c hc).frame rfl _, ?_⟩; (conv => whnf); (try (refine ⟨(rfl : (_ : Heap) = _), ?_⟩; (conv => whnf)))
  refine ⟨fun h1 => ?_, fun h1 => ?_⟩
  · have e : buildV c = (⟨[], [], []⟩, checkV c) := by unfold buildV; rw [if_pos (by simpa using h1)]
    rw [e]
    (conv => whnf); (try (refine ⟨(rfl : (_ : Heap) = _), ?_⟩; (conv => whnf)))
    exact ⟨.inl rfl, _, Weak.var 1 rfl rfl rfl (.cons (WC.nil 0 1) (.cons (WC.nil 0 4) (.cons (WC.nil 0 4) .nil))), rfl⟩
  · have e : buildV c = (⟨c.listens, c.routes.map (ruleV c), c.clusters⟩, 0, 0) := by unfold buildV; rw [if_neg (by simpa using h1)]
    rw [e]
    (conv => whnf); (try (refine ⟨(rfl : (_ : Heap) = _), ?_⟩; (conv => whnf)))
    rw [m1]
    refine Loops.seq c.routes.length (fun k => [.junk, .ref 0 [] 3 0 0, .ref 1 [] 3 0 0, I 0, I 0, .junk, .junk, .ref 2 [] 3 0 0, .junk, .junk, .junk, .junk, .junk, .junk, .junk, .junk, .junk, .junk, .junk, .junk, .junk, .junk, .junk, .junk, .junk, .junk, lO c.routes, I c.routes.length, I k, .junk, .junk, .junk, .junk, .junk, .junk, .junk, .junk, .junk, .junk, .junk, .junk, .junk, .junk, .junk, .junk, .junk, .junk, .junk, .junk, .junk, .junk, .junk, .junk, .junk]) (fun k => [⟨1, 26, 3, [encF c], 0⟩, ⟨1, 80, 3, [[.lst 1 0 [], .lst 1 0 [], .lst 1 0 []]], 0⟩, ⟨1, 80, 3, [[lT c.listens, .gl 3 4 (((c.routes.take k).map (ruleV c)).map encU4), lC c.clusters]], 0⟩, ⟨4, 102, 4, ((c.routes.take k).map (ruleV c)).map encU4, 0⟩]) (fun k => True) ?_ trivial (fun k hk hr => ?_) (fun hr => ?_)
    · refine Weak.trans (Weak.growH 2 1 102 4 rfl rfl (.inl rfl) rfl rfl) ?_
      exact Weak.cov (by (conv => whnf); (repeat (refine ⟨rfl, ?_⟩; (conv => whnf))); exact trivial)
    · obtain ⟨r, hx⟩ : ∃ r, r = c.routes[k] := ⟨_, rfl⟩
      have hg : (c.routes.map encO)[k]? = some (encO r) := by rw [List.getElem?_map, List.getElem?_eq_getElem hk, hx]; rfl
      have hs := hc.routes.2 r (by rw [hx]; exact List.getElem_mem hk)
      have hlg : (((c.routes.take k).map (ruleV c)).map encU4).length = k := by simp; omega
      have eg : ((c.routes.take (k + 1)).map (ruleV c)).map encU4 = ((c.routes.take k).map (ruleV c)).map encU4 ++ [encU4 (ruleV c r)] := by rw [List.take_succ_eq_append_getElem hk, ← hx]; simp
      conv => whnf
      (refine ⟨fun _ => ?_, fun h => absurd h (by simp; omega)⟩); (conv => whnf); (try (refine ⟨(rfl : (_ : Heap) = _), ?_⟩; (conv => whnf)))
      (refine ⟨by omega, _, by rw [toNat_cast]; exact hg, ?_⟩); (conv => whnf); (try (refine ⟨(rfl : (_ : Heap) = _), ?_⟩; (conv => whnf)))
      refine ⟨⟨false, [3, 5, 6, 8, 10, 12, 14, 15], [0, 4], []⟩, by kernel_rfl, ?_⟩; (conv => whnf)
      refine ⟨I (idxT c.listens r.listen), fun H2 => (listener_sound c.listens r.listen (by omega)).frame rfl H2, ?_⟩
      (conv => whnf); (try (refine ⟨(rfl : (_ : Heap) = _), ?_⟩; (conv => whnf)))
      refine ⟨I (idxN c.clusters r.cluster), fun H2 => (cluster_sound c.clusters r.cluster (by omega)).frame rfl H2, ?_⟩
      (conv => whnf); (try (refine ⟨(rfl : (_ : Heap) = _), ?_⟩; (conv => whnf)))
      refine ⟨rfl, .inr rfl, by rw [hlg]; simp [maxLen]; omega, by rw [hlg]; show (k + 1) * 48 ≤ _; omega, ?_⟩
      (conv => whnf); (try (refine ⟨(rfl : (_ : Heap) = _), ?_⟩; (conv => whnf)))
      refine ⟨rfl, rfl, ?_⟩
      (conv => whnf); (try (refine ⟨(rfl : (_ : Heap) = _), ?_⟩; (conv => whnf)))
      refine ⟨rfl, rfl, ?_⟩
      (conv => whnf); (try (refine ⟨(rfl : (_ : Heap) = _), ?_⟩; (conv => whnf)))
      refine .inl ⟨rfl, ?_, trivial⟩
      rw [i64_nat (by omega), eg]
      exact Weak.covD 4 (by (conv => whnf); (repeat (refine ⟨rfl, ?_⟩; (conv => whnf))); exact trivial) rfl rfl rfl rfl rfl
    · (conv => whnf); (refine ⟨fun h => absurd h (by simp), fun _ => ?_⟩); (conv => whnf); (try (refine ⟨(rfl : (_ : Heap) = _), ?_⟩; (conv => whnf))); (refine ⟨by simp, ?_⟩); (conv => whnf)
      rw [List.take_length]
      exact ⟨.inl rfl, _, .refl _, rfl⟩

/-! ### Found -/

structure SmallS (s : Sna) : Prop where
  listens : s.listens.length < 1000000000000
  rules : s.rules.length < 1000000000000 ∧ ∀ r ∈ s.rules, SmallU r
def foundV (s : Sna) (n h p : Str) : Int × Int :=
  if idxT s.listens n < 0 then (0, 3) else if (bestV s.rules (idxT s.listens n) h p).2 ≠ 0 then (0, (bestV s.rules (idxT s.listens n) h p).2)
  else match s.rules[(bestV s.rules (idxT s.listens n) h p).1.toNat]? with
    | some r => (r.cluster, 0)
    | none => (0, 0)

theorem find_sound (s : Sna) (n h p : Str) (hs : SmallS s) (hh : h.length < 1000000000000) (hp : p.length < 1000000000000) : SoundAt Tryz.prog 38 [] [Cs s, Tx n, Tx h, Tx p] (t2 (foundV s n h p)) [] := by
  have hl := hs.listens
  have hr := hs.rules.1
  refine SoundAt.of_wpA1 (fn := Tryz.f38) Tryz.func38 rfl ?_
  conv => whnf
  refine ⟨_, _, (listener_sound s.listens n (by omega)).frame rfl _, ?_⟩; (conv => whnf); (try (refine ⟨(rfl : (_ : Heap) = _), ?_⟩; (conv => whnf)))
  refine ⟨fun h1 => ?_, fun h1 => ?_⟩
  · have e : foundV s n h p = (0, 3) := by unfold foundV; rw [if_pos (by simpa using h1)]
    rw [e]
    (conv => whnf); (try (refine ⟨(rfl : (_ : Heap) = _), ?_⟩; (conv => whnf)))
    exact ⟨.inl rfl, _, .refl _, rfl⟩
  have e := (if_neg (by simpa using h1) : (if idxT s.listens n < 0 then ((0 : Int), (3 : Int)) else if (bestV s.rules (idxT s.listens n) h p).2 ≠ 0 then (0, (bestV s.rules (idxT s.listens n) h p).2)
  else match s.rules[(bestV s.rules (idxT s.listens n) h p).1.toNat]? with
    | some r => (r.cluster, 0)
    | none => (0, 0)) = _)
  have e : foundV s n h p = _ := e
  (conv => whnf); (try (refine ⟨(rfl : (_ : Heap) = _), ?_⟩; (conv => whnf)))
  refine ⟨_, _, (best_sound s.rules (idxT s.listens n) h p hr hs.rules.2 hh hp).frame rfl _, ?_⟩; (conv => whnf); (try (refine ⟨(rfl : (_ : Heap) = _), ?_⟩; (conv => whnf)))
  refine ⟨fun h2 => ?_, fun h2 => ?_⟩
  · rw [if_pos (by simpa using h2)] at e
    rw [e]
    (conv => whnf); (try (refine ⟨(rfl : (_ : Heap) = _), ?_⟩; (conv => whnf)))
    exact ⟨.inl rfl, _, .refl _, rfl⟩
  · rw [if_neg (by simpa using h2)] at e
    have h2 : (bestV s.rules (idxT s.listens n) h p).2 = 0 := by simpa using h2
    have hb := bst_lt s.rules (idxT s.listens n) h p s.rules.length
    have hb2 : 0 ≤ (bestV s.rules (idxT s.listens n) h p).1 ∧ (bestV s.rules (idxT s.listens n) h p).1.toNat < s.rules.length := by
      unfold bestV at h2 ⊢
      split at h2
      · cases h2
      · rename_i h3
        rw [if_neg h3]
        simp only
        omega
    have hg : (s.rules.map encU4)[(bestV s.rules (idxT s.listens n) h p).1.toNat]? = some (encU4 (s.rules[(bestV s.rules (idxT s.listens n) h p).1.toNat]'hb2.2)) := by rw [List.getElem?_map, List.getElem?_eq_getElem hb2.2]; rfl
    rw [List.getElem?_eq_getElem hb2.2] at e
    rw [e]
    (conv => whnf); (try (refine ⟨(rfl : (_ : Heap) = _), ?_⟩; (conv => whnf)))
    refine ⟨hb2.1, _, hg, ?_⟩
    (conv => whnf); (try (refine ⟨(rfl : (_ : Heap) = _), ?_⟩; (conv => whnf)))
    exact ⟨.inl rfl, _, .refl _, rfl⟩
end Go.Sna

/- Layers 6, 7 and 12: the reference, walked. -/
namespace Go.Sna
open Go.Ab Go.Proofs Go.Hy Go.Gat Go.Nam Go.Hos Go.Con
set_option linter.unusedVariables false
set_option linter.unusedSimpArgs false
set_option maxRecDepth 8000
set_option maxHeartbeats 2000000

theorem rfits_sound (r : Rul) (n : Int) (h p : Str) (hr : SmallU r) (hh : h.length < 1000000000000) (hp : p.length < 1000000000000) : SoundAt Tryz.prog 76 [] [Cu r, I n, Tx h, Tx p] (Bo (fitsV r n h p)) [] := by
  have ⟨r1, r2⟩ := hr
  refine SoundAt.of_wpA1 (fn := Tryz.f76) Tryz.func76 rfl ?_
  conv => whnf
  refine ⟨fun h1 => ?_, fun h1 => ?_⟩
  · (conv => whnf); (try (refine ⟨(rfl : (_ : Heap) = _), ?_⟩; (conv => whnf)))
    refine ⟨_, _, (rmatch_sound r.host h (by omega) (by omega)).frame rfl _, ?_⟩; (conv => whnf); (try (refine ⟨(rfl : (_ : Heap) = _), ?_⟩; (conv => whnf)))
    refine ⟨fun h2 => ?_, fun h2 => ?_⟩
    · (conv => whnf); (try (refine ⟨(rfl : (_ : Heap) = _), ?_⟩; (conv => whnf)))
      refine ⟨_, _, (runder_sound p r.path (by omega) (by omega)).frame rfl _, ?_⟩; (conv => whnf); (try (refine ⟨(rfl : (_ : Heap) = _), ?_⟩; (conv => whnf)))
      refine ⟨fun h3 => ?_, fun h3 => ?_⟩
      · (conv => whnf); (try (refine ⟨(rfl : (_ : Heap) = _), ?_⟩; (conv => whnf)))
        (exact ⟨.inl rfl, _, .refl _, congrArg (fun b => some (C.v (Value.bool b))) (by simp at h1; simp [fitsV, h1, h2, h3])⟩)
      · (conv => whnf); (try (refine ⟨(rfl : (_ : Heap) = _), ?_⟩; (conv => whnf)))
        (exact ⟨.inl rfl, _, .refl _, congrArg (fun b => some (C.v (Value.bool b))) (by simp [fitsV, h2, h3])⟩)
    · (conv => whnf); (try (refine ⟨(rfl : (_ : Heap) = _), ?_⟩; (conv => whnf)))
      (exact ⟨.inl rfl, _, .refl _, congrArg (fun b => some (C.v (Value.bool b))) (by simp [fitsV, h2])⟩)
  · (conv => whnf); (try (refine ⟨(rfl : (_ : Heap) = _), ?_⟩; (conv => whnf)))
    (exact ⟨.inl rfl, _, .refl _, congrArg (fun b => some (C.v (Value.bool b))) (by simp at h1; simp [fitsV, h1])⟩)

/-- The best one of a rule's rivals is better. -/
def betR (a b : Rul) : Bool := betterV a.host a.path b.host b.path
theorem betR_asymm {a b : Rul} (h : betR a b = true) : betR b a = false := by
  unfold betR betterV at *
  by_cases e : weightV a.host = weightV b.host
  · rw [if_pos e] at h; rw [if_pos e.symm]
    simp at h ⊢; omega
  · rw [if_neg e] at h; rw [if_neg (Ne.symm e)]
    simp at h ⊢; omega
theorem betR_mono {a b c : Rul} (h : betR a b = true) (h' : betR c b = false) : betR a c = true := by
  unfold betR betterV at *
  by_cases e : weightV a.host = weightV b.host
  · rw [if_pos e] at h
    by_cases e2 : weightV c.host = weightV b.host
    · rw [if_pos e2] at h'
      rw [if_pos (e.trans e2.symm)]
      simp at h h' ⊢; omega
    · rw [if_neg e2] at h'
      rw [if_neg (fun e3 => e2 (e3.symm.trans e))]
      simp at h h' ⊢; omega
  · rw [if_neg e] at h
    by_cases e2 : weightV c.host = weightV b.host
    · rw [if_neg (fun e3 => e (e3.trans e2))]
      simp at h h' ⊢; omega
    · rw [if_neg e2] at h'
      by_cases e3 : weightV a.host = weightV c.host
      · simp at h h'; omega
      · rw [if_neg e3]
        simp at h h' ⊢; omega
/-- What holds of the best one so far. -/
def BestOk (l : List Rul) (n : Int) (h p : Str) (k : Nat) : Prop :=
  (bst l n h p k = -1 ∧ ∀ j r, j < k → l[j]? = some r → fitsV r n h p = false) ∨
  (∃ i b, bst l n h p k = (i : Nat) ∧ i < k ∧ l[i]? = some b ∧ fitsV b n h p = true ∧ (∀ j r, j < k → l[j]? = some r → fitsV r n h p = true → betR r b = false) ∧ (∀ j r, j < i → l[j]? = some r → fitsV r n h p = true → betR b r = true))
theorem best_ok (l : List Rul) (n : Int) (h p : Str) : ∀ k, k ≤ l.length → BestOk l n h p k
  | 0, _ => .inl ⟨rfl, fun j r hj => by omega⟩
  | k + 1, hk => by
    have hlt : k < l.length := hk
    have hk' : l[k]? = some l[k] := List.getElem?_eq_getElem hlt
    have ih := best_ok l n h p k (by omega)
    by_cases hf : fitsV l[k] n h p = true
    · rcases ih with ⟨h1, h2⟩ | ⟨i, b, h1, h2, h3, h4, h5, h6⟩
      · refine .inr ⟨k, l[k], ?_, by omega, hk', hf, fun j r hj hr hfr => ?_, fun j r hj hr hfr => ?_⟩
        · simp only [bst, hk', if_pos hf, h1]
          split
          · rfl
          · rw [if_pos (.inl (by decide))]
        · by_cases e : j = k
          · subst e; rw [hk'] at hr; cases hr
            cases hb : betR l[j] l[j] with
            | false => rfl
            | true => have := betR_asymm hb; rw [hb] at this; exact this
          · rw [h2 j r (by omega) hr] at hfr; cases hfr
        · rw [h2 j r hj hr] at hfr; cases hfr
      · have hi : l[(bst l n h p k).toNat]? = some b := by rw [h1, Int.toNat_natCast]; exact h3
        by_cases hb : betR l[k] b = true
        · refine .inr ⟨k, l[k], ?_, by omega, hk', hf, fun j r hj hr hfr => ?_, fun j r hj hr hfr => betR_mono hb (h5 j r hj hr hfr)⟩
          · simp only [bst, hk', if_pos hf, hi]
            rw [if_pos (.inr hb)]
          · by_cases e : j = k
            · subst e; rw [hk'] at hr; cases hr
              cases hb : betR l[j] l[j] with
              | false => rfl
              | true => have := betR_asymm hb; rw [hb] at this; exact this
            · exact betR_asymm (betR_mono hb (h5 j r (by omega) hr hfr))
        · refine .inr ⟨i, b, ?_, by omega, h3, h4, fun j r hj hr hfr => ?_, h6⟩
          · simp only [bst, hk', if_pos hf, hi]
            rw [if_neg, h1]
            rintro (h | h)
            · rw [h1] at h; omega
            · exact hb h
          · by_cases e : j = k
            · subst e; rw [hk'] at hr; cases hr; simpa using hb
            · exact h5 j r (by omega) hr hfr
    · have hf' : fitsV l[k] n h p = false := by simpa using hf
      have e0 : bst l n h p (k + 1) = bst l n h p k := by simp only [bst, hk', if_neg hf]
      have no : ∀ j r, j < k + 1 → l[j]? = some r → fitsV r n h p = true → j < k := fun j r hj hr hfr => by
        by_cases e : j = k
        · subst e; rw [hk'] at hr; cases hr; exact absurd hfr hf
        · omega
      rcases ih with ⟨h1, h2⟩ | ⟨i, b, h1, h2, h3, h4, h5, h6⟩
      · refine .inl ⟨by rw [e0, h1], fun j r hj hr => ?_⟩
        by_cases e : j = k
        · subst e; rw [hk'] at hr; cases hr; exact hf'
        · exact h2 j r (by omega) hr
      · exact .inr ⟨i, b, by rw [e0, h1], by omega, h3, h4, fun j r hj hr hfr => h5 j r (no j r hj hr hfr) hr hfr, h6⟩

def beatV (l : List Rul) (b : Rul) (n : Int) (h p : Str) : Bool := l.any fun r => fitsV r n h p && betR r b
/-- The first one that fits and that none beats. -/
theorem best_first {l : List Rul} {n : Int} {h p : Str} {i : Nat} {r : Rul} (hi : l[i]? = some r) (hf : fitsV r n h p = true) (hb : beatV l r n h p = false) (hno : ∀ j q, j < i → l[j]? = some q → fitsV q n h p = true → beatV l q n h p = true) : bestV l n h p = ((i : Int), 0) := by
  have hil := (List.getElem?_eq_some_iff.1 hi).1
  have nb : ∀ j q, l[j]? = some q → fitsV q n h p = true → betR q r = false := fun j q hj hq => by
    unfold beatV at hb
    rw [List.any_eq_false] at hb
    have := hb q (List.mem_of_getElem? hj)
    simpa [hq] using this
  unfold bestV
  rcases best_ok l n h p l.length (Nat.le_refl _) with ⟨h1, h2⟩ | ⟨k, b, h1, h2, h3, h4, h5, h6⟩
  · rw [h2 i r hil hi] at hf; cases hf
  · have e : k = i := by
      rcases Nat.lt_trichotomy k i with g | g | g
      · have := hno k b g h3 h4
        unfold beatV at this
        rw [List.any_eq_true] at this
        obtain ⟨q, hq, hq2⟩ := this
        rw [Bool.and_eq_true] at hq2
        obtain ⟨j, hj, e⟩ := List.mem_iff_getElem.1 hq
        have := h5 j q hj (by rw [List.getElem?_eq_getElem hj, e]) hq2.1
        rw [this] at hq2; cases hq2.2
      · exact g
      · have := h6 i r g hi hf
        rw [nb k b h3 h4] at this; cases this
    subst e
    rw [h1, if_neg (by omega)]
theorem best_none {l : List Rul} {n : Int} {h p : Str} (hno : ∀ j q, j < l.length → l[j]? = some q → fitsV q n h p = true → beatV l q n h p = true) : bestV l n h p = (0, 5) := by
  unfold bestV
  rcases best_ok l n h p l.length (Nat.le_refl _) with ⟨h1, h2⟩ | ⟨k, b, h1, h2, h3, h4, h5, h6⟩
  · rw [h1]; rfl
  · exfalso
    have := hno k b h2 h3 h4
    unfold beatV at this
    rw [List.any_eq_true] at this
    obtain ⟨q, hq, hq2⟩ := this
    rw [Bool.and_eq_true] at hq2
    obtain ⟨j, hj, e⟩ := List.mem_iff_getElem.1 hq
    have := h5 j q hj (by rw [List.getElem?_eq_getElem hj, e]) hq2.1
    rw [this] at hq2; cases hq2.2

theorem beaten_sound (l : List Rul) (i : Nat) (b : Rul) (hb : l[i]? = some b) (n : Int) (h p : Str) (hl : l.length < 1000000000000) (hs : ∀ r ∈ l, SmallU r) (hh : h.length < 1000000000000) (hp : p.length < 1000000000000) :
    SoundAt Tryz.prog 77 [] [lRul l, I i, I n, Tx h, Tx p] (Bo (beatV l b n h p)) [] := by
  have m1 : (l.map encU4).length = l.length := List.length_map ..
  have hgb : (l.map encU4)[i]? = some (encU4 b) := by rw [List.getElem?_map, hb]; rfl
  have hsb := hs b (List.mem_of_getElem? hb)
  refine SoundAt.of_wpA1 (fn := Tryz.f77) Tryz.func77 rfl ?_
  conv => whnf
  refine Loops.seq l.length (fun k => [lRul l, I i, I n, Tx h, Tx p, .junk, .junk, .junk, .junk, .junk, Bo false, I k, .junk, .junk, .junk, .junk, .junk, .junk, .junk, .junk, .junk, .junk, .junk, .junk, .junk, .junk, .junk, .junk, .junk, .junk, .junk, .junk, .junk, .junk, .junk, .junk, .junk, .junk, .junk, .junk, .junk, .junk, .junk, .junk, .junk, .junk, .junk, .junk, .junk]) (fun k => []) (fun k => ∀ j, (hj : j < l.length) → j < k → (fitsV l[j] n h p && betR l[j] b) = false) ?_ (by simp) (fun k hk hr => ?_) (fun hr => ?_)
  · exact Weak.cov (by (conv => whnf); (repeat (refine ⟨rfl, ?_⟩; (conv => whnf))); exact trivial)
  · obtain ⟨r, hx⟩ : ∃ r, r = l[k] := ⟨_, rfl⟩
    have hg : (l.map encU4)[k]? = some (encU4 r) := by rw [List.getElem?_map, List.getElem?_eq_getElem hk, hx]; rfl
    have hsr := hs r (by rw [hx]; exact List.getElem_mem hk)
    have no : (fitsV r n h p && betR r b) = false → ∀ j, (hj : j < l.length) → j < k + 1 → (fitsV l[j] n h p && betR l[j] b) = false := fun h6 j hj hjk => by
      by_cases e : j = k
      · subst e; rw [← hx]; exact h6
      · exact hr j hj (by omega)
    conv => whnf
    (refine ⟨fun _ => ?_, fun h => absurd h (by rw [m1]; simp; omega)⟩); (conv => whnf); (try (refine ⟨(rfl : (_ : Heap) = _), ?_⟩; (conv => whnf)))
    refine ⟨⟨false, [], [], []⟩, by kernel_rfl, ?_⟩; (conv => whnf)
    (refine ⟨by omega, _, by rw [toNat_cast]; exact hg, ?_⟩); (conv => whnf); (try (refine ⟨(rfl : (_ : Heap) = _), ?_⟩; (conv => whnf)))
    refine ⟨_, _, (rfits_sound r n h p hsr hh hp).frame rfl _, ?_⟩; (conv => whnf); (try (refine ⟨(rfl : (_ : Heap) = _), ?_⟩; (conv => whnf)))
    refine ⟨fun h2 => ?_, fun h2 => ?_⟩
    · (conv => whnf); (try (refine ⟨(rfl : (_ : Heap) = _), ?_⟩; (conv => whnf)))
      (refine ⟨by omega, _, by rw [toNat_cast]; exact hg, ?_⟩); (conv => whnf); (try (refine ⟨(rfl : (_ : Heap) = _), ?_⟩; (conv => whnf)))
      (refine ⟨by omega, _, by rw [toNat_cast]; exact hg, ?_⟩); (conv => whnf); (try (refine ⟨(rfl : (_ : Heap) = _), ?_⟩; (conv => whnf)))
      (refine ⟨by omega, _, by rw [toNat_cast]; exact hgb, ?_⟩); (conv => whnf); (try (refine ⟨(rfl : (_ : Heap) = _), ?_⟩; (conv => whnf)))
      (refine ⟨by omega, _, by rw [toNat_cast]; exact hgb, ?_⟩); (conv => whnf); (try (refine ⟨(rfl : (_ : Heap) = _), ?_⟩; (conv => whnf)))
      refine ⟨_, _, (rbetter_sound r.host r.path b.host b.path (by have := hsr.1; omega) (by have := hsb.1; omega)).frame rfl _, ?_⟩; (conv => whnf); (try (refine ⟨(rfl : (_ : Heap) = _), ?_⟩; (conv => whnf)))
      refine ⟨fun h3 => ?_, fun h3 => ?_⟩
      · have e : beatV l b n h p = true := by
          unfold beatV
          rw [List.any_eq_true]
          exact ⟨r, by rw [hx]; exact List.getElem_mem hk, by rw [Bool.and_eq_true]; exact ⟨h2, h3⟩⟩
        rw [e]
        (conv => whnf); (try (refine ⟨(rfl : (_ : Heap) = _), ?_⟩; (conv => whnf)))
        (refine .inr ⟨by simp, ?_⟩); (conv => whnf)
        exact ⟨.inl rfl, _, .refl _, rfl⟩
      · (conv => whnf); (try (refine ⟨(rfl : (_ : Heap) = _), ?_⟩; (conv => whnf)))
        refine .inl ⟨rfl, ?_, no (by unfold betR; rw [h3]; simp)⟩
        rw [i64_nat (by omega)]
        exact Weak.covD 0 (by (conv => whnf); (repeat (refine ⟨rfl, ?_⟩; (conv => whnf))); exact trivial) rfl rfl rfl rfl rfl
    · (conv => whnf); (try (refine ⟨(rfl : (_ : Heap) = _), ?_⟩; (conv => whnf)))
      refine .inl ⟨rfl, ?_, no (by rw [h2]; simp)⟩
      rw [i64_nat (by omega)]
      exact Weak.covD 0 (by (conv => whnf); (repeat (refine ⟨rfl, ?_⟩; (conv => whnf))); exact trivial) rfl rfl rfl rfl rfl
  · have e : beatV l b n h p = false := by
      unfold beatV
      rw [List.any_eq_false]
      intro q hq
      obtain ⟨j, hj, rfl⟩ := List.mem_iff_getElem.1 hq
      rw [hr j hj hj]; decide
    rw [e]
    (conv => whnf); (refine ⟨fun h => absurd h (by rw [m1]; simp), fun _ => ?_⟩); (conv => whnf); (try (refine ⟨(rfl : (_ : Heap) = _), ?_⟩; (conv => whnf))); (refine ⟨by simp, ?_⟩); (conv => whnf)
    exact ⟨.inl rfl, _, .refl _, rfl⟩

theorem rbest_sound (l : List Rul) (n : Int) (h p : Str) (hl : l.length < 1000000000000) (hs : ∀ r ∈ l, SmallU r) (hh : h.length < 1000000000000) (hp : p.length < 1000000000000) : SoundAt Tryz.prog 62 [] [lRul l, I n, Tx h, Tx p] (t2 (bestV l n h p)) [] := by
  have m1 : (l.map encU4).length = l.length := List.length_map ..
  refine SoundAt.of_wpA1 (fn := Tryz.f62) Tryz.func62 rfl ?_
  conv => whnf
  refine Loops.seq l.length (fun k => [lRul l, I n, Tx h, Tx p, .junk, .junk, .junk, .junk, I 0, I 0, I k, .junk, .junk, .junk, .junk, .junk, .junk, .junk, .junk, .junk, .junk, .junk, .junk, .junk, .junk, .junk, .junk, .junk, .junk, .junk, .junk, .junk, .junk, .junk, .junk]) (fun k => []) (fun k => ∀ j q, j < k → l[j]? = some q → fitsV q n h p = true → beatV l q n h p = true) ?_ (by simp) (fun k hk hr => ?_) (fun hr => ?_)
  · exact Weak.cov (by (conv => whnf); (repeat (refine ⟨rfl, ?_⟩; (conv => whnf))); exact trivial)
  · obtain ⟨r, hx⟩ : ∃ r, r = l[k] := ⟨_, rfl⟩
    have hk' : l[k]? = some r := by rw [List.getElem?_eq_getElem hk, hx]
    have hg : (l.map encU4)[k]? = some (encU4 r) := by rw [List.getElem?_map, hk']; rfl
    have hsr := hs r (by rw [hx]; exact List.getElem_mem hk)
    have no : (fitsV r n h p = true → beatV l r n h p = true) → ∀ j q, j < k + 1 → l[j]? = some q → fitsV q n h p = true → beatV l q n h p = true := fun h6 j q hj hq hf => by
      by_cases e : j = k
      · subst e; rw [hk'] at hq; cases hq; exact h6 hf
      · exact hr j q (by omega) hq hf
    conv => whnf
    (refine ⟨fun _ => ?_, fun h => absurd h (by rw [m1]; simp; omega)⟩); (conv => whnf); (try (refine ⟨(rfl : (_ : Heap) = _), ?_⟩; (conv => whnf)))
    (refine ⟨by omega, _, by rw [toNat_cast]; exact hg, ?_⟩); (conv => whnf); (try (refine ⟨(rfl : (_ : Heap) = _), ?_⟩; (conv => whnf)))
    refine ⟨_, _, (rfits_sound r n h p hsr hh hp).frame rfl _, ?_⟩; (conv => whnf); (try (refine ⟨(rfl : (_ : Heap) = _), ?_⟩; (conv => whnf)))
    refine ⟨fun h2 => ?_, fun h2 => ?_⟩
    · (conv => whnf); (try (refine ⟨(rfl : (_ : Heap) = _), ?_⟩; (conv => whnf)))
      refine ⟨_, _, (beaten_sound l k r hk' n h p hl hs hh hp).frame rfl _, ?_⟩; (conv => whnf); (try (refine ⟨(rfl : (_ : Heap) = _), ?_⟩; (conv => whnf)))
      refine ⟨fun h3 => ?_, fun h3 => ?_⟩
      · (conv => whnf); (try (refine ⟨(rfl : (_ : Heap) = _), ?_⟩; (conv => whnf)))
        (repeat (first | (refine ⟨fun _ => ?_, fun h => absurd h (by decide)⟩; (conv => whnf); (try (refine ⟨(rfl : (_ : Heap) = _), ?_⟩; (conv => whnf)))) | (refine ⟨fun h => absurd h (by decide), fun _ => ?_⟩; (conv => whnf); (try (refine ⟨(rfl : (_ : Heap) = _), ?_⟩; (conv => whnf))))))
        refine .inl ⟨rfl, ?_, no (fun _ => h3)⟩
        rw [i64_nat (by omega)]
        exact Weak.covD 0 (by (conv => whnf); (repeat (refine ⟨rfl, ?_⟩; (conv => whnf))); exact trivial) rfl rfl rfl rfl rfl
      · rw [best_first hk' h2 h3 hr]
        (conv => whnf); (try (refine ⟨(rfl : (_ : Heap) = _), ?_⟩; (conv => whnf)))
        (repeat (first | (refine ⟨fun _ => ?_, fun h => absurd h (by decide)⟩; (conv => whnf); (try (refine ⟨(rfl : (_ : Heap) = _), ?_⟩; (conv => whnf)))) | (refine ⟨fun h => absurd h (by decide), fun _ => ?_⟩; (conv => whnf); (try (refine ⟨(rfl : (_ : Heap) = _), ?_⟩; (conv => whnf))))))
        (refine .inr ⟨by simp, ?_⟩); (conv => whnf)
        exact ⟨.inl rfl, _, .refl _, rfl⟩
    · (conv => whnf); (try (refine ⟨(rfl : (_ : Heap) = _), ?_⟩; (conv => whnf)))
      refine .inl ⟨rfl, ?_, no (fun h => by rw [h2] at h; cases h)⟩
      rw [i64_nat (by omega)]
      exact Weak.covD 0 (by (conv => whnf); (repeat (refine ⟨rfl, ?_⟩; (conv => whnf))); exact trivial) rfl rfl rfl rfl rfl
  · rw [best_none hr]
    (conv => whnf); (refine ⟨fun h => absurd h (by rw [m1]; simp), fun _ => ?_⟩); (conv => whnf); (try (refine ⟨(rfl : (_ : Heap) = _), ?_⟩; (conv => whnf))); (refine ⟨by simp, ?_⟩); (conv => whnf)
    exact ⟨.inl rfl, _, .refl _, rfl⟩

theorem rfind_sound (s : Sna) (n h p : Str) (hs : SmallS s) (hh : h.length < 1000000000000) (hp : p.length < 1000000000000) : SoundAt Tryz.prog 44 [] [Cs s, Tx n, Tx h, Tx p] (t2 (foundV s n h p)) [] := by
  have hl := hs.listens
  have hr := hs.rules.1
  refine SoundAt.of_wpA1 (fn := Tryz.f44) Tryz.func44 rfl ?_
  conv => whnf
  refine ⟨_, _, (rlisten_sound s.listens n (by omega)).frame rfl _, ?_⟩; (conv => whnf); (try (refine ⟨(rfl : (_ : Heap) = _), ?_⟩; (conv => whnf)))
  refine ⟨fun h1 => ?_, fun h1 => ?_⟩
  · have e : foundV s n h p = (0, 3) := by unfold foundV; rw [if_pos (by simpa using h1)]
    rw [e]
    (conv => whnf); (try (refine ⟨(rfl : (_ : Heap) = _), ?_⟩; (conv => whnf)))
    exact ⟨.inl rfl, _, .refl _, rfl⟩
  have e := (if_neg (by simpa using h1) : (if idxT s.listens n < 0 then ((0 : Int), (3 : Int)) else if (bestV s.rules (idxT s.listens n) h p).2 ≠ 0 then (0, (bestV s.rules (idxT s.listens n) h p).2)
  else match s.rules[(bestV s.rules (idxT s.listens n) h p).1.toNat]? with
    | some r => (r.cluster, 0)
    | none => (0, 0)) = _)
  have e : foundV s n h p = _ := e
  (conv => whnf); (try (refine ⟨(rfl : (_ : Heap) = _), ?_⟩; (conv => whnf)))
  refine ⟨_, _, (rbest_sound s.rules (idxT s.listens n) h p hr hs.rules.2 hh hp).frame rfl _, ?_⟩; (conv => whnf); (try (refine ⟨(rfl : (_ : Heap) = _), ?_⟩; (conv => whnf)))
  refine ⟨fun h2 => ?_, fun h2 => ?_⟩
  · rw [if_pos (by simpa using h2)] at e
    rw [e]
    (conv => whnf); (try (refine ⟨(rfl : (_ : Heap) = _), ?_⟩; (conv => whnf)))
    exact ⟨.inl rfl, _, .refl _, rfl⟩
  · rw [if_neg (by simpa using h2)] at e
    have h2 : (bestV s.rules (idxT s.listens n) h p).2 = 0 := by simpa using h2
    have hb := bst_lt s.rules (idxT s.listens n) h p s.rules.length
    have hb2 : 0 ≤ (bestV s.rules (idxT s.listens n) h p).1 ∧ (bestV s.rules (idxT s.listens n) h p).1.toNat < s.rules.length := by
      unfold bestV at h2 ⊢
      split at h2
      · cases h2
      · rename_i h3
        rw [if_neg h3]
        simp only
        omega
    have hg : (s.rules.map encU4)[(bestV s.rules (idxT s.listens n) h p).1.toNat]? = some (encU4 (s.rules[(bestV s.rules (idxT s.listens n) h p).1.toNat]'hb2.2)) := by rw [List.getElem?_map, List.getElem?_eq_getElem hb2.2]; rfl
    rw [List.getElem?_eq_getElem hb2.2] at e
    rw [e]
    (conv => whnf); (try (refine ⟨(rfl : (_ : Heap) = _), ?_⟩; (conv => whnf)))
    refine ⟨hb2.1, _, hg, ?_⟩
    (conv => whnf); (try (refine ⟨(rfl : (_ : Heap) = _), ?_⟩; (conv => whnf)))
    exact ⟨.inl rfl, _, .refl _, rfl⟩

theorem rbuild_sound (c : Cfg) (hc : SmallC c) : SoundAt Tryz.prog 32 [] [Cf c] (t3 (buildV c)) [] := by
  have m1 : (c.routes.map encO).length = c.routes.length := List.length_map ..
  have hl := hc.routes.1
  have hl1 := hc.listens.1
  have hl2 := hc.clusters.1
  refine SoundAt.of_wpA1 (fn := Tryz.f32) Tryz.func32 rfl ?_
  conv => whnf
  refine ⟨_, _, (rcheck_sound c hc).frame rfl _, ?_⟩; (conv => whnf); (try (refine ⟨(rfl : (_ : Heap) = _), ?_⟩; (conv => whnf)))
  refine ⟨fun h1 => ?_, fun h1 => ?_⟩
  · have e : buildV c = (⟨[], [], []⟩, checkV c) := by unfold buildV; rw [if_pos (by simpa using h1)]
    rw [e]
    (conv => whnf); (try (refine ⟨(rfl : (_ : Heap) = _), ?_⟩; (conv => whnf)))
    exact ⟨.inl rfl, _, Weak.var 1 rfl rfl rfl (.cons (WC.nil 0 1) (.cons (WC.nil 0 4) (.cons (WC.nil 0 4) .nil))), rfl⟩
  · have e : buildV c = (⟨c.listens, c.routes.map (ruleV c), c.clusters⟩, 0, 0) := by unfold buildV; rw [if_neg (by simpa using h1)]
    rw [e]
    (conv => whnf); (try (refine ⟨(rfl : (_ : Heap) = _), ?_⟩; (conv => whnf)))
    refine Loops.seq c.routes.length (fun k => [.junk, .ref 0 [] 3 0 0, .ref 1 [] 3 0 0, I 0, I 0, .junk, .junk, .ref 2 [] 3 0 0, I k, .junk, .junk, .junk, .junk, .junk, .junk, .junk, .junk, .junk, .junk, .junk, .junk, .junk, .junk, .junk, .junk, .junk, .junk, .junk, .junk, .junk, .junk, .junk, .junk, .junk, .junk, .junk, .junk, .junk, .junk, .junk, .junk, .junk, .junk, .junk, .junk, .junk, .junk, .junk, .junk, .junk, .junk, .junk, .junk, .junk, .junk, .junk, .junk, .junk]) (fun k => [⟨1, 26, 3, [encF c], 0⟩, ⟨1, 80, 3, [[.lst 1 0 [], .lst 1 0 [], .lst 1 0 []]], 0⟩, ⟨1, 80, 3, [[lT c.listens, .gl 3 4 (((c.routes.take k).map (ruleV c)).map encU4), lC c.clusters]], 0⟩, ⟨4, 102, 4, ((c.routes.take k).map (ruleV c)).map encU4, 0⟩]) (fun k => True) ?_ trivial (fun k hk hr => ?_) (fun hr => ?_)
    · refine Weak.trans (Weak.growH 2 1 102 4 rfl rfl (.inl rfl) rfl rfl) ?_
      exact Weak.cov (by (conv => whnf); (repeat (refine ⟨rfl, ?_⟩; (conv => whnf))); exact trivial)
    · obtain ⟨r, hx⟩ : ∃ r, r = c.routes[k] := ⟨_, rfl⟩
      have hg : (c.routes.map encO)[k]? = some (encO r) := by rw [List.getElem?_map, List.getElem?_eq_getElem hk, hx]; rfl
      have hs := hc.routes.2 r (by rw [hx]; exact List.getElem_mem hk)
      have hlg : (((c.routes.take k).map (ruleV c)).map encU4).length = k := by simp; omega
      have eg : ((c.routes.take (k + 1)).map (ruleV c)).map encU4 = ((c.routes.take k).map (ruleV c)).map encU4 ++ [encU4 (ruleV c r)] := by rw [List.take_succ_eq_append_getElem hk, ← hx]; simp
      conv => whnf
      (refine ⟨fun _ => ?_, fun h => absurd h (by rw [m1]; simp; omega)⟩); (conv => whnf); (try (refine ⟨(rfl : (_ : Heap) = _), ?_⟩; (conv => whnf)))
      (refine ⟨by omega, _, by rw [toNat_cast]; exact hg, ?_⟩); (conv => whnf); (try (refine ⟨(rfl : (_ : Heap) = _), ?_⟩; (conv => whnf)))
      refine ⟨⟨false, [3, 5, 6, 8, 10, 12, 14, 15], [0, 4], []⟩, by kernel_rfl, ?_⟩; (conv => whnf)
      refine ⟨I (idxT c.listens r.listen), fun H2 => (rlisten_sound c.listens r.listen (by omega)).frame rfl H2, ?_⟩
      (conv => whnf); (try (refine ⟨(rfl : (_ : Heap) = _), ?_⟩; (conv => whnf)))
      refine ⟨I (idxN c.clusters r.cluster), fun H2 => (rcluster_sound c.clusters r.cluster (by omega)).frame rfl H2, ?_⟩
      (conv => whnf); (try (refine ⟨(rfl : (_ : Heap) = _), ?_⟩; (conv => whnf)))
      refine ⟨rfl, .inr rfl, by rw [hlg]; simp [maxLen]; omega, by rw [hlg]; show (k + 1) * 48 ≤ _; omega, ?_⟩
      (conv => whnf); (try (refine ⟨(rfl : (_ : Heap) = _), ?_⟩; (conv => whnf)))
      refine ⟨rfl, rfl, ?_⟩
      (conv => whnf); (try (refine ⟨(rfl : (_ : Heap) = _), ?_⟩; (conv => whnf)))
      refine ⟨rfl, rfl, ?_⟩
      (conv => whnf); (try (refine ⟨(rfl : (_ : Heap) = _), ?_⟩; (conv => whnf)))
      refine .inl ⟨rfl, ?_, trivial⟩
      rw [i64_nat (by omega), eg]
      exact Weak.covD 4 (by (conv => whnf); (repeat (refine ⟨rfl, ?_⟩; (conv => whnf))); exact trivial) rfl rfl rfl rfl rfl
    · (conv => whnf); (refine ⟨fun h => absurd h (by rw [m1]; simp), fun _ => ?_⟩); (conv => whnf); (try (refine ⟨(rfl : (_ : Heap) = _), ?_⟩; (conv => whnf))); (refine ⟨by simp, ?_⟩); (conv => whnf)
      rw [List.take_length]
      exact ⟨.inl rfl, _, .refl _, rfl⟩

theorem rhealthy_sound (c : Clu) (hl : c.health.length < 1000000000000) : SoundAt Tryz.prog 45 [] [Cc c] (lI (idxB c.health c.health.length)) [] := by
  have m1 : (c.health.map encB).length = c.health.length := List.length_map ..
  refine SoundAt.of_wpA1 (fn := Tryz.f45) Tryz.func45 rfl ?_
  conv => whnf
  refine Loops.seq c.health.length (fun k => [.junk, .ref 0 [] 4 0 0, .lst 1 0 [], .gl 1 1 ((idxB c.health k).map encI), I k, .junk, .junk, .junk, .junk, .junk, .junk, .junk, .junk, .junk, .junk, .junk, .junk, .junk, .junk, .junk, .junk, .junk, .junk]) (fun k => [⟨1, 68, 4, [encC c], 0⟩, ⟨4, 3, 1, (idxB c.health k).map encI, 0⟩]) (fun k => True) ?_ trivial (fun k hk hr => ?_) (fun hr => ?_)
  · exact (Weak.grow 3 3 1 rfl (.inl rfl)).trans (Weak.cov (by (conv => whnf); (repeat (refine ⟨rfl, ?_⟩; (conv => whnf))); exact trivial))
  · have hg : (c.health.map encB)[k]? = some (encB c.health[k]) := by rw [List.getElem?_map, List.getElem?_eq_getElem hk]; rfl
    have hlen := idxB_len c.health k
    conv => whnf
    (refine ⟨fun _ => ?_, fun h => absurd h (by rw [m1]; simp; omega)⟩); (conv => whnf); (try (refine ⟨(rfl : (_ : Heap) = _), ?_⟩; (conv => whnf)))
    (refine ⟨by omega, _, by rw [toNat_cast]; exact hg, ?_⟩); (conv => whnf); (try (refine ⟨(rfl : (_ : Heap) = _), ?_⟩; (conv => whnf)))
    refine ⟨fun h2 => ?_, fun h2 => ?_⟩
    · have e : (idxB c.health (k + 1)).map encI = (idxB c.health k).map encI ++ [[I k]] := by simp only [idxB]; rw [if_pos (by rw [List.getElem?_eq_getElem hk, h2])]; simp [encI]
      (conv => whnf); (try (refine ⟨(rfl : (_ : Heap) = _), ?_⟩; (conv => whnf)))
      refine ⟨rfl, .inr rfl, by simp [maxLen]; omega, by show _ * 8 ≤ _; simp; omega, ?_⟩
      (conv => whnf); (try (refine ⟨(rfl : (_ : Heap) = _), ?_⟩; (conv => whnf)))
      refine .inl ⟨rfl, ?_, trivial⟩
      rw [i64_nat (by omega), e]
      exact Weak.covD 2 (by (conv => whnf); (repeat (refine ⟨rfl, ?_⟩; (conv => whnf))); exact trivial) rfl rfl rfl rfl rfl
    · have e : (idxB c.health (k + 1)).map encI = (idxB c.health k).map encI := by simp only [idxB]; rw [if_neg (by rw [List.getElem?_eq_getElem hk, h2]; simp)]
      (conv => whnf); (try (refine ⟨(rfl : (_ : Heap) = _), ?_⟩; (conv => whnf)))
      refine .inl ⟨rfl, ?_, trivial⟩
      rw [i64_nat (by omega), e]
      exact Weak.covD 2 (by (conv => whnf); (repeat (refine ⟨rfl, ?_⟩; (conv => whnf))); exact trivial) rfl rfl rfl rfl rfl
  · (conv => whnf); (refine ⟨fun h => absurd h (by rw [m1]; simp), fun _ => ?_⟩); (conv => whnf); (try (refine ⟨(rfl : (_ : Heap) = _), ?_⟩; (conv => whnf))); (refine ⟨by simp, ?_⟩); (conv => whnf)
    exact ⟨.inl rfl, _, .refl _, rfl⟩
end Go.Sna

/- Layer 29 (linear): meshes, plain. -/
namespace Go.Lin
open Go.Ab Go.Proofs Go.Hy Go.Gat Go.Nam Go.Hos Go.Con Go.Sna
set_option linter.unusedVariables false
set_option linter.unusedSimpArgs false
set_option maxRecDepth 8000
set_option maxHeartbeats 2000000

abbrev Cp (o : Opn) : C := .agg (encP o)
abbrev Ca (a : Ans) : C := .agg (encA a)

structure Msh where
  snaps : List Sna
  now : Int
  dr : List Str

/-- A map's keys: each name once, in the order in which they came. -/
def keysV : List Str → List Str → List Str
  | acc, [] => acc
  | acc, s :: l => keysV (if s ∈ acc then acc else acc ++ [s]) l
theorem keysV_app : ∀ (l acc : List Str) (s : Str), keysV acc (l ++ [s]) = if s ∈ keysV acc l then keysV acc l else keysV acc l ++ [s]
  | [], acc, s => rfl
  | x :: l, acc, s => keysV_app l _ s
theorem mem_keysV : ∀ (l acc : List Str) (s : Str), s ∈ keysV acc l ↔ s ∈ acc ∨ s ∈ l
  | [], acc, s => by simp [keysV]
  | x :: l, acc, s => by
    simp only [keysV]
    rw [mem_keysV l]
    split
    · rename_i h
      constructor
      · rintro (h1 | h1)
        · exact .inl h1
        · exact .inr (List.mem_cons_of_mem _ h1)
      · rintro (h1 | h1)
        · exact .inl h1
        · rcases List.mem_cons.1 h1 with rfl | h1
          · exact .inl h
          · exact .inr h1
    · simp only [List.mem_append, List.mem_cons, List.not_mem_nil, or_false, false_or, or_assoc]
theorem keysV_nodup : ∀ (l acc : List Str), acc.Nodup → (keysV acc l).Nodup
  | [], acc, h => h
  | x :: l, acc, h => by
    simp only [keysV]
    split
    · exact keysV_nodup l _ h
    · rename_i hx
      exact keysV_nodup l _ (List.nodup_append.2 ⟨h, by simp, fun a ha b hb => by obtain rfl := List.mem_singleton.1 hb; exact fun e => hx (e ▸ ha)⟩)

def kvV (dr : List Str) : List (Str × Value) := (keysV [] dr).map fun s => (s, Value.bool true)
theorem findV_map (l : List Str) (s : Str) : Ab.findV (l.map fun x => (x, Value.bool true)) s = l.findIdx? fun x => decide (x = s) := by
  unfold Ab.findV
  rw [List.findIdx?_map]
  rfl
theorem kv_get (dr : List Str) (s : Str) : (((Ab.findV (kvV dr) s).bind fun i => ((kvV dr)[i]?).map (·.2)).getD (.bool false)) = if s ∈ dr then .bool true else .bool false := by
  have hm := mem_keysV dr [] s
  unfold kvV
  rw [findV_map]
  cases h : (keysV [] dr).findIdx? fun x => decide (x = s) with
  | none =>
    rw [List.findIdx?_eq_none_iff] at h
    rw [if_neg]
    · rfl
    · intro hs
      have := h s (hm.2 (.inr hs))
      simp at this
  | some i =>
    obtain ⟨h1, h2, _⟩ := List.findIdx?_eq_some_iff_getElem.1 h
    have hs : (keysV [] dr)[i] = s := by simpa using h2
    have : s ∈ dr := by
      have := hm.1 (by rw [← hs]; exact List.getElem_mem h1)
      simpa using this
    rw [if_pos this]
    simp [h1]
theorem kv_put (dr : List Str) (s : Str) : putV (kvV dr) s (.bool true) = kvV (dr ++ [s]) := by
  have hm := mem_keysV dr [] s
  unfold kvV putV
  rw [findV_map, keysV_app]
  cases h : (keysV [] dr).findIdx? fun x => decide (x = s) with
  | none =>
    rw [List.findIdx?_eq_none_iff] at h
    have : ¬ s ∈ keysV [] dr := fun hs => by have := h s hs; simp at this
    rw [if_neg this]
    simp
  | some i =>
    obtain ⟨h1, h2, _⟩ := List.findIdx?_eq_some_iff_getElem.1 h
    have hs : (keysV [] dr)[i] = s := by simpa using h2
    rw [if_pos (by rw [← hs]; exact List.getElem_mem h1)]
    apply List.ext_getElem?
    intro j
    rw [List.getElem?_set]
    split
    · rename_i e
      subst e
      simp [h1, hs]
    · rfl

/-- A snapshot of which each rule leads somewhere. -/
structure GoodS (s : Sna) : Prop where
  small : SmallS s
  rules : ∀ r ∈ s.rules, 0 ≤ r.cluster ∧ r.cluster.toNat < s.clusters.length
  clusters : ∀ c ∈ s.clusters, c.health.length < 1000000000000
structure GoodM (m : Msh) : Prop where
  len : m.snaps.length < 1000000000000
  now0 : 0 ≤ m.now
  now1 : m.now.toNat < m.snaps.length
  all : ∀ s ∈ m.snaps, GoodS s
  dr : m.dr.length < 1000000000000
theorem GoodM.cur {m : Msh} (h : GoodM m) : ∃ s, m.snaps[m.now.toNat]? = some s ∧ GoodS s := ⟨_, List.getElem?_eq_getElem h.now1, h.all _ (List.getElem_mem h.now1)⟩
structure SmallP (o : Opn) : Prop where
  host : o.host.length < 1000000000000
  path : o.path.length < 1000000000000
  config : SmallC o.config

abbrev healthyL (c : Clu) : List Int := idxB c.health c.health.length
def handleV (m : Msh) (o : Opn) (a : Ans) : Bool :=
  if o.listen ∈ m.dr then a.kind == 5 else match m.snaps[m.now.toNat]? with
  | none => false
  | some s => if (foundV s o.listen o.host o.path).2 ≠ 0 then a.kind == 2 else match s.clusters[(foundV s o.listen o.host o.path).1.toNat]? with
    | none => false
    | some c => if healthyL c = [] then a.kind == 3 else if a.kind = 4 then true else a.kind == 1 && a.version == m.now && a.cluster == (foundV s o.listen o.host o.path).1 && (healthyL c).any fun x => x == a.end_
def swapV (m : Msh) (o : Opn) (a : Ans) : Bool × Msh :=
  if (buildV o.config).2.1 ≠ 0 then (a.kind == 9 && a.n == (buildV o.config).2.1, m)
  else if a.kind ≠ 8 ∨ a.version ≠ (m.snaps.length : Int) then (false, m) else (true, ⟨m.snaps ++ [(buildV o.config).1], (m.snaps.length : Int), m.dr⟩)
def takeV (m : Msh) (o : Opn) (a : Ans) : Bool × Msh :=
  if o.kind = 1 then (handleV m o a, m) else if o.kind = 3 then swapV m o a
  else if o.kind = 4 then (a.kind == 10 || a.kind == 7, if a.kind = 10 then ⟨m.snaps, m.now, m.dr ++ [o.listen]⟩ else m) else (true, m)

/-! ### What is built leads somewhere -/

theorem firstE_zero {f : Nat → Int} {n : Nat} (h : (firstE f n).1 = 0) : ∀ j, j < n → f j = 0 := fun j hj => by
  unfold firstE at h
  split at h
  · rename_i i hi
    have := List.find?_some hi
    simp at this
    exact absurd h this
  · rename_i hn
    rw [List.find?_range_eq_none] at hn
    have := hn j hj
    simpa using this
theorem check_zero {c : Cfg} (h : (checkV c).1 = 0) : (firstE (rouE c) c.routes.length).1 = 0 := by
  unfold checkV at h
  split at h
  · rename_i h1; exact absurd h h1
  · split at h
    · rename_i h1; exact absurd h h1
    · split at h
      · rename_i h1; exact absurd h h1
      · split at h
        · rename_i h1; exact absurd h h1
        · rename_i h1; simpa using h1
theorem idxN_named {l : List Clu} {s : Str} (h : namedV l s = true) : 0 ≤ idxN l s ∧ (idxN l s).toNat < l.length := by
  unfold namedV at h
  rw [List.any_eq_true] at h
  obtain ⟨x, hx, h2⟩ := h
  unfold idxN
  cases hf : l.findIdx? (fun x => x.name == s) with
  | none =>
    rw [List.findIdx?_eq_none_iff] at hf
    rw [hf x hx] at h2; cases h2
  | some i =>
    obtain ⟨h1, _⟩ := List.findIdx?_eq_some_iff_getElem.1 hf
    exact ⟨Int.natCast_nonneg i, by simpa using h1⟩
theorem build_good {c : Cfg} (hc : SmallC c) (hh : ∀ x ∈ c.clusters, x.health.length < 1000000000000) (h : (buildV c).2.1 = 0) : GoodS (buildV c).1 := by
  unfold buildV at h ⊢
  split at h
  · rename_i h1; exact absurd h h1
  · rename_i h1
    rw [if_neg h1]
    have h1 : (checkV c).1 = 0 := by simpa using h1
    have h2 := firstE_zero (check_zero h1)
    refine ⟨⟨hc.listens.1, by simpa using hc.routes.1, fun r hr => ?_⟩, fun r hr => ?_, hh⟩
    · obtain ⟨x, hx, rfl⟩ := List.mem_map.1 hr
      have := hc.routes.2 x hx
      exact ⟨this.2.1, this.2.2.1⟩
    · obtain ⟨x, hx, rfl⟩ := List.mem_map.1 hr
      obtain ⟨j, hj, e⟩ := List.mem_iff_getElem.1 hx
      have h3 := h2 j hj
      unfold rouE at h3
      rw [List.getElem?_eq_getElem hj] at h3
      have h4 : namedV c.clusters x.cluster = true := by
        rw [← e]
        cases hn : namedV c.clusters c.routes[j].cluster with
        | true => rfl
        | false =>
          exfalso
          simp only [hn] at h3
          revert h3
          split
          · decide
          · split
            · decide
            · split
              · decide
              · simp
      exact idxN_named h4
end Go.Lin

