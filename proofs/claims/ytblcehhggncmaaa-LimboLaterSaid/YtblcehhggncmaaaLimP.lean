/- Layer 16 (limbo): the statement LimboLater, walked. -/
import Derived.Test.YtblcehhggncmaaaLimO
namespace Go.Lim
open Go.Ab Go.Proofs Go.Hy
set_option linter.unusedVariables false
set_option maxRecDepth 8000

abbrev ints (l : List Nat) : List Int := l.map (fun n : Nat => (n : Int))

theorem safeV_mono {a x y : Int} (hxy : x ≤ y) (h : safeV a x = true) : safeV a y = true := by
  simp [safeV] at *; omega
theorem dueQ_mono {l : List Ret} {x y : Int} (hxy : x ≤ y) (i : Nat) (h : dueQ l x i = true) : dueQ l y i = true := by
  unfold dueQ at *
  split at h
  · simp only [Bool.and_eq_true] at h ⊢
    exact ⟨h.1, safeV_mono hxy h.2⟩
  · cases h
theorem dueV_sub {l : List Ret} {x y : Int} (hxy : x ≤ y) : dueV l x = (dueV l y).filter (dueQ l x) := by
  unfold dueV
  rw [List.filter_filter]
  apply List.filter_congr
  intro i _
  cases h : dueQ l x i with
  | false => rfl
  | true => rw [dueQ_mono hxy i h]; rfl

/-- How many of the first so many are as it is asked for. -/
def cntK (p : Nat → Bool) (b : List Nat) (k : Nat) : Nat := ((b.take k).filter p).length
theorem cntK_succ {p : Nat → Bool} {b : List Nat} {k : Nat} (hk : k < b.length) : cntK p b (k + 1) = cntK p b k + if p b[k] then 1 else 0 := by
  unfold cntK
  rw [List.take_succ_eq_append_getElem hk, List.filter_append, List.length_append]
  cases h : p b[k] <;> simp [h]
theorem cntK_le (p : Nat → Bool) (b : List Nat) (k : Nat) : cntK p b k ≤ k := by
  have h1 := List.length_filter_le p (b.take k)
  have h2 := List.length_take_le k b
  unfold cntK; omega
theorem cntK_all {p : Nat → Bool} {b : List Nat} : cntK p b b.length = (b.filter p).length := by simp [cntK]
theorem filter_at {p : Nat → Bool} {b : List Nat} {k : Nat} (hk : k < b.length) (h : p b[k] = true) : (b.filter p)[cntK p b k]? = some b[k] := by
  have e : b.filter p = (b.take k).filter p ++ (b.drop k).filter p := by rw [← List.filter_append, List.take_append_drop]
  have e2 : (b.drop k).filter p = b[k] :: (b.drop (k + 1)).filter p := by rw [List.drop_eq_getElem_cons hk, List.filter_cons, if_pos h]
  rw [e, e2, List.getElem?_append_right (by unfold cntK; omega)]
  simp [cntK]

theorem later_sound {l : List Ret} {x y : Int} (hl : okL l) : SoundAt Try.prog 10 [] [lR l, I x, I y] (Bo true) [] := by
  have hn := hl.len
  have hw := hl.wf
  refine SoundAt.of_wpA0 (fn := Try.f10) Try.func10 rfl ?_ rfl
  conv => whnf
  refine ⟨fun h0 => ?_, fun h0 => ?_⟩
  · conv => whnf
    refine ⟨_, _, (gone_sound).frame rfl _, ?_⟩; (conv => whnf); (try (refine ⟨(rfl : (_ : Heap) = _), ?_⟩; (conv => whnf)))
    (repeat (first | (refine ⟨fun _ => ?_, fun h => absurd h (by decide)⟩; (conv => whnf); (try (refine ⟨(rfl : (_ : Heap) = _), ?_⟩; (conv => whnf)))) | (refine ⟨fun h => absurd h (by decide), fun _ => ?_⟩; (conv => whnf); (try (refine ⟨(rfl : (_ : Heap) = _), ?_⟩; (conv => whnf))))))
    exact ⟨.inl rfl, _, .refl _, rfl⟩
  conv => whnf
  refine ⟨fun h1 => ?_, fun h1 => ?_⟩
  · conv => whnf
    refine ⟨_, _, (gone_sound).frame rfl _, ?_⟩; (conv => whnf); (try (refine ⟨(rfl : (_ : Heap) = _), ?_⟩; (conv => whnf)))
    (repeat (first | (refine ⟨fun _ => ?_, fun h => absurd h (by decide)⟩; (conv => whnf); (try (refine ⟨(rfl : (_ : Heap) = _), ?_⟩; (conv => whnf)))) | (refine ⟨fun h => absurd h (by decide), fun _ => ?_⟩; (conv => whnf); (try (refine ⟨(rfl : (_ : Heap) = _), ?_⟩; (conv => whnf))))))
    exact ⟨.inl rfl, _, .refl _, rfl⟩
  have hs : l.length ≤ 100 := by simp at h0; omega
  have hxy : x ≤ y := by simpa using h1
  conv => whnf
  refine ⟨_, _, (dueC (l := l) (now := x) (r := ints (dueV l x)) rfl hn hw).frame rfl _, ?_⟩; (conv => whnf); (try (refine ⟨(rfl : (_ : Heap) = _), ?_⟩; (conv => whnf)))
  refine ⟨_, _, (dueC (l := l) (now := y) (r := ints (dueV l y)) rfl hn hw).frame rfl _, ?_⟩; (conv => whnf); (try (refine ⟨(rfl : (_ : Heap) = _), ?_⟩; (conv => whnf)))
  rw [dueV_sub hxy]
  have hbl := dueV_le l y
  obtain ⟨b, hb⟩ : ∃ b, b = dueV l y := ⟨_, rfl⟩
  obtain ⟨p, hp⟩ : ∃ p, p = dueQ l x := ⟨_, rfl⟩
  rw [← hb, ← hp]
  rw [← hb] at hbl
  have hal := List.length_filter_le p b
  refine Loops.seq b.length (fun k => [lR l, I x, I y, .junk, .junk, .junk, Bo false, lI (ints (b.filter p)), lI (ints b), I (cntK p b k : Nat), I k, .junk, .junk, .junk, .junk, .junk, .junk, .junk, .junk, .junk, .junk, .junk, .junk, .junk, .junk, .junk, .junk, .junk, .junk, .junk, .junk, .junk, .junk, .junk, .junk, .junk, .junk, .junk, .junk, .junk, .junk, .junk, .junk, .junk, .junk, .junk, .junk, .junk, .junk, .junk, .junk, .junk, .junk, .junk, .junk, .junk, .junk, .junk, .junk, .junk, .junk, .junk, .junk]) (fun k => []) (fun _ => True) ?_ trivial (fun k hk _ => ?_) (fun _ => ?_)
  · exact Weak.cov (by (conv => whnf); (repeat (refine ⟨rfl, ?_⟩; (conv => whnf))); exact trivial)
  · have hc := cntK_le p b k
    conv => whnf
    have hbk : (ints b)[k]? = some (b[k] : Int) := by simp [hk]
    refine ⟨fun h => ?_, fun h => by simp at h; omega⟩
    refine .inl ⟨by kernel_rfl, ?_⟩; (conv => whnf)
    by_cases hpk : p b[k] = true
    · have hat := filter_at hk hpk
      have hlt := (List.getElem?_eq_some_iff.1 hat).1
      refine ⟨fun _ => ?_, fun h => absurd h (by simp; omega)⟩
      (conv => whnf); (try (refine ⟨(rfl : (_ : Heap) = _), ?_⟩; (conv => whnf)))
      refine ⟨by omega, encI (b[k] : Int), by rw [toNat_cast, List.getElem?_map, List.getElem?_map, hat]; rfl, ?_⟩
      conv => whnf
      refine ⟨by omega, encI (b[k] : Int), by rw [toNat_cast, List.getElem?_map, hbk]; rfl, ?_⟩
      conv => whnf
      refine ⟨fun _ => ?_, fun h => absurd h (by simp)⟩; (conv => whnf); (try (refine ⟨(rfl : (_ : Heap) = _), ?_⟩; (conv => whnf)))
      refine .inl ⟨rfl, ?_, trivial⟩
      rw [i64_nat (by omega), i64_nat (by omega), cntK_succ hk, if_pos hpk]
      exact Weak.cov (by (conv => whnf); (repeat (refine ⟨rfl, ?_⟩; (conv => whnf))); exact trivial)
    · have hk1 : cntK p b (k + 1) = cntK p b k := by rw [cntK_succ hk, if_neg hpk]; rfl
      refine ⟨fun h => ?_, fun h => ?_⟩
      · have hlt : cntK p b k < (b.filter p).length := by simpa using h
        have hat : (b.filter p)[cntK p b k]? = some (b.filter p)[cntK p b k] := List.getElem?_eq_getElem hlt
        have hne : (b.filter p)[cntK p b k] ≠ b[k] := fun e => hpk (e ▸ (List.mem_filter.1 (List.getElem_mem hlt)).2)
        (conv => whnf); (try (refine ⟨(rfl : (_ : Heap) = _), ?_⟩; (conv => whnf)))
        refine ⟨by omega, encI (((b.filter p)[cntK p b k] : Nat) : Int), by rw [toNat_cast, List.getElem?_map, List.getElem?_map, hat]; rfl, ?_⟩
        conv => whnf
        refine ⟨by omega, encI (b[k] : Int), by rw [toNat_cast, List.getElem?_map, hbk]; rfl, ?_⟩
        conv => whnf
        refine ⟨fun h => absurd h (by simp; omega), fun _ => ?_⟩
        (conv => whnf); (try (refine ⟨(rfl : (_ : Heap) = _), ?_⟩; (conv => whnf)))
        refine .inl ⟨rfl, ?_, trivial⟩
        rw [i64_nat (by omega), hk1]
        exact Weak.cov (by (conv => whnf); (repeat (refine ⟨rfl, ?_⟩; (conv => whnf))); exact trivial)
      · (conv => whnf); (try (refine ⟨(rfl : (_ : Heap) = _), ?_⟩; (conv => whnf)))
        refine .inl ⟨rfl, ?_, trivial⟩
        rw [i64_nat (by omega), hk1]
        exact Weak.cov (by (conv => whnf); (repeat (refine ⟨rfl, ?_⟩; (conv => whnf))); exact trivial)
  · rw [cntK_all]
    conv => whnf
    refine ⟨fun h => absurd h (by simp), fun h => ?_⟩
    conv => whnf
    refine ⟨by simp, ?_⟩
    conv => whnf
    refine ⟨_, _, (gone_sound).frame rfl _, ?_⟩; (conv => whnf); (try (refine ⟨(rfl : (_ : Heap) = _), ?_⟩; (conv => whnf)))
    (repeat (first | (refine ⟨fun _ => ?_, fun h => absurd h (by decide)⟩; (conv => whnf); (try (refine ⟨(rfl : (_ : Heap) = _), ?_⟩; (conv => whnf)))) | (refine ⟨fun h => absurd h (by decide), fun _ => ?_⟩; (conv => whnf); (try (refine ⟨(rfl : (_ : Heap) = _), ?_⟩; (conv => whnf))))))
    refine ⟨fun _ => ?_, fun h => absurd h (by simp)⟩
    (conv => whnf); (try (refine ⟨(rfl : (_ : Heap) = _), ?_⟩; (conv => whnf)))
    refine ⟨fun _ => ?_, fun h => absurd h (by simp; omega)⟩
    (conv => whnf); (try (refine ⟨(rfl : (_ : Heap) = _), ?_⟩; (conv => whnf)))
    exact ⟨.inl rfl, _, .refl _, rfl⟩

end Go.Lim
