/- The stable sort, walked: the merge. -/
import Derived.Test.YtbndjpkncgfpiaaSrtC
namespace Go.Srt
open Go.Ab Go.Proofs Go.Hy Go.Cal
set_option linter.unusedVariables false
set_option linter.unusedSimpArgs false
set_option maxRecDepth 100000
set_option maxHeartbeats 2000000

theorem drow {d : List Int} {k : Nat} (h : k < d.length) : (d.map encI)[k]? = some (encI (dat d k)) := by
  rw [List.getElem?_map, dat_get h, List.getElem?_eq_getElem h]; rfl

theorem u64_ok' {n : Int} (h : 0 ≤ n) (h' : n < 18446744073709551616) : IntKind.u64.wrap n = n := by
  simp only [IntKind.wrap, IntKind.signed, IntKind.bits, Bool.false_and, Bool.false_eq_true, if_false]
  omega
theorem half {i j : Nat} (h : i + j ≤ 4000000000) : IntKind.i64.wrap ((IntKind.u64.wrap (IntKind.i64.wrap ((i : Int) + (j : Int)))).fdiv (2 ^ min (Int.toNat 1) IntKind.u64.bits)) = ((i + j) / 2 : Nat) := by
  rw [i64_ok (n := (i : Int) + j) (by omega) (by omega), u64_ok' (by omega) (by omega)]
  have e : ((2 : Int) ^ min (Int.toNat 1) IntKind.u64.bits) = 2 := by decide
  rw [e, Int.fdiv_eq_ediv_of_nonneg _ (by decide), i64_ok (by omega) (by omega)]
  omega


theorem merge1_sound (cs : List Cal) (N : Nat) (A Y Z W : List Int) (x : Int) {a m b : Nat} (ea : a = A.length) (em : m = A.length + 1) (eb : b = A.length + 1 + Y.length) (hY : 0 < Y.length)
    (hN : N = (A ++ ([x] ++ (Y ++ Z))).length) (hb : N ≤ 1000000000) (hrx : 0 ≤ x ∧ x.toNat < cs.length) (hry : Rg cs.length Y) (sy : Sd (ptV cs) Y) (st : Stb (ptV cs) [x] Y)
    (hs : Sd (ptV cs) W) (hp : W.Perm ([x] ++ Y)) : SoundAt Try.prog 82 [⟨1, 22, 1, [[lCal cs]], 0⟩, ⟨2, 3, 1, (A ++ ([x] ++ (Y ++ Z))).map encI, 0⟩] [.sl 1 [] 1 0 N false, I a, I m, I b, .fn 36 [] [.ref 0 [] 1 0 0]] (.tup []) [⟨1, 22, 1, [[lCal cs]], 0⟩, ⟨2, 3, 1, (A ++ (W ++ Z)).map encI, 0⟩] := by
  have hN' := hN
  simp only [List.length_append, List.length_cons, List.length_nil] at hN
  have w1 : IntKind.i64.wrap ((m : Int) - (a : Int)) = 1 := by rw [i64_ok (by omega) (by omega)]; omega
  obtain ⟨t, -, t1, t2, t3⟩ := thr (fun c => ptV cs (dat Y c) < ptV cs x) 0 Y.length fun c c' _ h2 h3 h4 => by
    have := (sy.dat (i := c) (j := c') (by omega) (by omega)).le
    omega
  rw [Nat.zero_add] at t1 t3
  have key := one_ahead (pt := ptV cs) sy st t (fun k h _ => t2 k (by omega) h) (fun k h h' => t3 k h h')
  obtain rfl : W = Y.take t ++ x :: Y.drop t := Sd.ext hs key.1 (hp.trans key.2.symm)
  have rd : ∀ h, m ≤ h → h < b → ((A ++ ([x] ++ (Y ++ Z))).map encI)[h]? = some (encI (dat Y (h - m))) := fun h h1 h2 => by
    rw [drow (by omega), mid_dat' (by simp; omega) (by simp; omega)]
    have e : h - A.length - [x].length = h - m := by simp; omega
    rw [e]
  refine SoundAt.of_wpA (fn := Try.f82) Try.func82 rfl ?_
  conv => whnf
  refine ⟨fun _ => ?_, fun h => absurd h (by rw [w1]; decide)⟩
  (conv => whnf); (try (refine ⟨(rfl : (_ : Heap) = _), ?_⟩; (conv => whnf)))
  refine Loops.inv (fun q s1 H1 => ∃ (i j : Nat), j - i = q ∧ m ≤ i ∧ i ≤ m + t ∧ m + t ≤ j ∧ j ≤ b ∧ s1 = [.sl 1 [] 1 0 N false, I a, I m, I b, .fn 36 [] [.ref 0 [] 1 0 0], .junk, .junk, .junk, .junk, .junk, I i, I j, .junk, .junk, .junk, .junk, .junk, .junk, .junk, .junk, .junk, .junk, .junk, .junk, .junk, .junk, .junk, .junk, .junk, .junk, .junk, .junk, .junk, .junk, .junk, .junk, .junk, .junk, .junk, .junk, .junk, .junk, .junk, .junk, .junk, .junk, .junk, .junk, .junk, .junk, .junk, .junk, .junk, .junk, .junk, .junk, .junk, .junk, .junk, .junk, .junk, .junk, .junk, .junk, .junk, .junk, .junk, .junk, .junk, .junk, .junk, .junk, .junk, .junk, .junk, .junk, .junk, .junk, .junk, .junk, .junk, .junk, .junk, .junk, .junk, .junk, .junk, .junk, .junk, .junk, .junk, .junk, .junk, .junk, .junk, .junk, .junk, .junk, .junk, .junk, .junk, .junk, .junk, .junk, .junk, .junk, .junk, .junk, .junk, .junk, .junk, .junk, .junk, .junk, .junk, .junk, .junk, .junk, .junk, .junk, .junk, .junk, .junk, .junk, .junk, .junk, .junk, .junk, .junk, .junk, .junk, .junk, .junk, .junk, .junk, .junk, .junk, .junk, .junk, .junk, .junk, .junk, .junk, .junk, .junk, .junk, .junk, .junk, .junk, .junk, .junk, .junk, .junk, .junk, .junk, .junk, .junk, .junk, .junk, .junk, .junk, .junk, .junk, .junk, .junk, .junk, .junk, .junk, .junk, .junk, .junk, .junk, .junk, .junk, .junk, .junk, .junk, .junk, .junk, .junk, .junk, .junk, .junk, .junk, .junk, .junk, .junk, .junk, .junk, .junk, .junk, .junk, .junk, .junk, .junk, .junk, .junk, .junk, .junk, .junk, .junk, .junk, .junk, .junk, .junk, .junk, .junk, .junk, .junk, .junk, .junk, .junk, .junk, .junk, .junk, .junk, .junk, .junk, .junk, .junk] ∧ H1 = [⟨1, 22, 1, [[lCal cs]], 0⟩, ⟨2, 3, 1, (A ++ ([x] ++ (Y ++ Z))).map encI, 0⟩]) (b - m) ?_ ?_
  · exact ⟨[.sl 1 [] 1 0 N false, I a, I m, I b, .fn 36 [] [.ref 0 [] 1 0 0], .junk, .junk, .junk, .junk, .junk, I m, I b, .junk, .junk, .junk, .junk, .junk, .junk, .junk, .junk, .junk, .junk, .junk, .junk, .junk, .junk, .junk, .junk, .junk, .junk, .junk, .junk, .junk, .junk, .junk, .junk, .junk, .junk, .junk, .junk, .junk, .junk, .junk, .junk, .junk, .junk, .junk, .junk, .junk, .junk, .junk, .junk, .junk, .junk, .junk, .junk, .junk, .junk, .junk, .junk, .junk, .junk, .junk, .junk, .junk, .junk, .junk, .junk, .junk, .junk, .junk, .junk, .junk, .junk, .junk, .junk, .junk, .junk, .junk, .junk, .junk, .junk, .junk, .junk, .junk, .junk, .junk, .junk, .junk, .junk, .junk, .junk, .junk, .junk, .junk, .junk, .junk, .junk, .junk, .junk, .junk, .junk, .junk, .junk, .junk, .junk, .junk, .junk, .junk, .junk, .junk, .junk, .junk, .junk, .junk, .junk, .junk, .junk, .junk, .junk, .junk, .junk, .junk, .junk, .junk, .junk, .junk, .junk, .junk, .junk, .junk, .junk, .junk, .junk, .junk, .junk, .junk, .junk, .junk, .junk, .junk, .junk, .junk, .junk, .junk, .junk, .junk, .junk, .junk, .junk, .junk, .junk, .junk, .junk, .junk, .junk, .junk, .junk, .junk, .junk, .junk, .junk, .junk, .junk, .junk, .junk, .junk, .junk, .junk, .junk, .junk, .junk, .junk, .junk, .junk, .junk, .junk, .junk, .junk, .junk, .junk, .junk, .junk, .junk, .junk, .junk, .junk, .junk, .junk, .junk, .junk, .junk, .junk, .junk, .junk, .junk, .junk, .junk, .junk, .junk, .junk, .junk, .junk, .junk, .junk, .junk, .junk, .junk, .junk, .junk, .junk, .junk, .junk, .junk, .junk, .junk, .junk, .junk, .junk, .junk], _, Weak.cov (by (conv => whnf); (repeat (refine ⟨rfl, ?_⟩; (conv => whnf))); exact trivial), m, b, rfl, by omega, by omega, by omega, by omega, rfl, rfl⟩
  · rintro q s1 H1 ⟨i, j, h1, h2, h3, h4, h5, rfl, rfl⟩
    conv => whnf
    refine ⟨fun hc => ?_, fun hc => ?_⟩
    · have hc : i < j := by simpa using hc
      (conv => whnf); (try (refine ⟨(rfl : (_ : Heap) = _), ?_⟩; (conv => whnf)))
      refine ⟨⟨false, [], []⟩, by kernel_rfl, ?_⟩; (conv => whnf)
      rw [half (by omega)]
      obtain ⟨h, hh⟩ : ∃ h, h = (i + j) / 2 := ⟨_, rfl⟩
      rw [← hh]
      refine ⟨by omega, by omega, ?_⟩
      (conv => whnf); (try (refine ⟨(rfl : (_ : Heap) = _), ?_⟩; (conv => whnf)))
      refine ⟨_, by rw [Nat.zero_add, Int.toNat_natCast]; exact rd h (by omega) (by omega), Nat.le_of_ble_eq_true rfl, ?_⟩
      (conv => whnf); (try (refine ⟨(rfl : (_ : Heap) = _), ?_⟩; (conv => whnf)))
      refine ⟨by omega, by omega, ?_⟩
      (conv => whnf); (try (refine ⟨(rfl : (_ : Heap) = _), ?_⟩; (conv => whnf)))
      refine ⟨_, by rw [Nat.zero_add, Int.toNat_natCast]; exact get_mid A x (Y ++ Z) ea, Nat.le_of_ble_eq_true rfl, ?_⟩
      (conv => whnf); (try (refine ⟨(rfl : (_ : Heap) = _), ?_⟩; (conv => whnf)))
      have hv := hry (dat Y (h - m)) (dat_mem (by omega))
      refine ⟨_, _, cmp_sound cs _ hv.1 hv.2 hrx.1 hrx.2, ?_⟩
      (conv => whnf); (try (refine ⟨(rfl : (_ : Heap) = _), ?_⟩; (conv => whnf)))
      refine ⟨fun hc3 => ?_, fun hc3 => ?_⟩
      · rw [cmp_lt] at hc3
        have hc3 : ptV cs (dat Y (h - m)) < ptV cs x := by simpa using hc3
        have hlt : h < m + t := by
          rcases Nat.lt_or_ge h (m + t) with g | g
          · exact g
          · exact absurd hc3 (t3 (h - m) (by omega) (by omega))
        (conv => whnf); (try (refine ⟨(rfl : (_ : Heap) = _), ?_⟩; (conv => whnf)))
        rw [i64_nat (by omega)]
        exact .inl ⟨rfl, j - (h + 1), [.sl 1 [] 1 0 N false, I a, I m, I b, .fn 36 [] [.ref 0 [] 1 0 0], .junk, .junk, .junk, .junk, .junk, I (h + 1 : Nat), I j, .junk, .junk, .junk, .junk, .junk, .junk, .junk, .junk, .junk, .junk, .junk, .junk, .junk, .junk, .junk, .junk, .junk, .junk, .junk, .junk, .junk, .junk, .junk, .junk, .junk, .junk, .junk, .junk, .junk, .junk, .junk, .junk, .junk, .junk, .junk, .junk, .junk, .junk, .junk, .junk, .junk, .junk, .junk, .junk, .junk, .junk, .junk, .junk, .junk, .junk, .junk, .junk, .junk, .junk, .junk, .junk, .junk, .junk, .junk, .junk, .junk, .junk, .junk, .junk, .junk, .junk, .junk, .junk, .junk, .junk, .junk, .junk, .junk, .junk, .junk, .junk, .junk, .junk, .junk, .junk, .junk, .junk, .junk, .junk, .junk, .junk, .junk, .junk, .junk, .junk, .junk, .junk, .junk, .junk, .junk, .junk, .junk, .junk, .junk, .junk, .junk, .junk, .junk, .junk, .junk, .junk, .junk, .junk, .junk, .junk, .junk, .junk, .junk, .junk, .junk, .junk, .junk, .junk, .junk, .junk, .junk, .junk, .junk, .junk, .junk, .junk, .junk, .junk, .junk, .junk, .junk, .junk, .junk, .junk, .junk, .junk, .junk, .junk, .junk, .junk, .junk, .junk, .junk, .junk, .junk, .junk, .junk, .junk, .junk, .junk, .junk, .junk, .junk, .junk, .junk, .junk, .junk, .junk, .junk, .junk, .junk, .junk, .junk, .junk, .junk, .junk, .junk, .junk, .junk, .junk, .junk, .junk, .junk, .junk, .junk, .junk, .junk, .junk, .junk, .junk, .junk, .junk, .junk, .junk, .junk, .junk, .junk, .junk, .junk, .junk, .junk, .junk, .junk, .junk, .junk, .junk, .junk, .junk, .junk, .junk, .junk, .junk, .junk, .junk, .junk, .junk, .junk, .junk], _, by omega, Weak.cov (by (conv => whnf); (repeat (refine ⟨rfl, ?_⟩; (conv => whnf))); exact trivial), h + 1, j, rfl, by omega, by omega, by omega, by omega, rfl, rfl⟩
      · rw [cmp_lt] at hc3
        have hc3 : ¬ ptV cs (dat Y (h - m)) < ptV cs x := by simpa using hc3
        have hlt : m + t ≤ h := by
          rcases Nat.lt_or_ge h (m + t) with g | g
          · exact absurd (t2 (h - m) (by omega) (by omega)) hc3
          · exact g
        (conv => whnf); (try (refine ⟨(rfl : (_ : Heap) = _), ?_⟩; (conv => whnf)))
        exact .inl ⟨rfl, h - i, [.sl 1 [] 1 0 N false, I a, I m, I b, .fn 36 [] [.ref 0 [] 1 0 0], .junk, .junk, .junk, .junk, .junk, I i, I h, .junk, .junk, .junk, .junk, .junk, .junk, .junk, .junk, .junk, .junk, .junk, .junk, .junk, .junk, .junk, .junk, .junk, .junk, .junk, .junk, .junk, .junk, .junk, .junk, .junk, .junk, .junk, .junk, .junk, .junk, .junk, .junk, .junk, .junk, .junk, .junk, .junk, .junk, .junk, .junk, .junk, .junk, .junk, .junk, .junk, .junk, .junk, .junk, .junk, .junk, .junk, .junk, .junk, .junk, .junk, .junk, .junk, .junk, .junk, .junk, .junk, .junk, .junk, .junk, .junk, .junk, .junk, .junk, .junk, .junk, .junk, .junk, .junk, .junk, .junk, .junk, .junk, .junk, .junk, .junk, .junk, .junk, .junk, .junk, .junk, .junk, .junk, .junk, .junk, .junk, .junk, .junk, .junk, .junk, .junk, .junk, .junk, .junk, .junk, .junk, .junk, .junk, .junk, .junk, .junk, .junk, .junk, .junk, .junk, .junk, .junk, .junk, .junk, .junk, .junk, .junk, .junk, .junk, .junk, .junk, .junk, .junk, .junk, .junk, .junk, .junk, .junk, .junk, .junk, .junk, .junk, .junk, .junk, .junk, .junk, .junk, .junk, .junk, .junk, .junk, .junk, .junk, .junk, .junk, .junk, .junk, .junk, .junk, .junk, .junk, .junk, .junk, .junk, .junk, .junk, .junk, .junk, .junk, .junk, .junk, .junk, .junk, .junk, .junk, .junk, .junk, .junk, .junk, .junk, .junk, .junk, .junk, .junk, .junk, .junk, .junk, .junk, .junk, .junk, .junk, .junk, .junk, .junk, .junk, .junk, .junk, .junk, .junk, .junk, .junk, .junk, .junk, .junk, .junk, .junk, .junk, .junk, .junk, .junk, .junk, .junk, .junk, .junk, .junk, .junk, .junk, .junk, .junk], _, by omega, Weak.cov (by (conv => whnf); (repeat (refine ⟨rfl, ?_⟩; (conv => whnf))); exact trivial), i, h, rfl, by omega, by omega, by omega, by omega, rfl, rfl⟩
    · have hc : i = m + t := by simp at hc; omega
      subst hc
      (conv => whnf); (try (refine ⟨(rfl : (_ : Heap) = _), ?_⟩; (conv => whnf)))
      refine .inr ⟨by simp, ?_⟩
      conv => whnf
      refine Loops.inv (fun q s1 H1 => ∃ (k : Nat) (Y1 Y2 : List Int), k = a + Y1.length ∧ t - Y1.length = q ∧ Y1.length ≤ t ∧ Y = Y1 ++ Y2 ∧ s1 = [.sl 1 [] 1 0 N false, I a, I m, I b, .fn 36 [] [.ref 0 [] 1 0 0], .junk, .junk, .junk, .junk, .junk, I (m + t : Nat), .junk, .junk, I k, .junk, .junk, .junk, .junk, .junk, .junk, .junk, .junk, .junk, .junk, .junk, .junk, .junk, .junk, .junk, .junk, .junk, .junk, .junk, .junk, .junk, .junk, .junk, .junk, .junk, .junk, .junk, .junk, .junk, .junk, .junk, .junk, .junk, .junk, .junk, .junk, .junk, .junk, .junk, .junk, .junk, .junk, .junk, .junk, .junk, .junk, .junk, .junk, .junk, .junk, .junk, .junk, .junk, .junk, .junk, .junk, .junk, .junk, .junk, .junk, .junk, .junk, .junk, .junk, .junk, .junk, .junk, .junk, .junk, .junk, .junk, .junk, .junk, .junk, .junk, .junk, .junk, .junk, .junk, .junk, .junk, .junk, .junk, .junk, .junk, .junk, .junk, .junk, .junk, .junk, .junk, .junk, .junk, .junk, .junk, .junk, .junk, .junk, .junk, .junk, .junk, .junk, .junk, .junk, .junk, .junk, .junk, .junk, .junk, .junk, .junk, .junk, .junk, .junk, .junk, .junk, .junk, .junk, .junk, .junk, .junk, .junk, .junk, .junk, .junk, .junk, .junk, .junk, .junk, .junk, .junk, .junk, .junk, .junk, .junk, .junk, .junk, .junk, .junk, .junk, .junk, .junk, .junk, .junk, .junk, .junk, .junk, .junk, .junk, .junk, .junk, .junk, .junk, .junk, .junk, .junk, .junk, .junk, .junk, .junk, .junk, .junk, .junk, .junk, .junk, .junk, .junk, .junk, .junk, .junk, .junk, .junk, .junk, .junk, .junk, .junk, .junk, .junk, .junk, .junk, .junk, .junk, .junk, .junk, .junk, .junk, .junk, .junk, .junk, .junk, .junk, .junk, .junk, .junk, .junk, .junk, .junk, .junk, .junk, .junk, .junk, .junk, .junk, .junk, .junk, .junk] ∧ H1 = [⟨1, 22, 1, [[lCal cs]], 0⟩, ⟨2, 3, 1, (A ++ (Y1 ++ x :: (Y2 ++ Z))).map encI, 0⟩]) t ?_ ?_
      · exact ⟨[.sl 1 [] 1 0 N false, I a, I m, I b, .fn 36 [] [.ref 0 [] 1 0 0], .junk, .junk, .junk, .junk, .junk, I (m + t : Nat), .junk, .junk, I a, .junk, .junk, .junk, .junk, .junk, .junk, .junk, .junk, .junk, .junk, .junk, .junk, .junk, .junk, .junk, .junk, .junk, .junk, .junk, .junk, .junk, .junk, .junk, .junk, .junk, .junk, .junk, .junk, .junk, .junk, .junk, .junk, .junk, .junk, .junk, .junk, .junk, .junk, .junk, .junk, .junk, .junk, .junk, .junk, .junk, .junk, .junk, .junk, .junk, .junk, .junk, .junk, .junk, .junk, .junk, .junk, .junk, .junk, .junk, .junk, .junk, .junk, .junk, .junk, .junk, .junk, .junk, .junk, .junk, .junk, .junk, .junk, .junk, .junk, .junk, .junk, .junk, .junk, .junk, .junk, .junk, .junk, .junk, .junk, .junk, .junk, .junk, .junk, .junk, .junk, .junk, .junk, .junk, .junk, .junk, .junk, .junk, .junk, .junk, .junk, .junk, .junk, .junk, .junk, .junk, .junk, .junk, .junk, .junk, .junk, .junk, .junk, .junk, .junk, .junk, .junk, .junk, .junk, .junk, .junk, .junk, .junk, .junk, .junk, .junk, .junk, .junk, .junk, .junk, .junk, .junk, .junk, .junk, .junk, .junk, .junk, .junk, .junk, .junk, .junk, .junk, .junk, .junk, .junk, .junk, .junk, .junk, .junk, .junk, .junk, .junk, .junk, .junk, .junk, .junk, .junk, .junk, .junk, .junk, .junk, .junk, .junk, .junk, .junk, .junk, .junk, .junk, .junk, .junk, .junk, .junk, .junk, .junk, .junk, .junk, .junk, .junk, .junk, .junk, .junk, .junk, .junk, .junk, .junk, .junk, .junk, .junk, .junk, .junk, .junk, .junk, .junk, .junk, .junk, .junk, .junk, .junk, .junk, .junk, .junk, .junk, .junk, .junk, .junk, .junk, .junk], _, Weak.cov (by (conv => whnf); (repeat (refine ⟨rfl, ?_⟩; (conv => whnf))); exact trivial), a, [], Y, rfl, rfl, by simp, rfl, rfl, rfl⟩
      · rintro q s1 H1 ⟨k, Y1, Y2, h1, h2, h3, rfl, rfl, rfl⟩
        simp only [List.length_append] at hN eb t1 hY
        have w2 : IntKind.i64.wrap (((m + t : Nat) : Int) - 1) = (a + t : Nat) := by rw [i64_ok (by omega) (by omega)]; omega
        conv => whnf
        rw [w2]
        refine ⟨fun hc => ?_, fun hc => ?_⟩
        · have hc : k < a + t := by simp at hc; omega
          obtain ⟨y, Y3, rfl⟩ : ∃ x Q, Y2 = x :: Q := by cases Y2 with | nil => simp at t1; omega | cons x Q => exact ⟨x, Q, rfl⟩
          simp only [List.length_cons] at hN eb t1
          have w3 : IntKind.i64.wrap ((k : Int) + 1) = (k + 1 : Nat) := i64_nat (by omega)
          have e1 : A ++ (Y1 ++ x :: (y :: Y3 ++ Z)) = (A ++ Y1 ++ [x]) ++ y :: (Y3 ++ Z) := by simp
          have e2 : A ++ (Y1 ++ x :: (y :: Y3 ++ Z)) = (A ++ Y1) ++ x :: (y :: (Y3 ++ Z)) := by simp
          (conv => whnf); (try (refine ⟨(rfl : (_ : Heap) = _), ?_⟩; (conv => whnf)))
          refine ⟨⟨false, [], []⟩, by kernel_rfl, ?_⟩; (conv => whnf)
          rw [w3]
          refine ⟨by omega, by omega, ?_⟩
          (conv => whnf); (try (refine ⟨(rfl : (_ : Heap) = _), ?_⟩; (conv => whnf)))
          refine ⟨_, by (rw [Nat.zero_add, Int.toNat_natCast, e1]; exact get_mid _ _ _ (by simp only [List.length_append, List.length_cons, List.length_nil]; omega)), Nat.le_of_ble_eq_true rfl, ?_⟩
          (conv => whnf); (try (refine ⟨(rfl : (_ : Heap) = _), ?_⟩; (conv => whnf)))
          refine ⟨by omega, by omega, ?_⟩
          (conv => whnf); (try (refine ⟨(rfl : (_ : Heap) = _), ?_⟩; (conv => whnf)))
          refine ⟨_, by (rw [Nat.zero_add, Int.toNat_natCast, e2]; exact get_mid _ _ _ (by simp only [List.length_append, List.length_cons, List.length_nil]; omega)), Nat.le_of_ble_eq_true rfl, ?_⟩
          (conv => whnf); (try (refine ⟨(rfl : (_ : Heap) = _), ?_⟩; (conv => whnf)))
          refine ⟨by omega, by omega, ?_⟩
          (conv => whnf); (try (refine ⟨(rfl : (_ : Heap) = _), ?_⟩; (conv => whnf)))
          refine ⟨_, by (rw [Nat.zero_add, Int.toNat_natCast, e2]; exact get_mid _ _ _ (by simp only [List.length_append, List.length_cons, List.length_nil]; omega)), rfl, ?_⟩
          (conv => whnf); (try (refine ⟨(rfl : (_ : Heap) = _), ?_⟩; (conv => whnf)))
          have n1 : 0 + (k : Int).toNat = (A ++ Y1).length := by simp only [List.length_append]; omega
          rw [rset e2 n1]
          have e3 : (A ++ Y1) ++ y :: (y :: (Y3 ++ Z)) = (A ++ Y1 ++ [y]) ++ y :: (Y3 ++ Z) := by simp
          have n2 : 0 + ((k + 1 : Nat) : Int).toNat = (A ++ Y1 ++ [y]).length := by simp only [List.length_append, List.length_cons, List.length_nil]; omega
          refine ⟨by omega, by omega, ?_⟩
          (conv => whnf); (try (refine ⟨(rfl : (_ : Heap) = _), ?_⟩; (conv => whnf)))
          refine ⟨_, by (rw [Nat.zero_add, Int.toNat_natCast, e3]; exact get_mid _ _ _ (by simp only [List.length_append, List.length_cons, List.length_nil]; omega)), rfl, ?_⟩
          (conv => whnf); (try (refine ⟨(rfl : (_ : Heap) = _), ?_⟩; (conv => whnf)))
          rw [rset e3 n2]
          have e4 : (A ++ Y1 ++ [y]) ++ x :: (Y3 ++ Z) = A ++ ((Y1 ++ [y]) ++ x :: (Y3 ++ Z)) := by simp
          (try rw [w3])
          rw [e4]
          exact .inl ⟨rfl, t - (Y1.length + 1), [.sl 1 [] 1 0 N false, I a, I m, I b, .fn 36 [] [.ref 0 [] 1 0 0], .junk, .junk, .junk, .junk, .junk, I (m + t : Nat), .junk, .junk, I (k + 1 : Nat), .junk, .junk, .junk, .junk, .junk, .junk, .junk, .junk, .junk, .junk, .junk, .junk, .junk, .junk, .junk, .junk, .junk, .junk, .junk, .junk, .junk, .junk, .junk, .junk, .junk, .junk, .junk, .junk, .junk, .junk, .junk, .junk, .junk, .junk, .junk, .junk, .junk, .junk, .junk, .junk, .junk, .junk, .junk, .junk, .junk, .junk, .junk, .junk, .junk, .junk, .junk, .junk, .junk, .junk, .junk, .junk, .junk, .junk, .junk, .junk, .junk, .junk, .junk, .junk, .junk, .junk, .junk, .junk, .junk, .junk, .junk, .junk, .junk, .junk, .junk, .junk, .junk, .junk, .junk, .junk, .junk, .junk, .junk, .junk, .junk, .junk, .junk, .junk, .junk, .junk, .junk, .junk, .junk, .junk, .junk, .junk, .junk, .junk, .junk, .junk, .junk, .junk, .junk, .junk, .junk, .junk, .junk, .junk, .junk, .junk, .junk, .junk, .junk, .junk, .junk, .junk, .junk, .junk, .junk, .junk, .junk, .junk, .junk, .junk, .junk, .junk, .junk, .junk, .junk, .junk, .junk, .junk, .junk, .junk, .junk, .junk, .junk, .junk, .junk, .junk, .junk, .junk, .junk, .junk, .junk, .junk, .junk, .junk, .junk, .junk, .junk, .junk, .junk, .junk, .junk, .junk, .junk, .junk, .junk, .junk, .junk, .junk, .junk, .junk, .junk, .junk, .junk, .junk, .junk, .junk, .junk, .junk, .junk, .junk, .junk, .junk, .junk, .junk, .junk, .junk, .junk, .junk, .junk, .junk, .junk, .junk, .junk, .junk, .junk, .junk, .junk, .junk, .junk, .junk, .junk, .junk, .junk, .junk, .junk, .junk, .junk, .junk, .junk, .junk, .junk, .junk], _, by omega, Weak.cov (by (conv => whnf); (repeat (refine ⟨rfl, ?_⟩; (conv => whnf))); exact trivial), k + 1, Y1 ++ [y], Y3, by simp; omega, by simp, by simp; omega, by simp, rfl, rfl⟩
        · have hk : Y1.length = t := by simp at hc; omega
          subst hk
          (conv => whnf); (try (refine ⟨(rfl : (_ : Heap) = _), ?_⟩; (conv => whnf)))
          refine .inr ⟨by simp, ?_⟩
          conv => whnf
          refine ⟨.inl rfl, _, .refl _, ?_, rfl⟩
          rw [List.take_left, List.drop_left, List.append_assoc]; rfl

theorem merge2_sound (cs : List Cal) (N : Nat) (A X Z W : List Int) (y : Int) {a m b : Nat} (ea : a = A.length) (em : m = A.length + X.length) (eb : b = A.length + X.length + 1) (hX : 1 < X.length)
    (hN : N = (A ++ (X ++ ([y] ++ Z))).length) (hb : N ≤ 1000000000) (hry : 0 ≤ y ∧ y.toNat < cs.length) (hrx : Rg cs.length X) (sx : Sd (ptV cs) X) (st : Stb (ptV cs) X [y])
    (hs : Sd (ptV cs) W) (hp : W.Perm (X ++ [y])) : SoundAt Try.prog 82 [⟨1, 22, 1, [[lCal cs]], 0⟩, ⟨2, 3, 1, (A ++ (X ++ ([y] ++ Z))).map encI, 0⟩] [.sl 1 [] 1 0 N false, I a, I m, I b, .fn 36 [] [.ref 0 [] 1 0 0]] (.tup []) [⟨1, 22, 1, [[lCal cs]], 0⟩, ⟨2, 3, 1, (A ++ (W ++ Z)).map encI, 0⟩] := by
  have hN' := hN
  simp only [List.length_append, List.length_cons, List.length_nil] at hN
  have w1 : IntKind.i64.wrap ((m : Int) - (a : Int)) = (X.length : Nat) := by rw [i64_ok (by omega) (by omega)]; omega
  have w0 : IntKind.i64.wrap ((b : Int) - (m : Int)) = 1 := by rw [i64_ok (by omega) (by omega)]; omega
  obtain ⟨t, -, t1, t2, t3⟩ := thr (fun c => ¬ ptV cs y < ptV cs (dat X c)) 0 X.length fun c c' _ h2 h3 h4 => by
    have := (sx.dat (i := c) (j := c') (by omega) (by omega)).le
    omega
  rw [Nat.zero_add] at t1 t3
  have t3 : ∀ c, t ≤ c → c < X.length → ptV cs y < ptV cs (dat X c) := fun c h h' => Decidable.not_not.1 (t3 c h h')
  have key := one_behind (pt := ptV cs) sx st t (fun k h _ => t2 k (by omega) h) (fun k h h' => t3 k h h')
  obtain rfl : W = X.take t ++ y :: X.drop t := Sd.ext hs key.1 (hp.trans key.2.symm)
  have rd : ∀ h, a ≤ h → h < m → ((A ++ (X ++ ([y] ++ Z))).map encI)[h]? = some (encI (dat X (h - a))) := fun h h1 h2 => by
    rw [drow (by omega), mid_dat (by omega) (by omega), ea]
  have e0 : A ++ (X ++ ([y] ++ Z)) = (A ++ X) ++ y :: Z := by simp
  refine SoundAt.of_wpA (fn := Try.f82) Try.func82 rfl ?_
  conv => whnf
  refine ⟨fun h => absurd h (by rw [w1]; simp; omega), fun _ => ?_⟩
  (conv => whnf); (try (refine ⟨(rfl : (_ : Heap) = _), ?_⟩; (conv => whnf)))
  refine ⟨fun _ => ?_, fun h => absurd h (by rw [w0]; decide)⟩
  (conv => whnf); (try (refine ⟨(rfl : (_ : Heap) = _), ?_⟩; (conv => whnf)))
  refine Loops.inv (fun q s1 H1 => ∃ (i j : Nat), j - i = q ∧ a ≤ i ∧ i ≤ a + t ∧ a + t ≤ j ∧ j ≤ m ∧ s1 = [.sl 1 [] 1 0 N false, I a, I m, I b, .fn 36 [] [.ref 0 [] 1 0 0], .junk, .junk, .junk, .junk, .junk, .junk, .junk, .junk, .junk, I i, I j, .junk, .junk, .junk, .junk, .junk, .junk, .junk, .junk, .junk, .junk, .junk, .junk, .junk, .junk, .junk, .junk, .junk, .junk, .junk, .junk, .junk, .junk, .junk, .junk, .junk, .junk, .junk, .junk, .junk, .junk, .junk, .junk, .junk, .junk, .junk, .junk, .junk, .junk, .junk, .junk, .junk, .junk, .junk, .junk, .junk, .junk, .junk, .junk, .junk, .junk, .junk, .junk, .junk, .junk, .junk, .junk, .junk, .junk, .junk, .junk, .junk, .junk, .junk, .junk, .junk, .junk, .junk, .junk, .junk, .junk, .junk, .junk, .junk, .junk, .junk, .junk, .junk, .junk, .junk, .junk, .junk, .junk, .junk, .junk, .junk, .junk, .junk, .junk, .junk, .junk, .junk, .junk, .junk, .junk, .junk, .junk, .junk, .junk, .junk, .junk, .junk, .junk, .junk, .junk, .junk, .junk, .junk, .junk, .junk, .junk, .junk, .junk, .junk, .junk, .junk, .junk, .junk, .junk, .junk, .junk, .junk, .junk, .junk, .junk, .junk, .junk, .junk, .junk, .junk, .junk, .junk, .junk, .junk, .junk, .junk, .junk, .junk, .junk, .junk, .junk, .junk, .junk, .junk, .junk, .junk, .junk, .junk, .junk, .junk, .junk, .junk, .junk, .junk, .junk, .junk, .junk, .junk, .junk, .junk, .junk, .junk, .junk, .junk, .junk, .junk, .junk, .junk, .junk, .junk, .junk, .junk, .junk, .junk, .junk, .junk, .junk, .junk, .junk, .junk, .junk, .junk, .junk, .junk, .junk, .junk, .junk, .junk, .junk, .junk, .junk, .junk, .junk, .junk, .junk, .junk, .junk, .junk, .junk, .junk, .junk, .junk, .junk, .junk, .junk] ∧ H1 = [⟨1, 22, 1, [[lCal cs]], 0⟩, ⟨2, 3, 1, (A ++ (X ++ ([y] ++ Z))).map encI, 0⟩]) (m - a) ?_ ?_
  · exact ⟨[.sl 1 [] 1 0 N false, I a, I m, I b, .fn 36 [] [.ref 0 [] 1 0 0], .junk, .junk, .junk, .junk, .junk, .junk, .junk, .junk, .junk, I a, I m, .junk, .junk, .junk, .junk, .junk, .junk, .junk, .junk, .junk, .junk, .junk, .junk, .junk, .junk, .junk, .junk, .junk, .junk, .junk, .junk, .junk, .junk, .junk, .junk, .junk, .junk, .junk, .junk, .junk, .junk, .junk, .junk, .junk, .junk, .junk, .junk, .junk, .junk, .junk, .junk, .junk, .junk, .junk, .junk, .junk, .junk, .junk, .junk, .junk, .junk, .junk, .junk, .junk, .junk, .junk, .junk, .junk, .junk, .junk, .junk, .junk, .junk, .junk, .junk, .junk, .junk, .junk, .junk, .junk, .junk, .junk, .junk, .junk, .junk, .junk, .junk, .junk, .junk, .junk, .junk, .junk, .junk, .junk, .junk, .junk, .junk, .junk, .junk, .junk, .junk, .junk, .junk, .junk, .junk, .junk, .junk, .junk, .junk, .junk, .junk, .junk, .junk, .junk, .junk, .junk, .junk, .junk, .junk, .junk, .junk, .junk, .junk, .junk, .junk, .junk, .junk, .junk, .junk, .junk, .junk, .junk, .junk, .junk, .junk, .junk, .junk, .junk, .junk, .junk, .junk, .junk, .junk, .junk, .junk, .junk, .junk, .junk, .junk, .junk, .junk, .junk, .junk, .junk, .junk, .junk, .junk, .junk, .junk, .junk, .junk, .junk, .junk, .junk, .junk, .junk, .junk, .junk, .junk, .junk, .junk, .junk, .junk, .junk, .junk, .junk, .junk, .junk, .junk, .junk, .junk, .junk, .junk, .junk, .junk, .junk, .junk, .junk, .junk, .junk, .junk, .junk, .junk, .junk, .junk, .junk, .junk, .junk, .junk, .junk, .junk, .junk, .junk, .junk, .junk, .junk, .junk, .junk, .junk, .junk, .junk, .junk, .junk, .junk, .junk], _, Weak.cov (by (conv => whnf); (repeat (refine ⟨rfl, ?_⟩; (conv => whnf))); exact trivial), a, m, rfl, by omega, by omega, by omega, by omega, rfl, rfl⟩
  · rintro q s1 H1 ⟨i, j, h1, h2, h3, h4, h5, rfl, rfl⟩
    conv => whnf
    refine ⟨fun hc => ?_, fun hc => ?_⟩
    · have hc : i < j := by simpa using hc
      (conv => whnf); (try (refine ⟨(rfl : (_ : Heap) = _), ?_⟩; (conv => whnf)))
      refine ⟨⟨false, [], []⟩, by kernel_rfl, ?_⟩; (conv => whnf)
      rw [half (by omega)]
      obtain ⟨h, hh⟩ : ∃ h, h = (i + j) / 2 := ⟨_, rfl⟩
      rw [← hh]
      refine ⟨by omega, by omega, ?_⟩
      (conv => whnf); (try (refine ⟨(rfl : (_ : Heap) = _), ?_⟩; (conv => whnf)))
      refine ⟨_, by rw [Nat.zero_add, Int.toNat_natCast, e0]; exact get_mid (A ++ X) y Z (by simp only [List.length_append]; omega), Nat.le_of_ble_eq_true rfl, ?_⟩
      (conv => whnf); (try (refine ⟨(rfl : (_ : Heap) = _), ?_⟩; (conv => whnf)))
      refine ⟨by omega, by omega, ?_⟩
      (conv => whnf); (try (refine ⟨(rfl : (_ : Heap) = _), ?_⟩; (conv => whnf)))
      refine ⟨_, by rw [Nat.zero_add, Int.toNat_natCast]; exact rd h (by omega) (by omega), Nat.le_of_ble_eq_true rfl, ?_⟩
      (conv => whnf); (try (refine ⟨(rfl : (_ : Heap) = _), ?_⟩; (conv => whnf)))
      have hv := hrx (dat X (h - a)) (dat_mem (by omega))
      refine ⟨_, _, cmp_sound cs _ hry.1 hry.2 hv.1 hv.2, ?_⟩
      (conv => whnf); (try (refine ⟨(rfl : (_ : Heap) = _), ?_⟩; (conv => whnf)))
      refine ⟨fun hc3 => ?_, fun hc3 => ?_⟩
      · have hc3 : ptV cs y < ptV cs (dat X (h - a)) := by rw [cmp_lt] at hc3; simpa using hc3
        have hlt : a + t ≤ h := by
          rcases Nat.lt_or_ge h (a + t) with g | g
          · exact absurd hc3 (t2 (h - a) (by omega) (by omega))
          · exact g
        (conv => whnf); (try (refine ⟨(rfl : (_ : Heap) = _), ?_⟩; (conv => whnf)))
        (repeat (first | (refine ⟨fun _ => ?_, fun h => absurd h (by decide)⟩; (conv => whnf); (try (refine ⟨(rfl : (_ : Heap) = _), ?_⟩; (conv => whnf)))) | (refine ⟨fun h => absurd h (by decide), fun _ => ?_⟩; (conv => whnf); (try (refine ⟨(rfl : (_ : Heap) = _), ?_⟩; (conv => whnf))))))
        exact .inl ⟨rfl, h - i, [.sl 1 [] 1 0 N false, I a, I m, I b, .fn 36 [] [.ref 0 [] 1 0 0], .junk, .junk, .junk, .junk, .junk, .junk, .junk, .junk, .junk, I i, I h, .junk, .junk, .junk, .junk, .junk, .junk, .junk, .junk, .junk, .junk, .junk, .junk, .junk, .junk, .junk, .junk, .junk, .junk, .junk, .junk, .junk, .junk, .junk, .junk, .junk, .junk, .junk, .junk, .junk, .junk, .junk, .junk, .junk, .junk, .junk, .junk, .junk, .junk, .junk, .junk, .junk, .junk, .junk, .junk, .junk, .junk, .junk, .junk, .junk, .junk, .junk, .junk, .junk, .junk, .junk, .junk, .junk, .junk, .junk, .junk, .junk, .junk, .junk, .junk, .junk, .junk, .junk, .junk, .junk, .junk, .junk, .junk, .junk, .junk, .junk, .junk, .junk, .junk, .junk, .junk, .junk, .junk, .junk, .junk, .junk, .junk, .junk, .junk, .junk, .junk, .junk, .junk, .junk, .junk, .junk, .junk, .junk, .junk, .junk, .junk, .junk, .junk, .junk, .junk, .junk, .junk, .junk, .junk, .junk, .junk, .junk, .junk, .junk, .junk, .junk, .junk, .junk, .junk, .junk, .junk, .junk, .junk, .junk, .junk, .junk, .junk, .junk, .junk, .junk, .junk, .junk, .junk, .junk, .junk, .junk, .junk, .junk, .junk, .junk, .junk, .junk, .junk, .junk, .junk, .junk, .junk, .junk, .junk, .junk, .junk, .junk, .junk, .junk, .junk, .junk, .junk, .junk, .junk, .junk, .junk, .junk, .junk, .junk, .junk, .junk, .junk, .junk, .junk, .junk, .junk, .junk, .junk, .junk, .junk, .junk, .junk, .junk, .junk, .junk, .junk, .junk, .junk, .junk, .junk, .junk, .junk, .junk, .junk, .junk, .junk, .junk, .junk, .junk, .junk, .junk, .junk, .junk, .junk, .junk, .junk, .junk, .junk, .junk, .junk], _, by omega, Weak.cov (by (conv => whnf); (repeat (refine ⟨rfl, ?_⟩; (conv => whnf))); exact trivial), i, h, rfl, by omega, by omega, by omega, by omega, rfl, rfl⟩
      · have hc3 : ¬ ptV cs y < ptV cs (dat X (h - a)) := by rw [cmp_lt] at hc3; simpa using hc3
        have hlt : h < a + t := by
          rcases Nat.lt_or_ge h (a + t) with g | g
          · exact g
          · exact absurd (t3 (h - a) (by omega) (by omega)) hc3
        (conv => whnf); (try (refine ⟨(rfl : (_ : Heap) = _), ?_⟩; (conv => whnf)))
        (repeat (first | (refine ⟨fun _ => ?_, fun h => absurd h (by decide)⟩; (conv => whnf); (try (refine ⟨(rfl : (_ : Heap) = _), ?_⟩; (conv => whnf)))) | (refine ⟨fun h => absurd h (by decide), fun _ => ?_⟩; (conv => whnf); (try (refine ⟨(rfl : (_ : Heap) = _), ?_⟩; (conv => whnf))))))
        rw [i64_nat (by omega)]
        exact .inl ⟨rfl, j - (h + 1), [.sl 1 [] 1 0 N false, I a, I m, I b, .fn 36 [] [.ref 0 [] 1 0 0], .junk, .junk, .junk, .junk, .junk, .junk, .junk, .junk, .junk, I (h + 1 : Nat), I j, .junk, .junk, .junk, .junk, .junk, .junk, .junk, .junk, .junk, .junk, .junk, .junk, .junk, .junk, .junk, .junk, .junk, .junk, .junk, .junk, .junk, .junk, .junk, .junk, .junk, .junk, .junk, .junk, .junk, .junk, .junk, .junk, .junk, .junk, .junk, .junk, .junk, .junk, .junk, .junk, .junk, .junk, .junk, .junk, .junk, .junk, .junk, .junk, .junk, .junk, .junk, .junk, .junk, .junk, .junk, .junk, .junk, .junk, .junk, .junk, .junk, .junk, .junk, .junk, .junk, .junk, .junk, .junk, .junk, .junk, .junk, .junk, .junk, .junk, .junk, .junk, .junk, .junk, .junk, .junk, .junk, .junk, .junk, .junk, .junk, .junk, .junk, .junk, .junk, .junk, .junk, .junk, .junk, .junk, .junk, .junk, .junk, .junk, .junk, .junk, .junk, .junk, .junk, .junk, .junk, .junk, .junk, .junk, .junk, .junk, .junk, .junk, .junk, .junk, .junk, .junk, .junk, .junk, .junk, .junk, .junk, .junk, .junk, .junk, .junk, .junk, .junk, .junk, .junk, .junk, .junk, .junk, .junk, .junk, .junk, .junk, .junk, .junk, .junk, .junk, .junk, .junk, .junk, .junk, .junk, .junk, .junk, .junk, .junk, .junk, .junk, .junk, .junk, .junk, .junk, .junk, .junk, .junk, .junk, .junk, .junk, .junk, .junk, .junk, .junk, .junk, .junk, .junk, .junk, .junk, .junk, .junk, .junk, .junk, .junk, .junk, .junk, .junk, .junk, .junk, .junk, .junk, .junk, .junk, .junk, .junk, .junk, .junk, .junk, .junk, .junk, .junk, .junk, .junk, .junk, .junk, .junk, .junk, .junk, .junk, .junk, .junk, .junk, .junk], _, by omega, Weak.cov (by (conv => whnf); (repeat (refine ⟨rfl, ?_⟩; (conv => whnf))); exact trivial), h + 1, j, rfl, by omega, by omega, by omega, by omega, rfl, rfl⟩
    · have hc : i = a + t := by simp at hc; omega
      subst hc
      (conv => whnf); (try (refine ⟨(rfl : (_ : Heap) = _), ?_⟩; (conv => whnf)))
      refine .inr ⟨by simp, ?_⟩
      conv => whnf
      refine Loops.inv (fun q s1 H1 => ∃ (k : Nat) (X1 X2 : List Int), k = a + X1.length ∧ X1.length = q ∧ t ≤ X1.length ∧ X = X1 ++ X2 ∧ s1 = [.sl 1 [] 1 0 N false, I a, I m, I b, .fn 36 [] [.ref 0 [] 1 0 0], .junk, .junk, .junk, .junk, .junk, .junk, .junk, .junk, .junk, I (a + t : Nat), .junk, .junk, I k, .junk, .junk, .junk, .junk, .junk, .junk, .junk, .junk, .junk, .junk, .junk, .junk, .junk, .junk, .junk, .junk, .junk, .junk, .junk, .junk, .junk, .junk, .junk, .junk, .junk, .junk, .junk, .junk, .junk, .junk, .junk, .junk, .junk, .junk, .junk, .junk, .junk, .junk, .junk, .junk, .junk, .junk, .junk, .junk, .junk, .junk, .junk, .junk, .junk, .junk, .junk, .junk, .junk, .junk, .junk, .junk, .junk, .junk, .junk, .junk, .junk, .junk, .junk, .junk, .junk, .junk, .junk, .junk, .junk, .junk, .junk, .junk, .junk, .junk, .junk, .junk, .junk, .junk, .junk, .junk, .junk, .junk, .junk, .junk, .junk, .junk, .junk, .junk, .junk, .junk, .junk, .junk, .junk, .junk, .junk, .junk, .junk, .junk, .junk, .junk, .junk, .junk, .junk, .junk, .junk, .junk, .junk, .junk, .junk, .junk, .junk, .junk, .junk, .junk, .junk, .junk, .junk, .junk, .junk, .junk, .junk, .junk, .junk, .junk, .junk, .junk, .junk, .junk, .junk, .junk, .junk, .junk, .junk, .junk, .junk, .junk, .junk, .junk, .junk, .junk, .junk, .junk, .junk, .junk, .junk, .junk, .junk, .junk, .junk, .junk, .junk, .junk, .junk, .junk, .junk, .junk, .junk, .junk, .junk, .junk, .junk, .junk, .junk, .junk, .junk, .junk, .junk, .junk, .junk, .junk, .junk, .junk, .junk, .junk, .junk, .junk, .junk, .junk, .junk, .junk, .junk, .junk, .junk, .junk, .junk, .junk, .junk, .junk, .junk, .junk, .junk, .junk, .junk, .junk, .junk, .junk, .junk, .junk, .junk, .junk, .junk, .junk] ∧ H1 = [⟨1, 22, 1, [[lCal cs]], 0⟩, ⟨2, 3, 1, (A ++ (X1 ++ y :: (X2 ++ Z))).map encI, 0⟩]) X.length ?_ ?_
      · refine ⟨[.sl 1 [] 1 0 N false, I a, I m, I b, .fn 36 [] [.ref 0 [] 1 0 0], .junk, .junk, .junk, .junk, .junk, .junk, .junk, .junk, .junk, I (a + t : Nat), .junk, .junk, I m, .junk, .junk, .junk, .junk, .junk, .junk, .junk, .junk, .junk, .junk, .junk, .junk, .junk, .junk, .junk, .junk, .junk, .junk, .junk, .junk, .junk, .junk, .junk, .junk, .junk, .junk, .junk, .junk, .junk, .junk, .junk, .junk, .junk, .junk, .junk, .junk, .junk, .junk, .junk, .junk, .junk, .junk, .junk, .junk, .junk, .junk, .junk, .junk, .junk, .junk, .junk, .junk, .junk, .junk, .junk, .junk, .junk, .junk, .junk, .junk, .junk, .junk, .junk, .junk, .junk, .junk, .junk, .junk, .junk, .junk, .junk, .junk, .junk, .junk, .junk, .junk, .junk, .junk, .junk, .junk, .junk, .junk, .junk, .junk, .junk, .junk, .junk, .junk, .junk, .junk, .junk, .junk, .junk, .junk, .junk, .junk, .junk, .junk, .junk, .junk, .junk, .junk, .junk, .junk, .junk, .junk, .junk, .junk, .junk, .junk, .junk, .junk, .junk, .junk, .junk, .junk, .junk, .junk, .junk, .junk, .junk, .junk, .junk, .junk, .junk, .junk, .junk, .junk, .junk, .junk, .junk, .junk, .junk, .junk, .junk, .junk, .junk, .junk, .junk, .junk, .junk, .junk, .junk, .junk, .junk, .junk, .junk, .junk, .junk, .junk, .junk, .junk, .junk, .junk, .junk, .junk, .junk, .junk, .junk, .junk, .junk, .junk, .junk, .junk, .junk, .junk, .junk, .junk, .junk, .junk, .junk, .junk, .junk, .junk, .junk, .junk, .junk, .junk, .junk, .junk, .junk, .junk, .junk, .junk, .junk, .junk, .junk, .junk, .junk, .junk, .junk, .junk, .junk, .junk, .junk, .junk, .junk, .junk, .junk, .junk, .junk, .junk], _, Weak.cov (by (conv => whnf); (repeat (refine ⟨rfl, ?_⟩; (conv => whnf))); exact trivial), m, X, [], by omega, rfl, by omega, by simp, rfl, rfl⟩
      · rintro q s1 H1 ⟨k, X1, X2, h1, h2, h3, rfl, rfl, rfl⟩
        simp only [List.length_append] at hN eb em t1 hX
        conv => whnf
        refine ⟨fun hc => ?_, fun hc => ?_⟩
        · have hc : a + t < k := by simp at hc; omega
          obtain ⟨X3, x, rfl⟩ : ∃ V3 v, X1 = V3 ++ [v] := ⟨X1.dropLast, X1.getLast (by intro e; subst e; simp at h1; omega), (List.dropLast_concat_getLast _).symm⟩
          simp only [List.length_append, List.length_cons, List.length_nil] at hN eb em t1 h1 h2 h3
          have w3 : IntKind.i64.wrap ((k : Int) - 1) = (k - 1 : Nat) := by rw [i64_ok (by omega) (by omega)]; omega
          have e1 : A ++ (X3 ++ [x] ++ y :: (X2 ++ Z)) = (A ++ X3 ++ [x]) ++ y :: (X2 ++ Z) := by simp
          have e2 : A ++ (X3 ++ [x] ++ y :: (X2 ++ Z)) = (A ++ X3) ++ x :: (y :: (X2 ++ Z)) := by simp
          (conv => whnf); (try (refine ⟨(rfl : (_ : Heap) = _), ?_⟩; (conv => whnf)))
          refine ⟨⟨false, [], []⟩, by kernel_rfl, ?_⟩; (conv => whnf)
          rw [w3]
          refine ⟨by omega, by omega, ?_⟩
          (conv => whnf); (try (refine ⟨(rfl : (_ : Heap) = _), ?_⟩; (conv => whnf)))
          refine ⟨_, by (rw [Nat.zero_add, Int.toNat_natCast, e2]; exact get_mid _ _ _ (by simp only [List.length_append, List.length_cons, List.length_nil]; omega)), Nat.le_of_ble_eq_true rfl, ?_⟩
          (conv => whnf); (try (refine ⟨(rfl : (_ : Heap) = _), ?_⟩; (conv => whnf)))
          refine ⟨by omega, by omega, ?_⟩
          (conv => whnf); (try (refine ⟨(rfl : (_ : Heap) = _), ?_⟩; (conv => whnf)))
          refine ⟨_, by (rw [Nat.zero_add, Int.toNat_natCast, e1]; exact get_mid _ _ _ (by simp only [List.length_append, List.length_cons, List.length_nil]; omega)), Nat.le_of_ble_eq_true rfl, ?_⟩
          (conv => whnf); (try (refine ⟨(rfl : (_ : Heap) = _), ?_⟩; (conv => whnf)))
          refine ⟨by omega, by omega, ?_⟩
          (conv => whnf); (try (refine ⟨(rfl : (_ : Heap) = _), ?_⟩; (conv => whnf)))
          refine ⟨_, by (rw [Nat.zero_add, Int.toNat_natCast, e1]; exact get_mid _ _ _ (by simp only [List.length_append, List.length_cons, List.length_nil]; omega)), rfl, ?_⟩
          (conv => whnf); (try (refine ⟨(rfl : (_ : Heap) = _), ?_⟩; (conv => whnf)))
          have n1 : 0 + (k : Int).toNat = (A ++ X3 ++ [x]).length := by simp only [List.length_append, List.length_cons, List.length_nil]; omega
          rw [rset e1 n1]
          have e3 : (A ++ X3 ++ [x]) ++ x :: (X2 ++ Z) = (A ++ X3) ++ x :: (x :: (X2 ++ Z)) := by simp
          have n2 : 0 + ((k - 1 : Nat) : Int).toNat = (A ++ X3).length := by simp only [List.length_append]; omega
          refine ⟨by omega, by omega, ?_⟩
          (conv => whnf); (try (refine ⟨(rfl : (_ : Heap) = _), ?_⟩; (conv => whnf)))
          refine ⟨_, by (rw [Nat.zero_add, Int.toNat_natCast, e3]; exact get_mid _ _ _ (by simp only [List.length_append, List.length_cons, List.length_nil]; omega)), rfl, ?_⟩
          (conv => whnf); (try (refine ⟨(rfl : (_ : Heap) = _), ?_⟩; (conv => whnf)))
          rw [rset e3 n2]
          have e4 : (A ++ X3) ++ y :: (x :: (X2 ++ Z)) = A ++ (X3 ++ y :: (x :: X2 ++ Z)) := by simp
          (try rw [w3])
          rw [e4]
          exact .inl ⟨rfl, X3.length, [.sl 1 [] 1 0 N false, I a, I m, I b, .fn 36 [] [.ref 0 [] 1 0 0], .junk, .junk, .junk, .junk, .junk, .junk, .junk, .junk, .junk, I (a + t : Nat), .junk, .junk, I (k - 1 : Nat), .junk, .junk, .junk, .junk, .junk, .junk, .junk, .junk, .junk, .junk, .junk, .junk, .junk, .junk, .junk, .junk, .junk, .junk, .junk, .junk, .junk, .junk, .junk, .junk, .junk, .junk, .junk, .junk, .junk, .junk, .junk, .junk, .junk, .junk, .junk, .junk, .junk, .junk, .junk, .junk, .junk, .junk, .junk, .junk, .junk, .junk, .junk, .junk, .junk, .junk, .junk, .junk, .junk, .junk, .junk, .junk, .junk, .junk, .junk, .junk, .junk, .junk, .junk, .junk, .junk, .junk, .junk, .junk, .junk, .junk, .junk, .junk, .junk, .junk, .junk, .junk, .junk, .junk, .junk, .junk, .junk, .junk, .junk, .junk, .junk, .junk, .junk, .junk, .junk, .junk, .junk, .junk, .junk, .junk, .junk, .junk, .junk, .junk, .junk, .junk, .junk, .junk, .junk, .junk, .junk, .junk, .junk, .junk, .junk, .junk, .junk, .junk, .junk, .junk, .junk, .junk, .junk, .junk, .junk, .junk, .junk, .junk, .junk, .junk, .junk, .junk, .junk, .junk, .junk, .junk, .junk, .junk, .junk, .junk, .junk, .junk, .junk, .junk, .junk, .junk, .junk, .junk, .junk, .junk, .junk, .junk, .junk, .junk, .junk, .junk, .junk, .junk, .junk, .junk, .junk, .junk, .junk, .junk, .junk, .junk, .junk, .junk, .junk, .junk, .junk, .junk, .junk, .junk, .junk, .junk, .junk, .junk, .junk, .junk, .junk, .junk, .junk, .junk, .junk, .junk, .junk, .junk, .junk, .junk, .junk, .junk, .junk, .junk, .junk, .junk, .junk, .junk, .junk, .junk, .junk, .junk, .junk, .junk, .junk, .junk, .junk, .junk], _, by omega, Weak.cov (by (conv => whnf); (repeat (refine ⟨rfl, ?_⟩; (conv => whnf))); exact trivial), k - 1, X3, x :: X2, by omega, rfl, by omega, by simp, rfl, rfl⟩
        · have hk : X1.length = t := by simp at hc; omega
          subst hk
          (conv => whnf); (try (refine ⟨(rfl : (_ : Heap) = _), ?_⟩; (conv => whnf)))
          refine .inr ⟨by simp, ?_⟩
          conv => whnf
          refine ⟨.inl rfl, _, .refl _, ?_, rfl⟩
          rw [List.take_left, List.drop_left, List.append_assoc]; rfl
end Go.Srt
