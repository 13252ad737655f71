/- The stable sort, walked: a range swapped with another one, and the rotation. -/
import Derived.Test.YtbndjpkncgfpiaaCalJ
import Derived.Test.YtbndjpkncgfpiaaSrtA
namespace Go.Srt
open Go.Ab Go.Proofs Go.Hy Go.Cal
set_option linter.unusedVariables false
set_option linter.unusedSimpArgs false
set_option maxRecDepth 100000
set_option maxHeartbeats 2000000

theorem set_mid (L : List Int) (x y : Int) (R : List Int) {n : Nat} (h : n = L.length) : (L ++ x :: R).set n y = L ++ y :: R := by
  subst h
  rw [List.set_append_right (h := Nat.le_refl _), Nat.sub_self]; rfl
theorem get_mid (L : List Int) (x : Int) (R : List Int) {n : Nat} (h : n = L.length) : ((L ++ x :: R).map encI)[n]? = some (encI x) := by
  subst h
  rw [List.getElem?_map, List.getElem?_append_right (Nat.le_refl _), Nat.sub_self]; rfl
theorem rset {d L R : List Int} {x y : Int} (e : d = L ++ x :: R) {n : Nat} (hn : n = L.length) : (d.map encI).set n [C.v (Value.int .i64 y)] = (L ++ y :: R).map encI := by
  subst e
  show List.set _ _ (encI y) = _
  rw [← List.map_set, set_mid _ _ _ _ hn]
theorem i64_int {n : Int} (h : -9223372036854775808 ≤ n) (h' : n ≤ 9223372036854775807) : IntKind.i64.wrap n = n := i64_ok h h'


abbrev ptV (cs : List Cal) (x : Int) : Int := ((cs[x.toNat]?).map (·.point)).getD 0
def cmpV (a b : Int) : Int := if a < b then -1 else if b < a then 1 else 0
/-- Numbers of calls. -/
def Rg (n : Nat) (d : List Int) : Prop := ∀ x ∈ d, 0 ≤ x ∧ x.toNat < n

theorem cmp_sound (cs : List Cal) (d : List Int) {x y : Int} (hx : 0 ≤ x) (hx' : x.toNat < cs.length) (hy : 0 ≤ y) (hy' : y.toNat < cs.length) :
    SoundAt Try.prog 36 [⟨1, 22, 1, [[lCal cs]], 0⟩, ⟨2, 3, 1, (d).map encI, 0⟩] [I x, I y, .ref 0 [] 1 0 0] (I (cmpV (ptV cs x) (ptV cs y))) [⟨1, 22, 1, [[lCal cs]], 0⟩, ⟨2, 3, 1, (d).map encI, 0⟩] := by
  have gx : (cs.map encCal)[x.toNat]? = some (encCal cs[x.toNat]) := by rw [List.getElem?_map, List.getElem?_eq_getElem hx']; rfl
  have gy : (cs.map encCal)[y.toNat]? = some (encCal cs[y.toNat]) := by rw [List.getElem?_map, List.getElem?_eq_getElem hy']; rfl
  have ex : ptV cs x = cs[x.toNat].point := by unfold ptV; rw [List.getElem?_eq_getElem hx']; rfl
  have ey : ptV cs y = cs[y.toNat].point := by unfold ptV; rw [List.getElem?_eq_getElem hy']; rfl
  refine SoundAt.of_wpA (fn := Try.f36) Try.func36 rfl ?_
  conv => whnf
  refine ⟨⟨false, [], []⟩, by kernel_rfl, ?_⟩; (conv => whnf)
  refine ⟨hx, _, gx, ?_⟩
  (conv => whnf); (try (refine ⟨(rfl : (_ : Heap) = _), ?_⟩; (conv => whnf)))
  refine ⟨hy, _, gy, ?_⟩
  (conv => whnf); (try (refine ⟨(rfl : (_ : Heap) = _), ?_⟩; (conv => whnf)))
  refine ⟨fun h1 => ?_, fun h1 => ?_⟩
  · (conv => whnf); (try (refine ⟨(rfl : (_ : Heap) = _), ?_⟩; (conv => whnf)))
    refine ⟨.inl rfl, _, .refl _, rfl, ?_⟩
    rw [ex, ey]; unfold cmpV; rw [if_pos (by simpa using h1)]; rfl
  · (conv => whnf); (try (refine ⟨(rfl : (_ : Heap) = _), ?_⟩; (conv => whnf)))
    refine ⟨fun h2 => ?_, fun h2 => ?_⟩
    · (conv => whnf); (try (refine ⟨(rfl : (_ : Heap) = _), ?_⟩; (conv => whnf)))
      refine ⟨.inl rfl, _, .refl _, rfl, ?_⟩
      rw [ex, ey]; unfold cmpV; rw [if_neg (by simpa using h1), if_pos (by simpa using h2)]; rfl
    · (conv => whnf); (try (refine ⟨(rfl : (_ : Heap) = _), ?_⟩; (conv => whnf)))
      refine ⟨.inl rfl, _, .refl _, rfl, ?_⟩
      rw [ex, ey]; unfold cmpV; rw [if_neg (by simpa using h1), if_neg (by simpa using h2)]; rfl

theorem swapRange_sound (cs : List Cal) (N : Nat) (A X Y X2 Z : List Int) {a b n : Nat} (ea : a = A.length) (eb : b = A.length + X.length + Y.length) (en : n = X.length) (en2 : n = X2.length)
    (hN : N = (A ++ (X ++ (Y ++ (X2 ++ Z)))).length) (hb : N ≤ 1000000000) : SoundAt Try.prog 131 [⟨1, 22, 1, [[lCal cs]], 0⟩, ⟨2, 3, 1, (A ++ (X ++ (Y ++ (X2 ++ Z)))).map encI, 0⟩] [.sl 1 [] 1 0 N false, I a, I b, I n, .fn 36 [] [.ref 0 [] 1 0 0]] (.tup []) [⟨1, 22, 1, [[lCal cs]], 0⟩, ⟨2, 3, 1, (A ++ (X2 ++ (Y ++ (X ++ Z)))).map encI, 0⟩] := by
  simp only [List.length_append] at hN
  refine SoundAt.of_wpA (fn := Try.f131) Try.func131 rfl ?_
  conv => whnf
  refine Loops.inv (fun m t1 H1 => ∃ (k : Nat) (P Q P' Q' : List Int), k + m = n ∧ X = P ++ Q ∧ X2 = P' ++ Q' ∧ P.length = k ∧ P'.length = k ∧ t1 = [.sl 1 [] 1 0 N false, I a, I b, I n, .fn 36 [] [.ref 0 [] 1 0 0], .junk, .junk, .junk, .junk, .junk, I k, .junk, .junk, .junk, .junk, .junk, .junk, .junk, .junk, .junk, .junk, .junk, .junk, .junk, .junk, .junk, .junk, .junk, .junk, .junk, .junk, .junk, .junk, .junk, .junk, .junk, .junk, .junk] ∧ H1 = [⟨1, 22, 1, [[lCal cs]], 0⟩, ⟨2, 3, 1, (A ++ (P' ++ Q ++ (Y ++ (P ++ Q' ++ Z)))).map encI, 0⟩]) n ?_ ?_
  · exact ⟨_, _, Weak.cov (by (conv => whnf); (repeat (refine ⟨rfl, ?_⟩; (conv => whnf))); exact trivial), 0, [], X, [], X2, by omega, rfl, rfl, rfl, rfl, rfl, rfl⟩
  · rintro m t1 H1 ⟨k, P, Q, P', Q', h1, h2, h3, h4, h5, rfl, rfl⟩
    subst h2 h3
    have hl : (A ++ (P' ++ Q ++ (Y ++ (P ++ Q' ++ Z)))).length = N := by simp only [List.length_append] at *; omega
    simp only [List.length_append] at eb en en2 hN
    have w1 : IntKind.i64.wrap ((b : Int) + (k : Int)) = (b + k : Nat) := by rw [i64_ok (by omega) (by omega)]; omega
    have w2 : IntKind.i64.wrap ((a : Int) + (k : Int)) = (a + k : Nat) := by rw [i64_ok (by omega) (by omega)]; omega
    conv => whnf
    refine ⟨fun hc => ?_, fun hc => ?_⟩
    · have hk : k < n := by simpa using hc
      obtain ⟨x, Q1, rfl⟩ : ∃ x Q1, Q = x :: Q1 := by cases Q with | nil => simp at en; omega | cons x Q1 => exact ⟨x, Q1, rfl⟩
      obtain ⟨x', Q2, rfl⟩ : ∃ x Q1, Q' = x :: Q1 := by cases Q' with | nil => simp at en2; omega | cons x Q1 => exact ⟨x, Q1, rfl⟩
      have e1 : A ++ (P' ++ x :: Q1 ++ (Y ++ (P ++ x' :: Q2 ++ Z))) = (A ++ P' ++ x :: Q1 ++ Y ++ P) ++ x' :: (Q2 ++ Z) := by simp
      have e2 : A ++ (P' ++ x :: Q1 ++ (Y ++ (P ++ x' :: Q2 ++ Z))) = (A ++ P') ++ x :: (Q1 ++ (Y ++ (P ++ x' :: Q2 ++ Z))) := by simp
      simp only [List.length_cons] at en en2 eb hN
      (conv => whnf); (try (refine ⟨(rfl : (_ : Heap) = _), ?_⟩; (conv => whnf)))
      refine ⟨⟨false, [], []⟩, by kernel_rfl, ?_⟩; (conv => whnf)
      rw [w1]
      refine ⟨by omega, by omega, ?_⟩
      (conv => whnf); (try (refine ⟨(rfl : (_ : Heap) = _), ?_⟩; (conv => whnf)))
      refine ⟨_, by (first | (rw [Nat.zero_add, Int.toNat_natCast, e1]; exact get_mid _ _ _ (by simp only [List.length_append, List.length_cons]; omega)) | (rw [w1]; (rw [Nat.zero_add, Int.toNat_natCast, e1]; exact get_mid _ _ _ (by simp only [List.length_append, List.length_cons]; omega))) | (rw [w2]; (rw [Nat.zero_add, Int.toNat_natCast, e1]; exact get_mid _ _ _ (by simp only [List.length_append, List.length_cons]; omega)))), Nat.le_of_ble_eq_true rfl, ?_⟩; (conv => whnf); (try (refine ⟨(rfl : (_ : Heap) = _), ?_⟩; (conv => whnf)))
      rw [w2]
      refine ⟨by omega, by omega, ?_⟩
      (conv => whnf); (try (refine ⟨(rfl : (_ : Heap) = _), ?_⟩; (conv => whnf)))
      refine ⟨_, by (first | (rw [Nat.zero_add, Int.toNat_natCast, e2]; exact get_mid _ _ _ (by simp only [List.length_append, List.length_cons]; omega)) | (rw [w1]; (rw [Nat.zero_add, Int.toNat_natCast, e2]; exact get_mid _ _ _ (by simp only [List.length_append, List.length_cons]; omega))) | (rw [w2]; (rw [Nat.zero_add, Int.toNat_natCast, e2]; exact get_mid _ _ _ (by simp only [List.length_append, List.length_cons]; omega)))), Nat.le_of_ble_eq_true rfl, ?_⟩; (conv => whnf); (try (refine ⟨(rfl : (_ : Heap) = _), ?_⟩; (conv => whnf)))
      refine ⟨by omega, by omega, ?_⟩
      (conv => whnf); (try (refine ⟨(rfl : (_ : Heap) = _), ?_⟩; (conv => whnf)))
      refine ⟨_, by (rw [Nat.zero_add, Int.toNat_natCast, e2]; exact get_mid _ _ _ (by simp only [List.length_append, List.length_cons]; omega)), rfl, ?_⟩
      (conv => whnf); (try (refine ⟨(rfl : (_ : Heap) = _), ?_⟩; (conv => whnf)))
      have n2 : 0 + ((a + k : Nat) : Int).toNat = (A ++ P').length := by simp only [List.length_append]; omega
      rw [rset e2 n2]
      have e3 : (A ++ P') ++ x' :: (Q1 ++ (Y ++ (P ++ x' :: Q2 ++ Z))) = (A ++ P' ++ x' :: Q1 ++ Y ++ P) ++ x' :: (Q2 ++ Z) := by simp
      have n3 : 0 + ((b + k : Nat) : Int).toNat = (A ++ P' ++ x' :: Q1 ++ Y ++ P).length := by simp only [List.length_append, List.length_cons]; omega
      refine ⟨by omega, by omega, ?_⟩
      (conv => whnf); (try (refine ⟨(rfl : (_ : Heap) = _), ?_⟩; (conv => whnf)))
      refine ⟨_, by (rw [Nat.zero_add, Int.toNat_natCast, e3]; exact get_mid _ _ _ (by simp only [List.length_append, List.length_cons]; omega)), rfl, ?_⟩
      (conv => whnf); (try (refine ⟨(rfl : (_ : Heap) = _), ?_⟩; (conv => whnf)))
      rw [rset e3 n3]
      have e4 : (A ++ P' ++ x' :: Q1 ++ Y ++ P) ++ x :: (Q2 ++ Z) = A ++ ((P' ++ [x']) ++ Q1 ++ (Y ++ ((P ++ [x]) ++ Q2 ++ Z))) := by simp
      rw [e4]
      rw [i64_nat (n := k) (by omega)]
      refine .inl ⟨rfl, m - 1, [.sl 1 [] 1 0 N false, I a, I b, I n, .fn 36 [] [.ref 0 [] 1 0 0], .junk, .junk, .junk, .junk, .junk, I (k + 1 : Nat), .junk, .junk, .junk, .junk, .junk, .junk, .junk, .junk, .junk, .junk, .junk, .junk, .junk, .junk, .junk, .junk, .junk, .junk, .junk, .junk, .junk, .junk, .junk, .junk, .junk, .junk, .junk], _, by omega, Weak.cov (by (conv => whnf); (repeat (refine ⟨rfl, ?_⟩; (conv => whnf))); exact trivial), k + 1, P ++ [x], Q1, P' ++ [x'], Q2, by omega, by simp, by simp, by simp; omega, by simp; omega, rfl, rfl⟩
    · have hk : k = n := by simp at hc; omega
      have q1 : Q = [] := List.eq_nil_of_length_eq_zero (by omega)
      have q2 : Q' = [] := List.eq_nil_of_length_eq_zero (by omega)
      subst q1 q2
      (conv => whnf); (try (refine ⟨(rfl : (_ : Heap) = _), ?_⟩; (conv => whnf)))
      refine .inr ⟨by simp, ?_⟩
      conv => whnf
      refine ⟨.inr rfl, _, .refl _, ?_, rfl⟩
      simp only [List.append_nil, List.append_assoc]


theorem rotate_sound (cs : List Cal) (N : Nat) (A X Y Z : List Int) {a m b : Nat} (ea : a = A.length) (em : m = A.length + X.length) (eb : b = A.length + X.length + Y.length) (hX : 0 < X.length) (hY : 0 < Y.length)
    (hN : N = (A ++ (X ++ (Y ++ Z))).length) (hb : N ≤ 1000000000) : SoundAt Try.prog 110 [⟨1, 22, 1, [[lCal cs]], 0⟩, ⟨2, 3, 1, (A ++ (X ++ (Y ++ Z))).map encI, 0⟩] [.sl 1 [] 1 0 N false, I a, I m, I b, .fn 36 [] [.ref 0 [] 1 0 0]] (.tup []) [⟨1, 22, 1, [[lCal cs]], 0⟩, ⟨2, 3, 1, (A ++ (Y ++ (X ++ Z))).map encI, 0⟩] := by
  simp only [List.length_append] at hN
  have w1 : IntKind.i64.wrap ((m : Int) - (a : Int)) = (X.length : Nat) := by rw [i64_ok (by omega) (by omega)]; omega
  have w2 : IntKind.i64.wrap ((b : Int) - (m : Int)) = (Y.length : Nat) := by rw [i64_ok (by omega) (by omega)]; omega
  refine SoundAt.of_wpA (fn := Try.f110) Try.func110 rfl ?_
  conv => whnf
  rw [w1, w2]
  refine Loops.inv (fun q t1 H1 => ∃ (A' X' Y' Z' : List Int), X'.length + Y'.length = q ∧ 0 < X'.length ∧ 0 < Y'.length ∧ m = A'.length + X'.length ∧ N = (A' ++ (X' ++ (Y' ++ Z'))).length ∧
    A ++ (Y ++ (X ++ Z)) = A' ++ (Y' ++ (X' ++ Z')) ∧ t1 = [.sl 1 [] 1 0 N false, I a, I m, I b, .fn 36 [] [.ref 0 [] 1 0 0], .junk, .junk, .junk, .junk, .junk, I X'.length, I Y'.length, .junk, .junk, .junk, .junk, .junk, .junk, .junk, .junk, .junk, .junk, .junk, .junk, .junk, .junk, .junk, .junk, .junk, .junk, .junk, .junk, .junk, .junk, .junk, .junk, .junk, .junk, .junk, .junk, .junk, .junk, .junk, .junk, .junk, .junk, .junk, .junk, .junk, .junk, .junk, .junk, .junk, .junk, .junk, .junk, .junk, .junk] ∧ H1 = [⟨1, 22, 1, [[lCal cs]], 0⟩, ⟨2, 3, 1, (A' ++ (X' ++ (Y' ++ Z'))).map encI, 0⟩]) (X.length + Y.length) ?_ ?_
  · exact ⟨_, _, Weak.cov (by (conv => whnf); (repeat (refine ⟨rfl, ?_⟩; (conv => whnf))); exact trivial), A, X, Y, Z, rfl, hX, hY, em, by simp only [List.length_append]; exact hN, rfl, rfl, rfl⟩
  · rintro q t1 H1 ⟨A', X', Y', Z', h1, h2, h3, h4, h5, h6, rfl, rfl⟩
    simp only [List.length_append] at h5
    have v1 : IntKind.i64.wrap ((m : Int) - (X'.length : Int)) = (A'.length : Nat) := by rw [i64_ok (by omega) (by omega)]; omega
    conv => whnf
    refine ⟨fun hc => ?_, fun hc => ?_⟩
    · have hc : X'.length ≠ Y'.length := by simp at hc; omega
      (conv => whnf); (try (refine ⟨(rfl : (_ : Heap) = _), ?_⟩; (conv => whnf)))
      refine ⟨fun hg => ?_, fun hg => ?_⟩
      · have hg : Y'.length < X'.length := by simpa using hg
        (conv => whnf); (try (refine ⟨(rfl : (_ : Heap) = _), ?_⟩; (conv => whnf)))
        rw [v1]
        obtain ⟨X1, X2, rfl, hx⟩ : ∃ X1 X2, X' = X1 ++ X2 ∧ X1.length = Y'.length := ⟨X'.take Y'.length, X'.drop Y'.length, (List.take_append_drop ..).symm, by rw [List.length_take]; omega⟩
        rw [List.append_assoc X1]
        refine ⟨_, _, swapRange_sound cs N A' X1 X2 Y' Z' rfl (by simp only [List.length_append] at *; omega) hx.symm rfl (by simp only [List.length_append] at *; omega) hb, ?_⟩
        (conv => whnf); (try (refine ⟨(rfl : (_ : Heap) = _), ?_⟩; (conv => whnf)))
        have v2 : IntKind.i64.wrap (((X1 ++ X2).length : Int) - (Y'.length : Int)) = (X2.length : Nat) := by
          simp only [List.length_append] at *; rw [i64_ok (by omega) (by omega)]; omega
        rw [v2]
        have e1 : A' ++ (Y' ++ (X2 ++ (X1 ++ Z'))) = (A' ++ Y') ++ (X2 ++ (X1 ++ Z')) := by simp
        rw [e1]
        simp only [List.length_append] at h1 h2 h3 h4 h5 hg hc
        refine .inl ⟨rfl, X2.length + X1.length, [.sl 1 [] 1 0 N false, I a, I m, I b, .fn 36 [] [.ref 0 [] 1 0 0], .junk, .junk, .junk, .junk, .junk, I X2.length, I X1.length, .junk, .junk, .junk, .junk, .junk, .junk, .junk, .junk, .junk, .junk, .junk, .junk, .junk, .junk, .junk, .junk, .junk, .junk, .junk, .junk, .junk, .junk, .junk, .junk, .junk, .junk, .junk, .junk, .junk, .junk, .junk, .junk, .junk, .junk, .junk, .junk, .junk, .junk, .junk, .junk, .junk, .junk, .junk, .junk, .junk, .junk], _, by omega, ?_, A' ++ Y', X2, X1, Z', rfl, by omega, by omega, by simp only [List.length_append]; omega, by simp only [List.length_append]; omega, by rw [h6]; simp, rfl, rfl⟩
        rw [hx]
        exact Weak.cov (by (conv => whnf); (repeat (refine ⟨rfl, ?_⟩; (conv => whnf))); exact trivial)
      · have hg : X'.length < Y'.length := by simp at hg; omega
        (conv => whnf); (try (refine ⟨(rfl : (_ : Heap) = _), ?_⟩; (conv => whnf)))
        obtain ⟨Y1, Y2, rfl, hx⟩ : ∃ Y1 Y2, Y' = Y1 ++ Y2 ∧ Y2.length = X'.length := ⟨Y'.take (Y'.length - X'.length), Y'.drop (Y'.length - X'.length), (List.take_append_drop ..).symm, by rw [List.length_drop]; omega⟩
        have v3 : IntKind.i64.wrap (IntKind.i64.wrap ((m : Int) + ((Y1 ++ Y2).length : Int)) - (X'.length : Int)) = (A'.length + X'.length + Y1.length : Nat) := by
          simp only [List.length_append] at *; rw [i64_ok (n := (m : Int) + _) (by omega) (by omega), i64_ok (by omega) (by omega)]; omega
        rw [v1, v3, List.append_assoc Y1]
        refine ⟨_, _, swapRange_sound cs N A' X' Y1 Y2 Z' rfl rfl rfl hx.symm (by simp only [List.length_append] at *; omega) hb, ?_⟩
        (conv => whnf); (try (refine ⟨(rfl : (_ : Heap) = _), ?_⟩; (conv => whnf)))
        have v2 : IntKind.i64.wrap (((Y1 ++ Y2).length : Int) - (X'.length : Int)) = (Y1.length : Nat) := by
          simp only [List.length_append] at *; rw [i64_ok (by omega) (by omega)]; omega
        rw [v2]
        simp only [List.length_append] at h1 h2 h3 h4 h5 hg hc
        refine .inl ⟨rfl, Y2.length + Y1.length, [.sl 1 [] 1 0 N false, I a, I m, I b, .fn 36 [] [.ref 0 [] 1 0 0], .junk, .junk, .junk, .junk, .junk, I Y2.length, I Y1.length, .junk, .junk, .junk, .junk, .junk, .junk, .junk, .junk, .junk, .junk, .junk, .junk, .junk, .junk, .junk, .junk, .junk, .junk, .junk, .junk, .junk, .junk, .junk, .junk, .junk, .junk, .junk, .junk, .junk, .junk, .junk, .junk, .junk, .junk, .junk, .junk, .junk, .junk, .junk, .junk, .junk, .junk, .junk, .junk, .junk, .junk], _, by omega, ?_, A', Y2, Y1, X' ++ Z', rfl, by omega, by omega, by omega, by simp only [List.length_append]; omega, by rw [h6]; simp, rfl, rfl⟩
        rw [hx]
        exact Weak.cov (by (conv => whnf); (repeat (refine ⟨rfl, ?_⟩; (conv => whnf))); exact trivial)
    · have hc : X'.length = Y'.length := by simp at hc; omega
      (conv => whnf); (try (refine ⟨(rfl : (_ : Heap) = _), ?_⟩; (conv => whnf)))
      refine .inr ⟨by simp, ?_⟩
      conv => whnf
      rw [v1]
      refine ⟨_, _, swapRange_sound cs N A' X' [] Y' Z' rfl (by simp; omega) rfl hc (by simp only [List.length_append, List.length_nil] at *; omega) hb, ?_⟩
      (conv => whnf); (try (refine ⟨(rfl : (_ : Heap) = _), ?_⟩; (conv => whnf)))
      refine ⟨.inr rfl, _, .refl _, ?_, rfl⟩
      rw [h6]; rfl
end Go.Srt
