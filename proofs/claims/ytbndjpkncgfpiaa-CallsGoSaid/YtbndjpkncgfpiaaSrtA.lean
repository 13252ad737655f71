/- The stable sort, plain: what its parts are to bring about. -/
import Derived.Test.YtbndjpkncgfpiaaApi
namespace Go.Srt
set_option linter.unusedVariables false
set_option linter.unusedSectionVars false

abbrev dat (d : List Int) (k : Nat) : Int := d.getD k 0

section
variable (pt : Int → Int)
/-- One is not behind another one: by what they are sorted by, and by themselves. -/
def Le (x y : Int) : Prop := pt x < pt y ∨ pt x = pt y ∧ x ≤ y
def Sd (l : List Int) : Prop := l.Pairwise (Le pt)
/-- What stands ahead and is as great is no greater itself. -/
def Stb (X Y : List Int) : Prop := ∀ x ∈ X, ∀ y ∈ Y, pt x = pt y → x ≤ y
end

variable {pt : Int → Int}

theorem Le.trans {x y z : Int} (h : Le pt x y) (h' : Le pt y z) : Le pt x z := by unfold Le at *; omega
theorem Le.asymm {x y : Int} (h : Le pt x y) (h' : Le pt y x) : x = y := by unfold Le at *; omega
theorem Le.refl (x : Int) : Le pt x x := by unfold Le; omega
theorem Le.le {x y : Int} (h : Le pt x y) : pt x ≤ pt y := by unfold Le at h; omega

theorem Stb.perm {X X' Y Y' : List Int} (h : Stb pt X Y) (hx : X'.Perm X) (hy : Y'.Perm Y) : Stb pt X' Y' := fun x h1 y h2 => h x (hx.mem_iff.1 h1) y (hy.mem_iff.1 h2)
theorem Stb.sub {X X' Y Y' : List Int} (h : Stb pt X Y) (hx : ∀ x ∈ X', x ∈ X) (hy : ∀ x ∈ Y', x ∈ Y) : Stb pt X' Y' := fun x h1 y h2 => h x (hx x h1) y (hy y h2)

theorem Sd.ext : ∀ {X Y : List Int}, Sd pt X → Sd pt Y → X.Perm Y → X = Y
  | [], Y, _, _, h => (List.nil_perm.1 h).symm ▸ rfl
  | x :: X, [], _, _, h => by have := h.length_eq; simp at this
  | x :: X, y :: Y, hx, hy, h => by
    have e : x = y := by
      have h1 : x ∈ y :: Y := h.mem_iff.1 List.mem_cons_self
      have h2 : y ∈ x :: X := h.mem_iff.2 List.mem_cons_self
      rcases List.mem_cons.1 h1 with e | h1
      · exact e
      · rcases List.mem_cons.1 h2 with e | h2
        · exact e.symm
        · exact ((List.pairwise_cons.1 hx).1 y h2).asymm ((List.pairwise_cons.1 hy).1 x h1)
    subst e
    rw [Sd.ext (List.pairwise_cons.1 hx).2 (List.pairwise_cons.1 hy).2 (List.perm_cons x |>.1 h)]

/-- Every row can be sorted. -/
theorem exists_sd (X : List Int) : ∃ W, Sd pt W ∧ W.Perm X := by
  induction X with
  | nil => exact ⟨[], .nil, .refl _⟩
  | cons x X ih =>
    obtain ⟨W, hs, hp⟩ := ih
    suffices h : ∀ W : List Int, Sd pt W → ∃ W', Sd pt W' ∧ W'.Perm (x :: W) by
      obtain ⟨W', h1, h2⟩ := h W hs
      exact ⟨W', h1, h2.trans (hp.cons x)⟩
    intro W
    induction W with
    | nil => intro _; exact ⟨[x], by unfold Sd; simp, .refl _⟩
    | cons w W ih =>
      intro hw
      obtain ⟨h1, h2⟩ := List.pairwise_cons.1 hw
      by_cases hx : Le pt x w
      · refine ⟨x :: w :: W, List.pairwise_cons.2 ⟨fun y hy => ?_, hw⟩, .refl _⟩
        rcases List.mem_cons.1 hy with rfl | hy
        · exact hx
        · exact hx.trans (h1 y hy)
      · obtain ⟨W', h3, h4⟩ := ih h2
        refine ⟨w :: W', List.pairwise_cons.2 ⟨fun y hy => ?_, h3⟩, (h4.cons w).trans (.swap ..)⟩
        rcases List.mem_cons.1 (h4.mem_iff.1 hy) with rfl | hy
        · unfold Le at *; omega
        · exact h1 y hy

/-- Where what holds ends. -/
theorem thr (q : Nat → Prop) [DecidablePred q] (s : Nat) : ∀ (n : Nat), (∀ c c', s ≤ c → c < c' → c' < s + n → q c' → q c) → ∃ t, s ≤ t ∧ t ≤ s + n ∧ (∀ c, s ≤ c → c < t → q c) ∧ (∀ c, t ≤ c → c < s + n → ¬ q c)
  | 0, _ => ⟨s, Nat.le_refl _, Nat.le_refl _, fun c h1 h2 => by omega, fun c h1 h2 => by omega⟩
  | n + 1, hm => by
    obtain ⟨t, h1, h2, h3, h4⟩ := thr q s n fun c c' a1 a2 a3 => hm c c' a1 a2 (by omega)
    by_cases hq : q (s + n)
    · refine ⟨s + (n + 1), by omega, Nat.le_refl _, fun c a1 a2 => ?_, fun c a1 a2 => by omega⟩
      rcases Nat.lt_or_ge c (s + n) with a3 | a3
      · exact hm c (s + n) a1 a3 (by omega) hq
      · have e : c = s + n := by omega
        exact e ▸ hq
    · refine ⟨t, h1, by omega, h3, fun c a1 a2 => ?_⟩
      rcases Nat.lt_or_ge c (s + n) with a3 | a3
      · exact h4 c a1 a3
      · have e : c = s + n := by omega
        exact e ▸ hq

theorem dat_app {A B : List Int} {k : Nat} (h : A.length ≤ k) : dat (A ++ B) k = dat B (k - A.length) := by
  unfold dat
  rw [List.getD_eq_getElem?_getD, List.getD_eq_getElem?_getD, List.getElem?_append_right h]
theorem dat_lt {A B : List Int} {k : Nat} (h : k < A.length) : dat (A ++ B) k = dat A k := by
  unfold dat
  rw [List.getD_eq_getElem?_getD, List.getD_eq_getElem?_getD, List.getElem?_append_left h]
theorem dat_mem {A : List Int} {k : Nat} (h : k < A.length) : dat A k ∈ A := by
  unfold dat
  rw [List.getD_eq_getElem?_getD, List.getElem?_eq_getElem h]
  exact List.getElem_mem h
theorem dat_get {A : List Int} {k : Nat} (h : k < A.length) : dat A k = A[k] := by
  unfold dat
  rw [List.getD_eq_getElem?_getD, List.getElem?_eq_getElem h]; rfl
theorem mem_dat {A : List Int} {x : Int} (h : x ∈ A) : ∃ k, k < A.length ∧ dat A k = x := by
  obtain ⟨k, hk, e⟩ := List.mem_iff_getElem.1 h
  exact ⟨k, hk, by rw [dat_get hk, e]⟩
theorem Sd.dat {A : List Int} (h : Sd pt A) {i j : Nat} (hij : i ≤ j) (hj : j < A.length) : Le pt (dat A i) (dat A j) := by
  rcases Nat.lt_or_ge i j with h1 | h1
  · rw [dat_get (by omega), dat_get hj]
    exact List.pairwise_iff_getElem.1 h i j (by omega) hj h1
  · have e : i = j := by omega
    subst e; exact .refl _
theorem mem_take_dat {A : List Int} {n : Nat} {x : Int} (h : x ∈ A.take n) : ∃ k, k < n ∧ k < A.length ∧ Srt.dat A k = x := by
  obtain ⟨k, hk, e⟩ := List.mem_iff_getElem.1 h
  rw [List.length_take] at hk
  exact ⟨k, by omega, by omega, by rw [dat_get (by omega), ← e, List.getElem_take]⟩
theorem mem_drop_dat {A : List Int} {n : Nat} {x : Int} (h : x ∈ A.drop n) : ∃ k, n ≤ k ∧ k < A.length ∧ Srt.dat A k = x := by
  obtain ⟨k, hk, e⟩ := List.mem_iff_getElem.1 h
  rw [List.length_drop] at hk
  exact ⟨n + k, by omega, by omega, by rw [dat_get (by omega), ← e, List.getElem_drop]⟩
theorem mid_dat {A X Y Z : List Int} {c : Nat} (h : A.length ≤ c) (h' : c < A.length + X.length) : dat (A ++ (X ++ (Y ++ Z))) c = dat X (c - A.length) := by
  rw [dat_app h, dat_lt (by omega)]
theorem mid_dat' {A X Y Z : List Int} {c : Nat} (h : A.length + X.length ≤ c) (h' : c < A.length + X.length + Y.length) : dat (A ++ (X ++ (Y ++ Z))) c = dat Y (c - A.length - X.length) := by
  rw [dat_app (by omega), dat_app (by omega), dat_lt (by omega)]

/-- **Where two sorted rows are parted in the middle.** -/
theorem sym_key {A X Y Z : List Int} (sx : Sd pt X) (sy : Sd pt Y) (st : Stb pt X Y) (hX : 0 < X.length) (hY : 0 < Y.length) {a m b mid lo hi : Nat} (ea : a = A.length) (em : m = a + X.length) (eb : b = m + Y.length) (emid : mid = (a + b) / 2)
    (hlo : lo = if mid < m then mid + m - b else a) (hhi : hi = if mid < m then mid else m) :
    ∃ t, lo ≤ t ∧ t ≤ hi ∧ (∀ c, lo ≤ c → c < t → ¬ pt (dat (A ++ (X ++ (Y ++ Z))) (mid + m - 1 - c)) < pt (dat (A ++ (X ++ (Y ++ Z))) c)) ∧
      (∀ c, t ≤ c → c < hi → pt (dat (A ++ (X ++ (Y ++ Z))) (mid + m - 1 - c)) < pt (dat (A ++ (X ++ (Y ++ Z))) c)) ∧
      (∀ u ∈ X.take (t - a), ∀ v ∈ Y.drop (mid - t), Le pt u v) ∧ (∀ u ∈ Y.take (mid - t), ∀ v ∈ X.drop (t - a), Le pt u v) := by
  have b1 : a ≤ lo := by rw [hlo]; split <;> omega
  have b2 : hi ≤ m := by rw [hhi]; split <;> omega
  have b3 : hi ≤ mid := by rw [hhi]; split <;> omega
  have b4 : mid + m ≤ lo + b := by rw [hlo]; split <;> omega
  have b5 : lo ≤ hi := by rw [hlo, hhi]; split <;> omega
  have gx : ∀ c, lo ≤ c → c < hi → dat (A ++ (X ++ (Y ++ Z))) c = dat X (c - a) := fun c h1 h2 => by rw [ea]; exact mid_dat (by omega) (by omega)
  have gy : ∀ c, lo ≤ c → c < hi → dat (A ++ (X ++ (Y ++ Z))) (mid + m - 1 - c) = dat Y (mid - 1 - c) := fun c h1 h2 => by
    rw [mid_dat' (by omega) (by omega)]; congr 1; omega
  obtain ⟨t, h1, h2, h3, h4⟩ := thr (fun c => ¬ pt (dat Y (mid - 1 - c)) < pt (dat X (c - a))) lo (hi - lo) fun c c' a1 a2 a3 a4 => by
    have := (sx.dat (i := c - a) (j := c' - a) (by omega) (by omega)).le
    have := (sy.dat (i := mid - 1 - c') (j := mid - 1 - c) (by omega) (by omega)).le
    omega
  refine ⟨t, h1, by omega, fun c a1 a2 => ?_, fun c a1 a2 => ?_, fun u hu v hv => ?_, fun u hu v hv => ?_⟩
  · rw [gx c (by omega) (by omega), gy c (by omega) (by omega)]; exact h3 c a1 a2
  · rw [gx c (by omega) (by omega), gy c (by omega) (by omega)]; exact Decidable.not_not.1 (h4 c a1 (by omega))
  · obtain ⟨i, i1, i2, rfl⟩ := mem_take_dat hu
    obtain ⟨j, j1, j2, rfl⟩ := mem_drop_dat hv
    -- t - 1 is in the range
    have ht : lo < t := by
      rcases Nat.lt_or_ge lo t with h | h
      · exact h
      · exfalso
        have : t = lo := by omega
        subst this
        rw [hlo] at i1 j1
        split at i1
        · rename_i hc; rw [if_pos hc] at j1; omega
        · omega
    have q := h3 (t - 1) (by omega) (by omega)
    have l1 := sx.dat (i := i) (j := t - 1 - a) (by omega) (by omega)
    have l2 := sy.dat (i := mid - 1 - (t - 1)) (j := j) (by omega) j2
    have s := st (dat X (t - 1 - a)) (dat_mem (by omega)) (dat Y (mid - 1 - (t - 1))) (dat_mem (by omega))
    have : Le pt (dat X (t - 1 - a)) (dat Y (mid - 1 - (t - 1))) := by unfold Le; omega
    exact (l1.trans this).trans l2
  · obtain ⟨i, i1, i2, rfl⟩ := mem_take_dat hu
    obtain ⟨j, j1, j2, rfl⟩ := mem_drop_dat hv
    have ht : t < hi := by
      rcases Nat.lt_or_ge t hi with h | h
      · exact h
      · exfalso
        have : t = hi := by omega
        subst this
        rw [hhi] at i1 j1
        split at i1
        · omega
        · rename_i hc; rw [if_neg hc] at j1; omega
    have q := Decidable.not_not.1 (h4 t (Nat.le_refl _) (by omega))
    have l1 := sy.dat (i := i) (j := mid - 1 - t) (by omega) (by omega)
    have l2 := sx.dat (i := t - a) (j := j) (by omega) j2
    have : Le pt (dat Y (mid - 1 - t)) (dat X (t - a)) := by unfold Le; omega
    exact (l1.trans this).trans l2

/-- What is merged on both sides of the middle is merged. -/
theorem sym_join {X Y X1 X2 Y1 Y2 W1 W2 : List Int} (ex : X = X1 ++ X2) (ey : Y = Y1 ++ Y2) (sx : Sd pt X) (sy : Sd pt Y) (h1 : ∀ u ∈ X1, ∀ v ∈ Y2, Le pt u v) (h2 : ∀ u ∈ Y1, ∀ v ∈ X2, Le pt u v)
    (s1 : Sd pt W1) (s2 : Sd pt W2) (p1 : W1.Perm (X1 ++ Y1)) (p2 : W2.Perm (X2 ++ Y2)) : Sd pt (W1 ++ W2) ∧ (W1 ++ W2).Perm (X ++ Y) := by
  subst ex ey
  refine ⟨List.pairwise_append.2 ⟨s1, s2, fun u hu v hv => ?_⟩, ?_⟩
  · have sx' := (List.pairwise_append.1 sx).2.2
    have sy' := (List.pairwise_append.1 sy).2.2
    rcases List.mem_append.1 (p1.mem_iff.1 hu) with hu | hu <;> rcases List.mem_append.1 (p2.mem_iff.1 hv) with hv | hv
    · exact sx' u hu v hv
    · exact h1 u hu v hv
    · exact h2 u hu v hv
    · exact sy' u hu v hv
  · refine (p1.append p2).trans ?_
    rw [List.append_assoc, List.append_assoc]
    refine List.Perm.append_left X1 ?_
    rw [← List.append_assoc, ← List.append_assoc]
    exact List.Perm.append_right Y2 List.perm_append_comm

/-- One into a sorted row behind it. -/
theorem one_ahead {x : Int} {Y : List Int} (sy : Sd pt Y) (st : Stb pt [x] Y) (t : Nat) (h1 : ∀ k, k < t → k < Y.length → pt (dat Y k) < pt x) (h2 : ∀ k, t ≤ k → k < Y.length → ¬ pt (dat Y k) < pt x) :
    Sd pt (Y.take t ++ x :: Y.drop t) ∧ (Y.take t ++ x :: Y.drop t).Perm ([x] ++ Y) := by
  constructor
  · refine List.pairwise_append.2 ⟨List.Pairwise.sublist (List.take_sublist t Y) sy, List.pairwise_cons.2 ⟨fun v hv => ?_, List.Pairwise.sublist (List.drop_sublist t Y) sy⟩, fun u hu v hv => ?_⟩
    · obtain ⟨k, k1, k2, rfl⟩ := mem_drop_dat hv
      have := h2 k k1 k2
      have := st x (by simp) _ (dat_mem k2)
      unfold Le; omega
    · obtain ⟨i, i1, i2, rfl⟩ := mem_take_dat hu
      have q1 := h1 i i1 i2
      rcases List.mem_cons.1 hv with rfl | hv
      · unfold Le; omega
      · obtain ⟨k, k1, k2, rfl⟩ := mem_drop_dat hv
        exact sy.dat (by omega) k2
  · refine List.perm_middle.trans ?_
    rw [List.take_append_drop]; exact List.Perm.refl _
/-- One into a sorted row ahead of it. -/
theorem one_behind {y : Int} {X : List Int} (sx : Sd pt X) (st : Stb pt X [y]) (t : Nat) (h1 : ∀ k, k < t → k < X.length → ¬ pt y < pt (dat X k)) (h2 : ∀ k, t ≤ k → k < X.length → pt y < pt (dat X k)) :
    Sd pt (X.take t ++ y :: X.drop t) ∧ (X.take t ++ y :: X.drop t).Perm (X ++ [y]) := by
  constructor
  · refine List.pairwise_append.2 ⟨List.Pairwise.sublist (List.take_sublist t X) sx, List.pairwise_cons.2 ⟨fun v hv => ?_, List.Pairwise.sublist (List.drop_sublist t X) sx⟩, fun u hu v hv => ?_⟩
    · obtain ⟨k, k1, k2, rfl⟩ := mem_drop_dat hv
      have := h2 k k1 k2
      unfold Le; omega
    · obtain ⟨i, i1, i2, rfl⟩ := mem_take_dat hu
      have q1 := h1 i i1 i2
      have := st _ (dat_mem i2) y (by simp)
      rcases List.mem_cons.1 hv with rfl | hv
      · unfold Le; omega
      · obtain ⟨k, k1, k2, rfl⟩ := mem_drop_dat hv
        exact sx.dat (by omega) k2
  · refine List.perm_middle.trans ?_
    rw [List.take_append_drop]
    exact (List.perm_append_comm (l₁ := [y]) (l₂ := X))

/-! ### Rows of sorted blocks -/

/-- A row is another one, block by block of so many sorted. -/
inductive Blocks (pt : Int → Int) (s : Nat) : List Int → List Int → Prop
  | last {x0 x : List Int} (h : x.length ≤ s) (hp : x.Perm x0) (hs : Sd pt x) : Blocks pt s x0 x
  | cons {x0 x r0 r : List Int} (h : x.length = s) (hp : x.Perm x0) (hs : Sd pt x) (hr : Blocks pt s r0 r) : Blocks pt s (x0 ++ r0) (x ++ r)
/-- All of them full. -/
inductive Full (pt : Int → Int) (s : Nat) : List Int → List Int → Prop
  | nil : Full pt s [] []
  | snoc {x0 x r0 r : List Int} (hr : Full pt s r0 r) (h : x.length = s) (hp : x.Perm x0) (hs : Sd pt x) : Full pt s (r0 ++ x0) (r ++ x)

theorem Blocks.perm {s : Nat} {r0 r : List Int} (h : Blocks pt s r0 r) : r.Perm r0 := by
  induction h with
  | last h hp hs => exact hp
  | cons h hp hs hr ih => exact hp.append ih
theorem Full.perm {s : Nat} {r0 r : List Int} (h : Full pt s r0 r) : r.Perm r0 := by
  induction h with
  | nil => exact .refl _
  | snoc hr h hp hs ih => exact ih.append hp
theorem Full.blocks {s : Nat} {r0 r : List Int} (h : Full pt s r0 r) : ∀ {q0 q : List Int}, Blocks pt s q0 q → Blocks pt s (r0 ++ q0) (r ++ q) := by
  induction h with
  | nil => intro q0 q hq; exact hq
  | snoc hr h hp hs ih => intro q0 q hq; rw [List.append_assoc, List.append_assoc]; exact ih (.cons h hp hs hq)
/-- The first block of a row. -/
theorem Blocks.first {s : Nat} (hs : 0 < s) {r0 r : List Int} (h : Blocks pt s r0 r) (hl : s ≤ r.length) : ∃ x0 x q0 q, r0 = x0 ++ q0 ∧ r = x ++ q ∧ x.length = s ∧ x.Perm x0 ∧ Sd pt x ∧ Blocks pt s q0 q := by
  cases h with
  | last h hp hs => exact ⟨r0, r, [], [], by simp, by simp, by omega, hp, hs, .last (by simp) (.refl _) .nil⟩
  | cons h hp hs hr => exact ⟨_, _, _, _, rfl, rfl, h, hp, hs, hr⟩
/-- The only block of a row. -/
theorem Blocks.only {s : Nat} {r0 r : List Int} (h : Blocks pt s r0 r) (hl : r.length ≤ s) : Sd pt r := by
  cases h with
  | last h hp hs => exact hs
  | cons h hp hs hr =>
    rename_i x0 x r0 r
    rw [List.length_append] at hl
    have : r = [] := List.eq_nil_of_length_eq_zero (by omega)
    subst this
    rw [List.append_nil]; exact hs
end Go.Srt
