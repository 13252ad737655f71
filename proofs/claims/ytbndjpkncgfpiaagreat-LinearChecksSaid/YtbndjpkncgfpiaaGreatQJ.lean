/- Joined: SrtA SrtB SrtC SrtD. -/
import Derived.Test.YtbndjpkncgfpiaaGreatQC
import Derived.Test.YtbndjpkncgfpiaaGreatQI
/- The stable sort, plain: what its parts are to bring about. -/
namespace Go.Srt
set_option linter.unusedVariables false
set_option linter.unusedSectionVars false

abbrev dat (d : List Int) (k : Nat) : Int := d.getD k 0

section
variable (pt : Int → Int)
/-- One is not behind another one: by what they are sorted by, and by themselves. -/
def Le (x y : Int) : Prop := pt x < pt y ∨ pt x = pt y ∧ x ≤ y
def Sd (l : List Int) : Prop := l.Pairwise (Le pt)
/-- What stands ahead and is as great is no greater itself. -/
def Stb (X Y : List Int) : Prop := ∀ x ∈ X, ∀ y ∈ Y, pt x = pt y → x ≤ y
end

variable {pt : Int → Int}

theorem Le.trans {x y z : Int} (h : Le pt x y) (h' : Le pt y z) : Le pt x z := by unfold Le at *; omega
theorem Le.asymm {x y : Int} (h : Le pt x y) (h' : Le pt y x) : x = y := by unfold Le at *; omega
theorem Le.refl (x : Int) : Le pt x x := by unfold Le; omega
theorem Le.le {x y : Int} (h : Le pt x y) : pt x ≤ pt y := by unfold Le at h; omega

theorem Stb.perm {X X' Y Y' : List Int} (h : Stb pt X Y) (hx : X'.Perm X) (hy : Y'.Perm Y) : Stb pt X' Y' := fun x h1 y h2 => h x (hx.mem_iff.1 h1) y (hy.mem_iff.1 h2)
theorem Stb.sub {X X' Y Y' : List Int} (h : Stb pt X Y) (hx : ∀ x ∈ X', x ∈ X) (hy : ∀ x ∈ Y', x ∈ Y) : Stb pt X' Y' := fun x h1 y h2 => h x (hx x h1) y (hy y h2)

theorem Sd.ext : ∀ {X Y : List Int}, Sd pt X → Sd pt Y → X.Perm Y → X = Y
  | [], Y, _, _, h => (List.nil_perm.1 h).symm ▸ rfl
  | x :: X, [], _, _, h => by have := h.length_eq; simp at this
  | x :: X, y :: Y, hx, hy, h => by
    have e : x = y := by
      have h1 : x ∈ y :: Y := h.mem_iff.1 List.mem_cons_self
      have h2 : y ∈ x :: X := h.mem_iff.2 List.mem_cons_self
      rcases List.mem_cons.1 h1 with e | h1
      · exact e
      · rcases List.mem_cons.1 h2 with e | h2
        · exact e.symm
        · exact ((List.pairwise_cons.1 hx).1 y h2).asymm ((List.pairwise_cons.1 hy).1 x h1)
    subst e
    rw [Sd.ext (List.pairwise_cons.1 hx).2 (List.pairwise_cons.1 hy).2 (List.perm_cons x |>.1 h)]

/-- Every row can be sorted. -/
theorem exists_sd (X : List Int) : ∃ W, Sd pt W ∧ W.Perm X := by
  induction X with
  | nil => exact ⟨[], .nil, .refl _⟩
  | cons x X ih =>
    obtain ⟨W, hs, hp⟩ := ih
    suffices h : ∀ W : List Int, Sd pt W → ∃ W', Sd pt W' ∧ W'.Perm (x :: W) by
      obtain ⟨W', h1, h2⟩ := h W hs
      exact ⟨W', h1, h2.trans (hp.cons x)⟩
    intro W
    induction W with
    | nil => intro _; exact ⟨[x], by unfold Sd; simp, .refl _⟩
    | cons w W ih =>
      intro hw
      obtain ⟨h1, h2⟩ := List.pairwise_cons.1 hw
      by_cases hx : Le pt x w
      · refine ⟨x :: w :: W, List.pairwise_cons.2 ⟨fun y hy => ?_, hw⟩, .refl _⟩
        rcases List.mem_cons.1 hy with rfl | hy
        · exact hx
        · exact hx.trans (h1 y hy)
      · obtain ⟨W', h3, h4⟩ := ih h2
        refine ⟨w :: W', List.pairwise_cons.2 ⟨fun y hy => ?_, h3⟩, (h4.cons w).trans (.swap ..)⟩
        rcases List.mem_cons.1 (h4.mem_iff.1 hy) with rfl | hy
        · unfold Le at *; omega
        · exact h1 y hy

/-- Where what holds ends. -/
theorem thr (q : Nat → Prop) [DecidablePred q] (s : Nat) : ∀ (n : Nat), (∀ c c', s ≤ c → c < c' → c' < s + n → q c' → q c) → ∃ t, s ≤ t ∧ t ≤ s + n ∧ (∀ c, s ≤ c → c < t → q c) ∧ (∀ c, t ≤ c → c < s + n → ¬ q c)
  | 0, _ => ⟨s, Nat.le_refl _, Nat.le_refl _, fun c h1 h2 => by omega, fun c h1 h2 => by omega⟩
  | n + 1, hm => by
    obtain ⟨t, h1, h2, h3, h4⟩ := thr q s n fun c c' a1 a2 a3 => hm c c' a1 a2 (by omega)
    by_cases hq : q (s + n)
    · refine ⟨s + (n + 1), by omega, Nat.le_refl _, fun c a1 a2 => ?_, fun c a1 a2 => by omega⟩
      rcases Nat.lt_or_ge c (s + n) with a3 | a3
      · exact hm c (s + n) a1 a3 (by omega) hq
      · have e : c = s + n := by omega
        exact e ▸ hq
    · refine ⟨t, h1, by omega, h3, fun c a1 a2 => ?_⟩
      rcases Nat.lt_or_ge c (s + n) with a3 | a3
      · exact h4 c a1 a3
      · have e : c = s + n := by omega
        exact e ▸ hq

theorem dat_app {A B : List Int} {k : Nat} (h : A.length ≤ k) : dat (A ++ B) k = dat B (k - A.length) := by
  unfold dat
  rw [List.getD_eq_getElem?_getD, List.getD_eq_getElem?_getD, List.getElem?_append_right h]
theorem dat_lt {A B : List Int} {k : Nat} (h : k < A.length) : dat (A ++ B) k = dat A k := by
  unfold dat
  rw [List.getD_eq_getElem?_getD, List.getD_eq_getElem?_getD, List.getElem?_append_left h]
theorem dat_mem {A : List Int} {k : Nat} (h : k < A.length) : dat A k ∈ A := by
  unfold dat
  rw [List.getD_eq_getElem?_getD, List.getElem?_eq_getElem h]
  exact List.getElem_mem h
theorem dat_get {A : List Int} {k : Nat} (h : k < A.length) : dat A k = A[k] := by
  unfold dat
  rw [List.getD_eq_getElem?_getD, List.getElem?_eq_getElem h]; rfl
theorem mem_dat {A : List Int} {x : Int} (h : x ∈ A) : ∃ k, k < A.length ∧ dat A k = x := by
  obtain ⟨k, hk, e⟩ := List.mem_iff_getElem.1 h
  exact ⟨k, hk, by rw [dat_get hk, e]⟩
theorem Sd.dat {A : List Int} (h : Sd pt A) {i j : Nat} (hij : i ≤ j) (hj : j < A.length) : Le pt (dat A i) (dat A j) := by
  rcases Nat.lt_or_ge i j with h1 | h1
  · rw [dat_get (by omega), dat_get hj]
    exact List.pairwise_iff_getElem.1 h i j (by omega) hj h1
  · have e : i = j := by omega
    subst e; exact .refl _
theorem mem_take_dat {A : List Int} {n : Nat} {x : Int} (h : x ∈ A.take n) : ∃ k, k < n ∧ k < A.length ∧ Srt.dat A k = x := by
  obtain ⟨k, hk, e⟩ := List.mem_iff_getElem.1 h
  rw [List.length_take] at hk
  exact ⟨k, by omega, by omega, by rw [dat_get (by omega), ← e, List.getElem_take]⟩
theorem mem_drop_dat {A : List Int} {n : Nat} {x : Int} (h : x ∈ A.drop n) : ∃ k, n ≤ k ∧ k < A.length ∧ Srt.dat A k = x := by
  obtain ⟨k, hk, e⟩ := List.mem_iff_getElem.1 h
  rw [List.length_drop] at hk
  exact ⟨n + k, by omega, by omega, by rw [dat_get (by omega), ← e, List.getElem_drop]⟩
theorem mid_dat {A X Y Z : List Int} {c : Nat} (h : A.length ≤ c) (h' : c < A.length + X.length) : dat (A ++ (X ++ (Y ++ Z))) c = dat X (c - A.length) := by
  rw [dat_app h, dat_lt (by omega)]
theorem mid_dat' {A X Y Z : List Int} {c : Nat} (h : A.length + X.length ≤ c) (h' : c < A.length + X.length + Y.length) : dat (A ++ (X ++ (Y ++ Z))) c = dat Y (c - A.length - X.length) := by
  rw [dat_app (by omega), dat_app (by omega), dat_lt (by omega)]

/-- **Where two sorted rows are parted in the middle.** -/
theorem sym_key {A X Y Z : List Int} (sx : Sd pt X) (sy : Sd pt Y) (st : Stb pt X Y) (hX : 0 < X.length) (hY : 0 < Y.length) {a m b mid lo hi : Nat} (ea : a = A.length) (em : m = a + X.length) (eb : b = m + Y.length) (emid : mid = (a + b) / 2)
    (hlo : lo = if mid < m then mid + m - b else a) (hhi : hi = if mid < m then mid else m) :
    ∃ t, lo ≤ t ∧ t ≤ hi ∧ (∀ c, lo ≤ c → c < t → ¬ pt (dat (A ++ (X ++ (Y ++ Z))) (mid + m - 1 - c)) < pt (dat (A ++ (X ++ (Y ++ Z))) c)) ∧
      (∀ c, t ≤ c → c < hi → pt (dat (A ++ (X ++ (Y ++ Z))) (mid + m - 1 - c)) < pt (dat (A ++ (X ++ (Y ++ Z))) c)) ∧
      (∀ u ∈ X.take (t - a), ∀ v ∈ Y.drop (mid - t), Le pt u v) ∧ (∀ u ∈ Y.take (mid - t), ∀ v ∈ X.drop (t - a), Le pt u v) := by
  have b1 : a ≤ lo := by rw [hlo]; split <;> omega
  have b2 : hi ≤ m := by rw [hhi]; split <;> omega
  have b3 : hi ≤ mid := by rw [hhi]; split <;> omega
  have b4 : mid + m ≤ lo + b := by rw [hlo]; split <;> omega
  have b5 : lo ≤ hi := by rw [hlo, hhi]; split <;> omega
  have gx : ∀ c, lo ≤ c → c < hi → dat (A ++ (X ++ (Y ++ Z))) c = dat X (c - a) := fun c h1 h2 => by rw [ea]; exact mid_dat (by omega) (by omega)
  have gy : ∀ c, lo ≤ c → c < hi → dat (A ++ (X ++ (Y ++ Z))) (mid + m - 1 - c) = dat Y (mid - 1 - c) := fun c h1 h2 => by
    rw [mid_dat' (by omega) (by omega)]; congr 1; omega
  obtain ⟨t, h1, h2, h3, h4⟩ := thr (fun c => ¬ pt (dat Y (mid - 1 - c)) < pt (dat X (c - a))) lo (hi - lo) fun c c' a1 a2 a3 a4 => by
    have := (sx.dat (i := c - a) (j := c' - a) (by omega) (by omega)).le
    have := (sy.dat (i := mid - 1 - c') (j := mid - 1 - c) (by omega) (by omega)).le
    omega
  refine ⟨t, h1, by omega, fun c a1 a2 => ?_, fun c a1 a2 => ?_, fun u hu v hv => ?_, fun u hu v hv => ?_⟩
  · rw [gx c (by omega) (by omega), gy c (by omega) (by omega)]; exact h3 c a1 a2
  · rw [gx c (by omega) (by omega), gy c (by omega) (by omega)]; exact Decidable.not_not.1 (h4 c a1 (by omega))
  · obtain ⟨i, i1, i2, rfl⟩ := mem_take_dat hu
    obtain ⟨j, j1, j2, rfl⟩ := mem_drop_dat hv
    -- t - 1 is in the range
    have ht : lo < t := by
      rcases Nat.lt_or_ge lo t with h | h
      · exact h
      · exfalso
        have : t = lo := by omega
        subst this
        rw [hlo] at i1 j1
        split at i1
        · rename_i hc; rw [if_pos hc] at j1; omega
        · omega
    have q := h3 (t - 1) (by omega) (by omega)
    have l1 := sx.dat (i := i) (j := t - 1 - a) (by omega) (by omega)
    have l2 := sy.dat (i := mid - 1 - (t - 1)) (j := j) (by omega) j2
    have s := st (dat X (t - 1 - a)) (dat_mem (by omega)) (dat Y (mid - 1 - (t - 1))) (dat_mem (by omega))
    have : Le pt (dat X (t - 1 - a)) (dat Y (mid - 1 - (t - 1))) := by unfold Le; omega
    exact (l1.trans this).trans l2
  · obtain ⟨i, i1, i2, rfl⟩ := mem_take_dat hu
    obtain ⟨j, j1, j2, rfl⟩ := mem_drop_dat hv
    have ht : t < hi := by
      rcases Nat.lt_or_ge t hi with h | h
      · exact h
      · exfalso
        have : t = hi := by omega
        subst this
        rw [hhi] at i1 j1
        split at i1
        · omega
        · rename_i hc; rw [if_neg hc] at j1; omega
    have q := Decidable.not_not.1 (h4 t (Nat.le_refl _) (by omega))
    have l1 := sy.dat (i := i) (j := mid - 1 - t) (by omega) (by omega)
    have l2 := sx.dat (i := t - a) (j := j) (by omega) j2
    have : Le pt (dat Y (mid - 1 - t)) (dat X (t - a)) := by unfold Le; omega
    exact (l1.trans this).trans l2

/-- What is merged on both sides of the middle is merged. -/
theorem sym_join {X Y X1 X2 Y1 Y2 W1 W2 : List Int} (ex : X = X1 ++ X2) (ey : Y = Y1 ++ Y2) (sx : Sd pt X) (sy : Sd pt Y) (h1 : ∀ u ∈ X1, ∀ v ∈ Y2, Le pt u v) (h2 : ∀ u ∈ Y1, ∀ v ∈ X2, Le pt u v)
    (s1 : Sd pt W1) (s2 : Sd pt W2) (p1 : W1.Perm (X1 ++ Y1)) (p2 : W2.Perm (X2 ++ Y2)) : Sd pt (W1 ++ W2) ∧ (W1 ++ W2).Perm (X ++ Y) := by
  subst ex ey
  refine ⟨List.pairwise_append.2 ⟨s1, s2, fun u hu v hv => ?_⟩, ?_⟩
  · have sx' := (List.pairwise_append.1 sx).2.2
    have sy' := (List.pairwise_append.1 sy).2.2
    rcases List.mem_append.1 (p1.mem_iff.1 hu) with hu | hu <;> rcases List.mem_append.1 (p2.mem_iff.1 hv) with hv | hv
    · exact sx' u hu v hv
    · exact h1 u hu v hv
    · exact h2 u hu v hv
    · exact sy' u hu v hv
  · refine (p1.append p2).trans ?_
    rw [List.append_assoc, List.append_assoc]
    refine List.Perm.append_left X1 ?_
    rw [← List.append_assoc, ← List.append_assoc]
    exact List.Perm.append_right Y2 List.perm_append_comm

/-- One into a sorted row behind it. -/
theorem one_ahead {x : Int} {Y : List Int} (sy : Sd pt Y) (st : Stb pt [x] Y) (t : Nat) (h1 : ∀ k, k < t → k < Y.length → pt (dat Y k) < pt x) (h2 : ∀ k, t ≤ k → k < Y.length → ¬ pt (dat Y k) < pt x) :
    Sd pt (Y.take t ++ x :: Y.drop t) ∧ (Y.take t ++ x :: Y.drop t).Perm ([x] ++ Y) := by
  constructor
  · refine List.pairwise_append.2 ⟨List.Pairwise.sublist (List.take_sublist t Y) sy, List.pairwise_cons.2 ⟨fun v hv => ?_, List.Pairwise.sublist (List.drop_sublist t Y) sy⟩, fun u hu v hv => ?_⟩
    · obtain ⟨k, k1, k2, rfl⟩ := mem_drop_dat hv
      have := h2 k k1 k2
      have := st x (by simp) _ (dat_mem k2)
      unfold Le; omega
    · obtain ⟨i, i1, i2, rfl⟩ := mem_take_dat hu
      have q1 := h1 i i1 i2
      rcases List.mem_cons.1 hv with rfl | hv
      · unfold Le; omega
      · obtain ⟨k, k1, k2, rfl⟩ := mem_drop_dat hv
        exact sy.dat (by omega) k2
  · refine List.perm_middle.trans ?_
    rw [List.take_append_drop]; exact List.Perm.refl _
/-- One into a sorted row ahead of it. -/
theorem one_behind {y : Int} {X : List Int} (sx : Sd pt X) (st : Stb pt X [y]) (t : Nat) (h1 : ∀ k, k < t → k < X.length → ¬ pt y < pt (dat X k)) (h2 : ∀ k, t ≤ k → k < X.length → pt y < pt (dat X k)) :
    Sd pt (X.take t ++ y :: X.drop t) ∧ (X.take t ++ y :: X.drop t).Perm (X ++ [y]) := by
  constructor
  · refine List.pairwise_append.2 ⟨List.Pairwise.sublist (List.take_sublist t X) sx, List.pairwise_cons.2 ⟨fun v hv => ?_, List.Pairwise.sublist (List.drop_sublist t X) sx⟩, fun u hu v hv => ?_⟩
    · obtain ⟨k, k1, k2, rfl⟩ := mem_drop_dat hv
      have := h2 k k1 k2
      unfold Le; omega
    · obtain ⟨i, i1, i2, rfl⟩ := mem_take_dat hu
      have q1 := h1 i i1 i2
      have := st _ (dat_mem i2) y (by simp)
      rcases List.mem_cons.1 hv with rfl | hv
      · unfold Le; omega
      · obtain ⟨k, k1, k2, rfl⟩ := mem_drop_dat hv
        exact sx.dat (by omega) k2
  · refine List.perm_middle.trans ?_
    rw [List.take_append_drop]
    exact (List.perm_append_comm (l₁ := [y]) (l₂ := X))

/-! ### Rows of sorted blocks -/

/-- A row is another one, block by block of so many sorted. -/
inductive Blocks (pt : Int → Int) (s : Nat) : List Int → List Int → Prop
  | last {x0 x : List Int} (h : x.length ≤ s) (hp : x.Perm x0) (hs : Sd pt x) : Blocks pt s x0 x
  | cons {x0 x r0 r : List Int} (h : x.length = s) (hp : x.Perm x0) (hs : Sd pt x) (hr : Blocks pt s r0 r) : Blocks pt s (x0 ++ r0) (x ++ r)
/-- All of them full. -/
inductive Full (pt : Int → Int) (s : Nat) : List Int → List Int → Prop
  | nil : Full pt s [] []
  | snoc {x0 x r0 r : List Int} (hr : Full pt s r0 r) (h : x.length = s) (hp : x.Perm x0) (hs : Sd pt x) : Full pt s (r0 ++ x0) (r ++ x)

theorem Blocks.perm {s : Nat} {r0 r : List Int} (h : Blocks pt s r0 r) : r.Perm r0 := by
  induction h with
  | last h hp hs => exact hp
  | cons h hp hs hr ih => exact hp.append ih
theorem Full.perm {s : Nat} {r0 r : List Int} (h : Full pt s r0 r) : r.Perm r0 := by
  induction h with
  | nil => exact .refl _
  | snoc hr h hp hs ih => exact ih.append hp
theorem Full.blocks {s : Nat} {r0 r : List Int} (h : Full pt s r0 r) : ∀ {q0 q : List Int}, Blocks pt s q0 q → Blocks pt s (r0 ++ q0) (r ++ q) := by
  induction h with
  | nil => intro q0 q hq; exact hq
  | snoc hr h hp hs ih => intro q0 q hq; rw [List.append_assoc, List.append_assoc]; exact ih (.cons h hp hs hq)
/-- The first block of a row. -/
theorem Blocks.first {s : Nat} (hs : 0 < s) {r0 r : List Int} (h : Blocks pt s r0 r) (hl : s ≤ r.length) : ∃ x0 x q0 q, r0 = x0 ++ q0 ∧ r = x ++ q ∧ x.length = s ∧ x.Perm x0 ∧ Sd pt x ∧ Blocks pt s q0 q := by
  cases h with
  | last h hp hs => exact ⟨r0, r, [], [], by simp, by simp, by omega, hp, hs, .last (by simp) (.refl _) .nil⟩
  | cons h hp hs hr => exact ⟨_, _, _, _, rfl, rfl, h, hp, hs, hr⟩
/-- The only block of a row. -/
theorem Blocks.only {s : Nat} {r0 r : List Int} (h : Blocks pt s r0 r) (hl : r.length ≤ s) : Sd pt r := by
  cases h with
  | last h hp hs => exact hs
  | cons h hp hs hr =>
    rename_i x0 x r0 r
    rw [List.length_append] at hl
    have : r = [] := List.eq_nil_of_length_eq_zero (by omega)
    subst this
    rw [List.append_nil]; exact hs
end Go.Srt

/- The stable sort, walked: a range swapped with another one, and the rotation. -/
namespace Go.Srt
open Go.Ab Go.Proofs Go.Hy Go.Cal
set_option linter.unusedVariables false
set_option linter.unusedSimpArgs false
set_option maxRecDepth 100000
set_option maxHeartbeats 2000000

theorem set_mid (L : List Int) (x y : Int) (R : List Int) {n : Nat} (h : n = L.length) : (L ++ x :: R).set n y = L ++ y :: R := by
  subst h
  rw [List.set_append_right (h := Nat.le_refl _), Nat.sub_self]; rfl
theorem get_mid (L : List Int) (x : Int) (R : List Int) {n : Nat} (h : n = L.length) : ((L ++ x :: R).map encI)[n]? = some (encI x) := by
  subst h
  rw [List.getElem?_map, List.getElem?_append_right (Nat.le_refl _), Nat.sub_self]; rfl
theorem rset {d L R : List Int} {x y : Int} (e : d = L ++ x :: R) {n : Nat} (hn : n = L.length) : (d.map encI).set n [C.v (Value.int .i64 y)] = (L ++ y :: R).map encI := by
  subst e
  show List.set _ _ (encI y) = _
  rw [← List.map_set, set_mid _ _ _ _ hn]
theorem i64_int {n : Int} (h : -9223372036854775808 ≤ n) (h' : n ≤ 9223372036854775807) : IntKind.i64.wrap n = n := i64_ok h h'


abbrev ptV (cs : List Cal) (x : Int) : Int := ((cs[x.toNat]?).map (·.point)).getD 0
def cmpV (a b : Int) : Int := if a < b then -1 else if b < a then 1 else 0
/-- Numbers of calls. -/
def Rg (n : Nat) (d : List Int) : Prop := ∀ x ∈ d, 0 ≤ x ∧ x.toNat < n

theorem cmp_sound (cs : List Cal) (d : List Int) {x y : Int} (hx : 0 ≤ x) (hx' : x.toNat < cs.length) (hy : 0 ≤ y) (hy' : y.toNat < cs.length) :
    SoundAt Tryz.prog 27 [⟨1, 41, 1, [[lCal cs]], 0⟩, ⟨2, 3, 1, (d).map encI, 0⟩] [I x, I y, .ref 0 [] 1 0 0] (I (cmpV (ptV cs x) (ptV cs y))) [⟨1, 41, 1, [[lCal cs]], 0⟩, ⟨2, 3, 1, (d).map encI, 0⟩] := by
  have gx : (cs.map encCal)[x.toNat]? = some (encCal cs[x.toNat]) := by rw [List.getElem?_map, List.getElem?_eq_getElem hx']; rfl
  have gy : (cs.map encCal)[y.toNat]? = some (encCal cs[y.toNat]) := by rw [List.getElem?_map, List.getElem?_eq_getElem hy']; rfl
  have ex : ptV cs x = cs[x.toNat].point := by unfold ptV; rw [List.getElem?_eq_getElem hx']; rfl
  have ey : ptV cs y = cs[y.toNat].point := by unfold ptV; rw [List.getElem?_eq_getElem hy']; rfl
  refine SoundAt.of_wpA (fn := Tryz.f27) Tryz.func27 rfl ?_
  conv => whnf
  refine ⟨⟨false, [], [], []⟩, by kernel_rfl, ?_⟩; (conv => whnf)
  refine ⟨hx, _, gx, ?_⟩
  (conv => whnf); (try (refine ⟨(rfl : (_ : Heap) = _), ?_⟩; (conv => whnf)))
  refine ⟨hy, _, gy, ?_⟩
  (conv => whnf); (try (refine ⟨(rfl : (_ : Heap) = _), ?_⟩; (conv => whnf)))
  refine ⟨fun h1 => ?_, fun h1 => ?_⟩
  · (conv => whnf); (try (refine ⟨(rfl : (_ : Heap) = _), ?_⟩; (conv => whnf)))
    refine ⟨.inl rfl, _, .refl _, rfl, ?_⟩
    rw [ex, ey]; unfold cmpV; rw [if_pos (by simpa using h1)]; rfl
  · (conv => whnf); (try (refine ⟨(rfl : (_ : Heap) = _), ?_⟩; (conv => whnf)))
    refine ⟨fun h2 => ?_, fun h2 => ?_⟩
    · (conv => whnf); (try (refine ⟨(rfl : (_ : Heap) = _), ?_⟩; (conv => whnf)))
      refine ⟨.inl rfl, _, .refl _, rfl, ?_⟩
      rw [ex, ey]; unfold cmpV; rw [if_neg (by simpa using h1), if_pos (by simpa using h2)]; rfl
    · (conv => whnf); (try (refine ⟨(rfl : (_ : Heap) = _), ?_⟩; (conv => whnf)))
      refine ⟨.inl rfl, _, .refl _, rfl, ?_⟩
      rw [ex, ey]; unfold cmpV; rw [if_neg (by simpa using h1), if_neg (by simpa using h2)]; rfl

theorem swapRange_sound (cs : List Cal) (N : Nat) (A X Y X2 Z : List Int) {a b n : Nat} (ea : a = A.length) (eb : b = A.length + X.length + Y.length) (en : n = X.length) (en2 : n = X2.length)
    (hN : N = (A ++ (X ++ (Y ++ (X2 ++ Z)))).length) (hb : N ≤ 1000000000) : SoundAt Tryz.prog 86 [⟨1, 41, 1, [[lCal cs]], 0⟩, ⟨2, 3, 1, (A ++ (X ++ (Y ++ (X2 ++ Z)))).map encI, 0⟩] [.sl 1 [] 1 0 N false, I a, I b, I n, .fn 27 [] [.ref 0 [] 1 0 0]] (.tup []) [⟨1, 41, 1, [[lCal cs]], 0⟩, ⟨2, 3, 1, (A ++ (X2 ++ (Y ++ (X ++ Z)))).map encI, 0⟩] := by
  simp only [List.length_append] at hN
  refine SoundAt.of_wpA (fn := Tryz.f86) Tryz.func86 rfl ?_
  conv => whnf
  refine Loops.inv (fun m t1 H1 => ∃ (k : Nat) (P Q P' Q' : List Int), k + m = n ∧ X = P ++ Q ∧ X2 = P' ++ Q' ∧ P.length = k ∧ P'.length = k ∧ t1 = [.sl 1 [] 1 0 N false, I a, I b, I n, .fn 27 [] [.ref 0 [] 1 0 0], .junk, .junk, .junk, .junk, .junk, I k, .junk, .junk, .junk, .junk, .junk, .junk, .junk, .junk, .junk, .junk, .junk, .junk, .junk, .junk, .junk, .junk, .junk, .junk, .junk, .junk, .junk, .junk, .junk, .junk, .junk, .junk, .junk] ∧ H1 = [⟨1, 41, 1, [[lCal cs]], 0⟩, ⟨2, 3, 1, (A ++ (P' ++ Q ++ (Y ++ (P ++ Q' ++ Z)))).map encI, 0⟩]) n ?_ ?_
  · exact ⟨_, _, Weak.cov (by (conv => whnf); (repeat (refine ⟨rfl, ?_⟩; (conv => whnf))); exact trivial), 0, [], X, [], X2, by omega, rfl, rfl, rfl, rfl, rfl, rfl⟩
  · rintro m t1 H1 ⟨k, P, Q, P', Q', h1, h2, h3, h4, h5, rfl, rfl⟩
    subst h2 h3
    have hl : (A ++ (P' ++ Q ++ (Y ++ (P ++ Q' ++ Z)))).length = N := by simp only [List.length_append] at *; omega
    simp only [List.length_append] at eb en en2 hN
    have w1 : IntKind.i64.wrap ((b : Int) + (k : Int)) = (b + k : Nat) := by rw [i64_ok (by omega) (by omega)]; omega
    have w2 : IntKind.i64.wrap ((a : Int) + (k : Int)) = (a + k : Nat) := by rw [i64_ok (by omega) (by omega)]; omega
    conv => whnf
    refine ⟨fun hc => ?_, fun hc => ?_⟩
    · have hk : k < n := by simpa using hc
      obtain ⟨x, Q1, rfl⟩ : ∃ x Q1, Q = x :: Q1 := by cases Q with | nil => simp at en; omega | cons x Q1 => exact ⟨x, Q1, rfl⟩
      obtain ⟨x', Q2, rfl⟩ : ∃ x Q1, Q' = x :: Q1 := by cases Q' with | nil => simp at en2; omega | cons x Q1 => exact ⟨x, Q1, rfl⟩
      have e1 : A ++ (P' ++ x :: Q1 ++ (Y ++ (P ++ x' :: Q2 ++ Z))) = (A ++ P' ++ x :: Q1 ++ Y ++ P) ++ x' :: (Q2 ++ Z) := by simp
      have e2 : A ++ (P' ++ x :: Q1 ++ (Y ++ (P ++ x' :: Q2 ++ Z))) = (A ++ P') ++ x :: (Q1 ++ (Y ++ (P ++ x' :: Q2 ++ Z))) := by simp
      simp only [List.length_cons] at en en2 eb hN
      (conv => whnf); (try (refine ⟨(rfl : (_ : Heap) = _), ?_⟩; (conv => whnf)))
      refine ⟨⟨false, [], [], []⟩, by kernel_rfl, ?_⟩; (conv => whnf)
      rw [w1]
      refine ⟨by omega, by omega, ?_⟩
      (conv => whnf); (try (refine ⟨(rfl : (_ : Heap) = _), ?_⟩; (conv => whnf)))
      refine ⟨_, by (first | (rw [Nat.zero_add, Int.toNat_natCast, e1]; exact get_mid _ _ _ (by simp only [List.length_append, List.length_cons]; omega)) | (rw [w1]; (rw [Nat.zero_add, Int.toNat_natCast, e1]; exact get_mid _ _ _ (by simp only [List.length_append, List.length_cons]; omega))) | (rw [w2]; (rw [Nat.zero_add, Int.toNat_natCast, e1]; exact get_mid _ _ _ (by simp only [List.length_append, List.length_cons]; omega)))), Nat.le_of_ble_eq_true rfl, ?_⟩; (conv => whnf); (try (refine ⟨(rfl : (_ : Heap) = _), ?_⟩; (conv => whnf)))
      rw [w2]
      refine ⟨by omega, by omega, ?_⟩
      (conv => whnf); (try (refine ⟨(rfl : (_ : Heap) = _), ?_⟩; (conv => whnf)))
      refine ⟨_, by (first | (rw [Nat.zero_add, Int.toNat_natCast, e2]; exact get_mid _ _ _ (by simp only [List.length_append, List.length_cons]; omega)) | (rw [w1]; (rw [Nat.zero_add, Int.toNat_natCast, e2]; exact get_mid _ _ _ (by simp only [List.length_append, List.length_cons]; omega))) | (rw [w2]; (rw [Nat.zero_add, Int.toNat_natCast, e2]; exact get_mid _ _ _ (by simp only [List.length_append, List.length_cons]; omega)))), Nat.le_of_ble_eq_true rfl, ?_⟩; (conv => whnf); (try (refine ⟨(rfl : (_ : Heap) = _), ?_⟩; (conv => whnf)))
      refine ⟨by omega, by omega, ?_⟩
      (conv => whnf); (try (refine ⟨(rfl : (_ : Heap) = _), ?_⟩; (conv => whnf)))
      refine ⟨_, by (rw [Nat.zero_add, Int.toNat_natCast, e2]; exact get_mid _ _ _ (by simp only [List.length_append, List.length_cons]; omega)), rfl, ?_⟩
      (conv => whnf); (try (refine ⟨(rfl : (_ : Heap) = _), ?_⟩; (conv => whnf)))
      have n2 : 0 + ((a + k : Nat) : Int).toNat = (A ++ P').length := by simp only [List.length_append]; omega
      rw [rset e2 n2]
      have e3 : (A ++ P') ++ x' :: (Q1 ++ (Y ++ (P ++ x' :: Q2 ++ Z))) = (A ++ P' ++ x' :: Q1 ++ Y ++ P) ++ x' :: (Q2 ++ Z) := by simp
      have n3 : 0 + ((b + k : Nat) : Int).toNat = (A ++ P' ++ x' :: Q1 ++ Y ++ P).length := by simp only [List.length_append, List.length_cons]; omega
      refine ⟨by omega, by omega, ?_⟩
      (conv => whnf); (try (refine ⟨(rfl : (_ : Heap) = _), ?_⟩; (conv => whnf)))
      refine ⟨_, by (rw [Nat.zero_add, Int.toNat_natCast, e3]; exact get_mid _ _ _ (by simp only [List.length_append, List.length_cons]; omega)), rfl, ?_⟩
      (conv => whnf); (try (refine ⟨(rfl : (_ : Heap) = _), ?_⟩; (conv => whnf)))
      rw [rset e3 n3]
      have e4 : (A ++ P' ++ x' :: Q1 ++ Y ++ P) ++ x :: (Q2 ++ Z) = A ++ ((P' ++ [x']) ++ Q1 ++ (Y ++ ((P ++ [x]) ++ Q2 ++ Z))) := by simp
      rw [e4]
      rw [i64_nat (n := k) (by omega)]
      refine .inl ⟨rfl, m - 1, [.sl 1 [] 1 0 N false, I a, I b, I n, .fn 27 [] [.ref 0 [] 1 0 0], .junk, .junk, .junk, .junk, .junk, I (k + 1 : Nat), .junk, .junk, .junk, .junk, .junk, .junk, .junk, .junk, .junk, .junk, .junk, .junk, .junk, .junk, .junk, .junk, .junk, .junk, .junk, .junk, .junk, .junk, .junk, .junk, .junk, .junk, .junk], _, by omega, Weak.cov (by (conv => whnf); (repeat (refine ⟨rfl, ?_⟩; (conv => whnf))); exact trivial), k + 1, P ++ [x], Q1, P' ++ [x'], Q2, by omega, by simp, by simp, by simp; omega, by simp; omega, rfl, rfl⟩
    · have hk : k = n := by simp at hc; omega
      have q1 : Q = [] := List.eq_nil_of_length_eq_zero (by omega)
      have q2 : Q' = [] := List.eq_nil_of_length_eq_zero (by omega)
      subst q1 q2
      (conv => whnf); (try (refine ⟨(rfl : (_ : Heap) = _), ?_⟩; (conv => whnf)))
      refine .inr ⟨by simp, ?_⟩
      conv => whnf
      refine ⟨.inr rfl, _, .refl _, ?_, rfl⟩
      simp only [List.append_nil, List.append_assoc]


theorem rotate_sound (cs : List Cal) (N : Nat) (A X Y Z : List Int) {a m b : Nat} (ea : a = A.length) (em : m = A.length + X.length) (eb : b = A.length + X.length + Y.length) (hX : 0 < X.length) (hY : 0 < Y.length)
    (hN : N = (A ++ (X ++ (Y ++ Z))).length) (hb : N ≤ 1000000000) : SoundAt Tryz.prog 69 [⟨1, 41, 1, [[lCal cs]], 0⟩, ⟨2, 3, 1, (A ++ (X ++ (Y ++ Z))).map encI, 0⟩] [.sl 1 [] 1 0 N false, I a, I m, I b, .fn 27 [] [.ref 0 [] 1 0 0]] (.tup []) [⟨1, 41, 1, [[lCal cs]], 0⟩, ⟨2, 3, 1, (A ++ (Y ++ (X ++ Z))).map encI, 0⟩] := by
  simp only [List.length_append] at hN
  have w1 : IntKind.i64.wrap ((m : Int) - (a : Int)) = (X.length : Nat) := by rw [i64_ok (by omega) (by omega)]; omega
  have w2 : IntKind.i64.wrap ((b : Int) - (m : Int)) = (Y.length : Nat) := by rw [i64_ok (by omega) (by omega)]; omega
  refine SoundAt.of_wpA (fn := Tryz.f69) Tryz.func69 rfl ?_
  conv => whnf
  rw [w1, w2]
  refine Loops.inv (fun q t1 H1 => ∃ (A' X' Y' Z' : List Int), X'.length + Y'.length = q ∧ 0 < X'.length ∧ 0 < Y'.length ∧ m = A'.length + X'.length ∧ N = (A' ++ (X' ++ (Y' ++ Z'))).length ∧
    A ++ (Y ++ (X ++ Z)) = A' ++ (Y' ++ (X' ++ Z')) ∧ t1 = [.sl 1 [] 1 0 N false, I a, I m, I b, .fn 27 [] [.ref 0 [] 1 0 0], .junk, .junk, .junk, .junk, .junk, I X'.length, I Y'.length, .junk, .junk, .junk, .junk, .junk, .junk, .junk, .junk, .junk, .junk, .junk, .junk, .junk, .junk, .junk, .junk, .junk, .junk, .junk, .junk, .junk, .junk, .junk, .junk, .junk, .junk, .junk, .junk, .junk, .junk, .junk, .junk, .junk, .junk, .junk, .junk, .junk, .junk, .junk, .junk, .junk, .junk, .junk, .junk, .junk, .junk] ∧ H1 = [⟨1, 41, 1, [[lCal cs]], 0⟩, ⟨2, 3, 1, (A' ++ (X' ++ (Y' ++ Z'))).map encI, 0⟩]) (X.length + Y.length) ?_ ?_
  · exact ⟨_, _, Weak.cov (by (conv => whnf); (repeat (refine ⟨rfl, ?_⟩; (conv => whnf))); exact trivial), A, X, Y, Z, rfl, hX, hY, em, by simp only [List.length_append]; exact hN, rfl, rfl, rfl⟩
  · rintro q t1 H1 ⟨A', X', Y', Z', h1, h2, h3, h4, h5, h6, rfl, rfl⟩
    simp only [List.length_append] at h5
    have v1 : IntKind.i64.wrap ((m : Int) - (X'.length : Int)) = (A'.length : Nat) := by rw [i64_ok (by omega) (by omega)]; omega
    conv => whnf
    refine ⟨fun hc => ?_, fun hc => ?_⟩
    · have hc : X'.length ≠ Y'.length := by simp at hc; omega
      (conv => whnf); (try (refine ⟨(rfl : (_ : Heap) = _), ?_⟩; (conv => whnf)))
      refine ⟨fun hg => ?_, fun hg => ?_⟩
      · have hg : Y'.length < X'.length := by simpa using hg
        (conv => whnf); (try (refine ⟨(rfl : (_ : Heap) = _), ?_⟩; (conv => whnf)))
        rw [v1]
        obtain ⟨X1, X2, rfl, hx⟩ : ∃ X1 X2, X' = X1 ++ X2 ∧ X1.length = Y'.length := ⟨X'.take Y'.length, X'.drop Y'.length, (List.take_append_drop ..).symm, by rw [List.length_take]; omega⟩
        rw [List.append_assoc X1]
        refine ⟨_, _, swapRange_sound cs N A' X1 X2 Y' Z' rfl (by simp only [List.length_append] at *; omega) hx.symm rfl (by simp only [List.length_append] at *; omega) hb, ?_⟩
        (conv => whnf); (try (refine ⟨(rfl : (_ : Heap) = _), ?_⟩; (conv => whnf)))
        have v2 : IntKind.i64.wrap (((X1 ++ X2).length : Int) - (Y'.length : Int)) = (X2.length : Nat) := by
          simp only [List.length_append] at *; rw [i64_ok (by omega) (by omega)]; omega
        rw [v2]
        have e1 : A' ++ (Y' ++ (X2 ++ (X1 ++ Z'))) = (A' ++ Y') ++ (X2 ++ (X1 ++ Z')) := by simp
        rw [e1]
        simp only [List.length_append] at h1 h2 h3 h4 h5 hg hc
        refine .inl ⟨rfl, X2.length + X1.length, [.sl 1 [] 1 0 N false, I a, I m, I b, .fn 27 [] [.ref 0 [] 1 0 0], .junk, .junk, .junk, .junk, .junk, I X2.length, I X1.length, .junk, .junk, .junk, .junk, .junk, .junk, .junk, .junk, .junk, .junk, .junk, .junk, .junk, .junk, .junk, .junk, .junk, .junk, .junk, .junk, .junk, .junk, .junk, .junk, .junk, .junk, .junk, .junk, .junk, .junk, .junk, .junk, .junk, .junk, .junk, .junk, .junk, .junk, .junk, .junk, .junk, .junk, .junk, .junk, .junk, .junk], _, by omega, ?_, A' ++ Y', X2, X1, Z', rfl, by omega, by omega, by simp only [List.length_append]; omega, by simp only [List.length_append]; omega, by rw [h6]; simp, rfl, rfl⟩
        rw [hx]
        exact Weak.cov (by (conv => whnf); (repeat (refine ⟨rfl, ?_⟩; (conv => whnf))); exact trivial)
      · have hg : X'.length < Y'.length := by simp at hg; omega
        (conv => whnf); (try (refine ⟨(rfl : (_ : Heap) = _), ?_⟩; (conv => whnf)))
        obtain ⟨Y1, Y2, rfl, hx⟩ : ∃ Y1 Y2, Y' = Y1 ++ Y2 ∧ Y2.length = X'.length := ⟨Y'.take (Y'.length - X'.length), Y'.drop (Y'.length - X'.length), (List.take_append_drop ..).symm, by rw [List.length_drop]; omega⟩
        have v3 : IntKind.i64.wrap (IntKind.i64.wrap ((m : Int) + ((Y1 ++ Y2).length : Int)) - (X'.length : Int)) = (A'.length + X'.length + Y1.length : Nat) := by
          simp only [List.length_append] at *; rw [i64_ok (n := (m : Int) + _) (by omega) (by omega), i64_ok (by omega) (by omega)]; omega
        rw [v1, v3, List.append_assoc Y1]
        refine ⟨_, _, swapRange_sound cs N A' X' Y1 Y2 Z' rfl rfl rfl hx.symm (by simp only [List.length_append] at *; omega) hb, ?_⟩
        (conv => whnf); (try (refine ⟨(rfl : (_ : Heap) = _), ?_⟩; (conv => whnf)))
        have v2 : IntKind.i64.wrap (((Y1 ++ Y2).length : Int) - (X'.length : Int)) = (Y1.length : Nat) := by
          simp only [List.length_append] at *; rw [i64_ok (by omega) (by omega)]; omega
        rw [v2]
        simp only [List.length_append] at h1 h2 h3 h4 h5 hg hc
        refine .inl ⟨rfl, Y2.length + Y1.length, [.sl 1 [] 1 0 N false, I a, I m, I b, .fn 27 [] [.ref 0 [] 1 0 0], .junk, .junk, .junk, .junk, .junk, I Y2.length, I Y1.length, .junk, .junk, .junk, .junk, .junk, .junk, .junk, .junk, .junk, .junk, .junk, .junk, .junk, .junk, .junk, .junk, .junk, .junk, .junk, .junk, .junk, .junk, .junk, .junk, .junk, .junk, .junk, .junk, .junk, .junk, .junk, .junk, .junk, .junk, .junk, .junk, .junk, .junk, .junk, .junk, .junk, .junk, .junk, .junk, .junk, .junk], _, by omega, ?_, A', Y2, Y1, X' ++ Z', rfl, by omega, by omega, by omega, by simp only [List.length_append]; omega, by rw [h6]; simp, rfl, rfl⟩
        rw [hx]
        exact Weak.cov (by (conv => whnf); (repeat (refine ⟨rfl, ?_⟩; (conv => whnf))); exact trivial)
    · have hc : X'.length = Y'.length := by simp at hc; omega
      (conv => whnf); (try (refine ⟨(rfl : (_ : Heap) = _), ?_⟩; (conv => whnf)))
      refine .inr ⟨by simp, ?_⟩
      conv => whnf
      rw [v1]
      refine ⟨_, _, swapRange_sound cs N A' X' [] Y' Z' rfl (by simp; omega) rfl hc (by simp only [List.length_append, List.length_nil] at *; omega) hb, ?_⟩
      (conv => whnf); (try (refine ⟨(rfl : (_ : Heap) = _), ?_⟩; (conv => whnf)))
      refine ⟨.inr rfl, _, .refl _, ?_, rfl⟩
      rw [h6]; rfl
end Go.Srt

/- The stable sort, walked: the insertion sort of a block. -/
namespace Go.Srt
open Go.Ab Go.Proofs Go.Hy Go.Cal
set_option linter.unusedVariables false
set_option linter.unusedSimpArgs false
set_option maxRecDepth 100000
set_option maxHeartbeats 2000000

/-- What stands ahead and is as great is no greater itself: within a row. -/
def Stc (pt : Int → Int) (X : List Int) : Prop := X.Pairwise fun x y => pt x = pt y → x ≤ y
theorem Stc.app {pt : Int → Int} {X Y : List Int} (h : Stc pt (X ++ Y)) : Stc pt X ∧ Stc pt Y ∧ Stb pt X Y := List.pairwise_append.1 h

theorem Rg.perm {n : Nat} {X W : List Int} (h : Rg n X) (hp : W.Perm X) : Rg n W := fun x hx => h x (hp.mem_iff.1 hx)
theorem Rg.app {n : Nat} {X Y : List Int} (h : Rg n (X ++ Y)) : Rg n X ∧ Rg n Y := ⟨fun x hx => h x (List.mem_append.2 (.inl hx)), fun x hx => h x (List.mem_append.2 (.inr hx))⟩
theorem Rg.mk {n : Nat} {X Y : List Int} (h : Rg n X) (h' : Rg n Y) : Rg n (X ++ Y) := fun x hx => (List.mem_append.1 hx).elim (h x) (h' x)

theorem ins_ok {pt : Int → Int} {V1 V2 : List Int} {x : Int} (hs : Sd pt (V1 ++ V2)) (h2 : ∀ v ∈ V2, pt x < pt v) (h1 : ∀ v ∈ V1, Le pt v x) : Sd pt (V1 ++ x :: V2) := by
  obtain ⟨s1, s2, s3⟩ := List.pairwise_append.1 hs
  refine List.pairwise_append.2 ⟨s1, List.pairwise_cons.2 ⟨fun v hv => .inl (h2 v hv), s2⟩, fun u hu v hv => ?_⟩
  rcases List.mem_cons.1 hv with rfl | hv
  · exact h1 u hu
  · exact s3 u hu v hv

theorem cmp_lt (a b : Int) : decide (cmpV a b < 0) = decide (a < b) := by
  unfold cmpV
  split
  · simp [*]
  · split <;> simp [*]


theorem insertion_sound (cs : List Cal) (N : Nat) (A X Z W : List Int) {a b : Nat} (ea : a = A.length) (eb : b = A.length + X.length) (hN : N = (A ++ (X ++ Z)).length) (hb : N ≤ 1000000000) (hr : Rg cs.length X) (hst : Stc (ptV cs) X)
    (hs : Sd (ptV cs) W) (hp : W.Perm X) : SoundAt Tryz.prog 54 [⟨1, 41, 1, [[lCal cs]], 0⟩, ⟨2, 3, 1, (A ++ (X ++ Z)).map encI, 0⟩] [.sl 1 [] 1 0 N false, I a, I b, .fn 27 [] [.ref 0 [] 1 0 0]] (.tup []) [⟨1, 41, 1, [[lCal cs]], 0⟩, ⟨2, 3, 1, (A ++ (W ++ Z)).map encI, 0⟩] := by
  simp only [List.length_append] at hN
  have w1 : IntKind.i64.wrap ((a : Int) + 1) = (a + 1 : Nat) := i64_nat (by omega)
  refine SoundAt.of_wpA (fn := Tryz.f54) Tryz.func54 rfl ?_
  conv => whnf
  rw [w1]
  cases X with
  | nil =>
    obtain rfl : W = [] := List.perm_nil.1 hp
    refine .ofN 1 (.step ?_)
    conv => whnf
    refine ⟨fun h => absurd h (by simp at eb ⊢; omega), fun h => ?_⟩
    (conv => whnf); (try (refine ⟨(rfl : (_ : Heap) = _), ?_⟩; (conv => whnf)))
    refine .inr ⟨by simp, ?_⟩
    conv => whnf
    exact ⟨.inr rfl, _, .refl _, rfl, rfl⟩
  | cons x0 X' =>
    simp only [List.length_cons] at eb hN
    refine Loops.inv (fun q t1 H1 => ∃ (W1 X1 X2 : List Int), x0 :: X' = X1 ++ X2 ∧ X2.length = q ∧ 0 < X1.length ∧ Sd (ptV cs) W1 ∧ W1.Perm X1 ∧ t1 = [.sl 1 [] 1 0 N false, I a, I b, .fn 27 [] [.ref 0 [] 1 0 0], .junk, .junk, .junk, .junk, I (a + X1.length : Nat), .junk, .junk, .junk, .junk, .junk, .junk, .junk, .junk, .junk, .junk, .junk, .junk, .junk, .junk, .junk, .junk, .junk, .junk, .junk, .junk, .junk, .junk, .junk, .junk, .junk, .junk, .junk, .junk, .junk, .junk, .junk, .junk, .junk, .junk, .junk, .junk, .junk, .junk, .junk, .junk, .junk, .junk, .junk, .junk] ∧ H1 = [⟨1, 41, 1, [[lCal cs]], 0⟩, ⟨2, 3, 1, (A ++ (W1 ++ (X2 ++ Z))).map encI, 0⟩]) X'.length ?_ ?_
    · exact ⟨[.sl 1 [] 1 0 N false, I a, I b, .fn 27 [] [.ref 0 [] 1 0 0], .junk, .junk, .junk, .junk, I (a + 1 : Nat), .junk, .junk, .junk, .junk, .junk, .junk, .junk, .junk, .junk, .junk, .junk, .junk, .junk, .junk, .junk, .junk, .junk, .junk, .junk, .junk, .junk, .junk, .junk, .junk, .junk, .junk, .junk, .junk, .junk, .junk, .junk, .junk, .junk, .junk, .junk, .junk, .junk, .junk, .junk, .junk, .junk, .junk, .junk, .junk], _, Weak.cov (by (conv => whnf); (repeat (refine ⟨rfl, ?_⟩; (conv => whnf))); exact trivial), [x0], [x0], X', rfl, rfl, by simp, by unfold Sd; simp, .refl _, rfl, rfl⟩
    · rintro q t1 H1 ⟨W1, X1, X2, h1, h2, h3, h4, h5, rfl, rfl⟩
      have hlX : X1.length + X2.length = X'.length + 1 := by rw [← List.length_append, ← h1]; rfl
      have hlW : W1.length = X1.length := h5.length_eq
      conv => whnf
      refine ⟨fun hc => ?_, fun hc => ?_⟩
      · obtain ⟨x, X3, rfl⟩ : ∃ x Q, X2 = x :: Q := by cases X2 with | nil => simp at hc hlX; omega | cons x Q => exact ⟨x, Q, rfl⟩
        simp only [List.length_cons] at hlX h2
        have hst2 := hst
        rw [h1] at hst2
        obtain ⟨q1, q2, q3⟩ := hst2.app
        have hr2 := hr
        rw [h1] at hr2
        have hx : 0 ≤ x ∧ x.toNat < cs.length := hr2.app.2 x (by simp)
        have hsb : ∀ v ∈ W1, ptV cs v = ptV cs x → v ≤ x := fun v hv => q3 v (h5.mem_iff.1 hv) x (by simp)
        have hrW : Rg cs.length W1 := hr2.app.1.perm h5
        (conv => whnf); (try (refine ⟨(rfl : (_ : Heap) = _), ?_⟩; (conv => whnf)))
        refine Loops.inv (fun q t1 H1 => ∃ (V1 V2 : List Int) (J : Nat), J = a + V1.length ∧ W1 = V1 ++ V2 ∧ V1.length = q ∧ (∀ v ∈ V2, ptV cs x < ptV cs v) ∧ t1 = [.sl 1 [] 1 0 N false, I a, I b, .fn 27 [] [.ref 0 [] 1 0 0], .junk, .junk, .junk, .junk, I (a + X1.length : Nat), I J, .junk, .junk, .junk, .junk, .junk, .junk, .junk, .junk, .junk, .junk, .junk, .junk, .junk, .junk, .junk, .junk, .junk, .junk, .junk, .junk, .junk, .junk, .junk, .junk, .junk, .junk, .junk, .junk, .junk, .junk, .junk, .junk, .junk, .junk, .junk, .junk, .junk, .junk, .junk, .junk, .junk, .junk, .junk] ∧ H1 = [⟨1, 41, 1, [[lCal cs]], 0⟩, ⟨2, 3, 1, (A ++ (V1 ++ x :: (V2 ++ (X3 ++ Z)))).map encI, 0⟩]) W1.length ?_ ?_
        · refine ⟨[.sl 1 [] 1 0 N false, I a, I b, .fn 27 [] [.ref 0 [] 1 0 0], .junk, .junk, .junk, .junk, I (a + X1.length : Nat), I (a + W1.length : Nat), .junk, .junk, .junk, .junk, .junk, .junk, .junk, .junk, .junk, .junk, .junk, .junk, .junk, .junk, .junk, .junk, .junk, .junk, .junk, .junk, .junk, .junk, .junk, .junk, .junk, .junk, .junk, .junk, .junk, .junk, .junk, .junk, .junk, .junk, .junk, .junk, .junk, .junk, .junk, .junk, .junk, .junk, .junk], _, ?_, W1, [], _, rfl, by simp, rfl, by simp, rfl, rfl⟩
          rw [hlW]
          exact Weak.cov (by (conv => whnf); (repeat (refine ⟨rfl, ?_⟩; (conv => whnf))); exact trivial)
        · rintro q' t1 H1 ⟨V1, V2, J, hJ, rfl, g2, g3, rfl, rfl⟩
          simp only [List.length_append] at hlW
          have w3 : IntKind.i64.wrap (((a + X1.length : Nat) : Int) + 1) = (a + (X1.length + 1) : Nat) := by rw [i64_nat (by omega)]; congr 1
          conv => whnf
          refine ⟨⟨false, [], [], []⟩, by kernel_rfl, ?_⟩; (conv => whnf)
          refine ⟨fun hc2 => ?_, fun hc2 => ?_⟩
          · have hv1 : 0 < V1.length := by simp at hc2; omega
            obtain ⟨V3, v, rfl⟩ : ∃ V3 v, V1 = V3 ++ [v] := ⟨V1.dropLast, V1.getLast (by intro e; subst e; simp at hv1), (List.dropLast_concat_getLast _).symm⟩
            simp only [List.length_append, List.length_cons, List.length_nil] at g2 hlW hv1 hJ
            have w2 : IntKind.i64.wrap ((J : Int) - 1) = (J - 1 : Nat) := by rw [i64_ok (by omega) (by omega)]; omega
            have e1 : A ++ (V3 ++ [v] ++ x :: (V2 ++ (X3 ++ Z))) = (A ++ V3 ++ [v]) ++ x :: (V2 ++ (X3 ++ Z)) := by simp
            have e2 : A ++ (V3 ++ [v] ++ x :: (V2 ++ (X3 ++ Z))) = (A ++ V3) ++ v :: (x :: (V2 ++ (X3 ++ Z))) := by simp
            have hv : 0 ≤ v ∧ v.toNat < cs.length := hrW v (by simp)
            (conv => whnf); (try (refine ⟨(rfl : (_ : Heap) = _), ?_⟩; (conv => whnf)))
            refine ⟨by omega, by omega, ?_⟩
            (conv => whnf); (try (refine ⟨(rfl : (_ : Heap) = _), ?_⟩; (conv => whnf)))
            refine ⟨_, by (rw [Nat.zero_add, Int.toNat_natCast, e1]; exact get_mid _ _ _ (by simp only [List.length_append, List.length_cons, List.length_nil]; omega)), Nat.le_of_ble_eq_true rfl, ?_⟩
            (conv => whnf); (try (refine ⟨(rfl : (_ : Heap) = _), ?_⟩; (conv => whnf)))
            rw [w2]
            refine ⟨by omega, by omega, ?_⟩
            (conv => whnf); (try (refine ⟨(rfl : (_ : Heap) = _), ?_⟩; (conv => whnf)))
            refine ⟨_, by (rw [Nat.zero_add, Int.toNat_natCast, e2]; exact get_mid _ _ _ (by simp only [List.length_append, List.length_cons, List.length_nil]; omega)), Nat.le_of_ble_eq_true rfl, ?_⟩
            (conv => whnf); (try (refine ⟨(rfl : (_ : Heap) = _), ?_⟩; (conv => whnf)))
            refine ⟨_, _, cmp_sound cs _ hx.1 hx.2 hv.1 hv.2, ?_⟩
            (conv => whnf); (try (refine ⟨(rfl : (_ : Heap) = _), ?_⟩; (conv => whnf)))
            refine ⟨fun hc3 => ?_, fun hc3 => ?_⟩
            · rw [cmp_lt] at hc3
              have hc3 : ptV cs x < ptV cs v := by simpa using hc3
              (conv => whnf); (try (refine ⟨(rfl : (_ : Heap) = _), ?_⟩; (conv => whnf)))
              refine ⟨⟨false, [], [], []⟩, by kernel_rfl, ?_⟩; (conv => whnf)
              rw [w2]
              refine ⟨by omega, by omega, ?_⟩
              (conv => whnf); (try (refine ⟨(rfl : (_ : Heap) = _), ?_⟩; (conv => whnf)))
              refine ⟨_, by (rw [Nat.zero_add, Int.toNat_natCast, e2]; exact get_mid _ _ _ (by simp only [List.length_append, List.length_cons, List.length_nil]; omega)), Nat.le_of_ble_eq_true rfl, ?_⟩
              (conv => whnf); (try (refine ⟨(rfl : (_ : Heap) = _), ?_⟩; (conv => whnf)))
              refine ⟨by omega, by omega, ?_⟩
              (conv => whnf); (try (refine ⟨(rfl : (_ : Heap) = _), ?_⟩; (conv => whnf)))
              refine ⟨_, by (rw [Nat.zero_add, Int.toNat_natCast, e1]; exact get_mid _ _ _ (by simp only [List.length_append, List.length_cons, List.length_nil]; omega)), Nat.le_of_ble_eq_true rfl, ?_⟩
              (conv => whnf); (try (refine ⟨(rfl : (_ : Heap) = _), ?_⟩; (conv => whnf)))
              refine ⟨by omega, by omega, ?_⟩
              (conv => whnf); (try (refine ⟨(rfl : (_ : Heap) = _), ?_⟩; (conv => whnf)))
              refine ⟨_, by (rw [Nat.zero_add, Int.toNat_natCast, e1]; exact get_mid _ _ _ (by simp only [List.length_append, List.length_cons, List.length_nil]; omega)), rfl, ?_⟩
              (conv => whnf); (try (refine ⟨(rfl : (_ : Heap) = _), ?_⟩; (conv => whnf)))
              have n1 : 0 + (J : Int).toNat = (A ++ V3 ++ [v]).length := by simp only [List.length_append, List.length_cons, List.length_nil]; omega
              rw [rset e1 n1]
              have e3 : (A ++ V3 ++ [v]) ++ v :: (V2 ++ (X3 ++ Z)) = (A ++ V3) ++ v :: (v :: (V2 ++ (X3 ++ Z))) := by simp
              have n2 : 0 + ((J - 1 : Nat) : Int).toNat = (A ++ V3).length := by simp only [List.length_append]; omega
              refine ⟨by omega, by omega, ?_⟩
              (conv => whnf); (try (refine ⟨(rfl : (_ : Heap) = _), ?_⟩; (conv => whnf)))
              refine ⟨_, by (rw [Nat.zero_add, Int.toNat_natCast, e3]; exact get_mid _ _ _ (by simp only [List.length_append, List.length_cons, List.length_nil]; omega)), rfl, ?_⟩
              (conv => whnf); (try (refine ⟨(rfl : (_ : Heap) = _), ?_⟩; (conv => whnf)))
              rw [rset e3 n2]
              have e4 : (A ++ V3) ++ x :: (v :: (V2 ++ (X3 ++ Z))) = A ++ (V3 ++ x :: ((v :: V2) ++ (X3 ++ Z))) := by simp
              (try rw [w2])
              rw [e4]
              refine .inl ⟨rfl, V3.length, [.sl 1 [] 1 0 N false, I a, I b, .fn 27 [] [.ref 0 [] 1 0 0], .junk, .junk, .junk, .junk, I (a + X1.length : Nat), I (J - 1 : Nat), .junk, .junk, .junk, .junk, .junk, .junk, .junk, .junk, .junk, .junk, .junk, .junk, .junk, .junk, .junk, .junk, .junk, .junk, .junk, .junk, .junk, .junk, .junk, .junk, .junk, .junk, .junk, .junk, .junk, .junk, .junk, .junk, .junk, .junk, .junk, .junk, .junk, .junk, .junk, .junk, .junk, .junk, .junk], _, by omega, Weak.cov (by (conv => whnf); (repeat (refine ⟨rfl, ?_⟩; (conv => whnf))); exact trivial), V3, v :: V2, J - 1, by omega, by simp, rfl, ?_, rfl, rfl⟩
              intro u hu
              rcases List.mem_cons.1 hu with rfl | hu
              · exact hc3
              · exact g3 u hu
            · rw [cmp_lt] at hc3
              have hc3 : ¬ ptV cs x < ptV cs v := by simpa using hc3
              (conv => whnf); (try (refine ⟨(rfl : (_ : Heap) = _), ?_⟩; (conv => whnf)))
              refine .inr ⟨by simp, ?_⟩
              conv => whnf
              rw [w3]
              have e5 : A ++ (V3 ++ [v] ++ x :: (V2 ++ (X3 ++ Z))) = A ++ ((V3 ++ [v] ++ x :: V2) ++ (X3 ++ Z)) := by simp
              rw [e5]
              refine .inl ⟨rfl, X3.length, [.sl 1 [] 1 0 N false, I a, I b, .fn 27 [] [.ref 0 [] 1 0 0], .junk, .junk, .junk, .junk, I (a + (X1.length + 1) : Nat), .junk, .junk, .junk, .junk, .junk, .junk, .junk, .junk, .junk, .junk, .junk, .junk, .junk, .junk, .junk, .junk, .junk, .junk, .junk, .junk, .junk, .junk, .junk, .junk, .junk, .junk, .junk, .junk, .junk, .junk, .junk, .junk, .junk, .junk, .junk, .junk, .junk, .junk, .junk, .junk, .junk, .junk, .junk, .junk], _, by omega, Weak.cov (by (conv => whnf); (repeat (refine ⟨rfl, ?_⟩; (conv => whnf))); exact trivial), V3 ++ [v] ++ x :: V2, X1 ++ [x], X3, by rw [h1]; simp, rfl, by simp, ins_ok h4 g3 ?_, ?_, by simp, rfl⟩
              · intro u hu
                have hvx : Le (ptV cs) v x := by
                  have := hsb v (by simp)
                  unfold Le; omega
                rcases List.mem_append.1 hu with hu | hu
                · have := (List.pairwise_append.1 (List.pairwise_append.1 h4).1).2.2 u hu v (by simp)
                  exact Le.trans this hvx
                · obtain rfl := List.mem_singleton.1 hu; exact hvx
              · refine List.perm_middle.trans ((h5.cons x).trans ?_)
                exact (List.perm_append_comm (l₁ := [x]) (l₂ := X1))
          · (conv => whnf); (try (refine ⟨(rfl : (_ : Heap) = _), ?_⟩; (conv => whnf)))
            have hv1 : V1 = [] := List.eq_nil_of_length_eq_zero (by simp at hc2; omega)
            subst hv1
            refine .inr ⟨by simp, ?_⟩
            conv => whnf
            rw [w3]
            refine .inl ⟨rfl, X3.length, [.sl 1 [] 1 0 N false, I a, I b, .fn 27 [] [.ref 0 [] 1 0 0], .junk, .junk, .junk, .junk, I (a + (X1.length + 1) : Nat), .junk, .junk, .junk, .junk, .junk, .junk, .junk, .junk, .junk, .junk, .junk, .junk, .junk, .junk, .junk, .junk, .junk, .junk, .junk, .junk, .junk, .junk, .junk, .junk, .junk, .junk, .junk, .junk, .junk, .junk, .junk, .junk, .junk, .junk, .junk, .junk, .junk, .junk, .junk, .junk, .junk, .junk, .junk, .junk], _, by omega, Weak.cov (by (conv => whnf); (repeat (refine ⟨rfl, ?_⟩; (conv => whnf))); exact trivial), x :: V2, X1 ++ [x], X3, by rw [h1]; simp, rfl, by simp, ins_ok h4 g3 (by simp), ?_, by simp, rfl⟩
            refine (h5.cons x).trans ?_
            exact (List.perm_append_comm (l₁ := [x]) (l₂ := X1))
      · have hx2 : X2 = [] := List.eq_nil_of_length_eq_zero (by simp at hc hlX; omega)
        subst hx2
        rw [List.append_nil] at h1
        obtain rfl : W1 = W := Sd.ext h4 hs (h5.trans (h1 ▸ hp.symm))
        (conv => whnf); (try (refine ⟨(rfl : (_ : Heap) = _), ?_⟩; (conv => whnf)))
        refine .inr ⟨by simp, ?_⟩
        conv => whnf
        exact ⟨.inr rfl, _, .refl _, rfl, rfl⟩
end Go.Srt

/- The stable sort, walked: the merge. -/
namespace Go.Srt
open Go.Ab Go.Proofs Go.Hy Go.Cal
set_option linter.unusedVariables false
set_option linter.unusedSimpArgs false
set_option maxRecDepth 100000
set_option maxHeartbeats 2000000

theorem drow {d : List Int} {k : Nat} (h : k < d.length) : (d.map encI)[k]? = some (encI (dat d k)) := by
  rw [List.getElem?_map, dat_get h, List.getElem?_eq_getElem h]; rfl

theorem u64_ok' {n : Int} (h : 0 ≤ n) (h' : n < 18446744073709551616) : IntKind.u64.wrap n = n := by
  simp only [IntKind.wrap, IntKind.signed, IntKind.bits, Bool.false_and, Bool.false_eq_true, if_false]
  omega
theorem half {i j : Nat} (h : i + j ≤ 4000000000) : IntKind.i64.wrap ((IntKind.u64.wrap (IntKind.i64.wrap ((i : Int) + (j : Int)))).fdiv (2 ^ min (Int.toNat 1) IntKind.u64.bits)) = ((i + j) / 2 : Nat) := by
  rw [i64_ok (n := (i : Int) + j) (by omega) (by omega), u64_ok' (by omega) (by omega)]
  have e : ((2 : Int) ^ min (Int.toNat 1) IntKind.u64.bits) = 2 := by decide
  rw [e, Int.fdiv_eq_ediv_of_nonneg _ (by decide), i64_ok (by omega) (by omega)]
  omega


theorem merge1_sound (cs : List Cal) (N : Nat) (A Y Z W : List Int) (x : Int) {a m b : Nat} (ea : a = A.length) (em : m = A.length + 1) (eb : b = A.length + 1 + Y.length) (hY : 0 < Y.length)
    (hN : N = (A ++ ([x] ++ (Y ++ Z))).length) (hb : N ≤ 1000000000) (hrx : 0 ≤ x ∧ x.toNat < cs.length) (hry : Rg cs.length Y) (sy : Sd (ptV cs) Y) (st : Stb (ptV cs) [x] Y)
    (hs : Sd (ptV cs) W) (hp : W.Perm ([x] ++ Y)) : SoundAt Tryz.prog 55 [⟨1, 41, 1, [[lCal cs]], 0⟩, ⟨2, 3, 1, (A ++ ([x] ++ (Y ++ Z))).map encI, 0⟩] [.sl 1 [] 1 0 N false, I a, I m, I b, .fn 27 [] [.ref 0 [] 1 0 0]] (.tup []) [⟨1, 41, 1, [[lCal cs]], 0⟩, ⟨2, 3, 1, (A ++ (W ++ Z)).map encI, 0⟩] := by
  have hN' := hN
  simp only [List.length_append, List.length_cons, List.length_nil] at hN
  have w1 : IntKind.i64.wrap ((m : Int) - (a : Int)) = 1 := by rw [i64_ok (by omega) (by omega)]; omega
  obtain ⟨t, -, t1, t2, t3⟩ := thr (fun c => ptV cs (dat Y c) < ptV cs x) 0 Y.length fun c c' _ h2 h3 h4 => by
    have := (sy.dat (i := c) (j := c') (by omega) (by omega)).le
    omega
  rw [Nat.zero_add] at t1 t3
  have key := one_ahead (pt := ptV cs) sy st t (fun k h _ => t2 k (by omega) h) (fun k h h' => t3 k h h')
  obtain rfl : W = Y.take t ++ x :: Y.drop t := Sd.ext hs key.1 (hp.trans key.2.symm)
  have rd : ∀ h, m ≤ h → h < b → ((A ++ ([x] ++ (Y ++ Z))).map encI)[h]? = some (encI (dat Y (h - m))) := fun h h1 h2 => by
    rw [drow (by omega), mid_dat' (by simp; omega) (by simp; omega)]
    have e : h - A.length - [x].length = h - m := by simp; omega
    rw [e]
  refine SoundAt.of_wpA (fn := Tryz.f55) Tryz.func55 rfl ?_
  conv => whnf
  refine ⟨fun _ => ?_, fun h => absurd h (by rw [w1]; decide)⟩
  (conv => whnf); (try (refine ⟨(rfl : (_ : Heap) = _), ?_⟩; (conv => whnf)))
  refine Loops.inv (fun q s1 H1 => ∃ (i j : Nat), j - i = q ∧ m ≤ i ∧ i ≤ m + t ∧ m + t ≤ j ∧ j ≤ b ∧ s1 = [.sl 1 [] 1 0 N false, I a, I m, I b, .fn 27 [] [.ref 0 [] 1 0 0], .junk, .junk, .junk, .junk, .junk, I i, I j, .junk, .junk, .junk, .junk, .junk, .junk, .junk, .junk, .junk, .junk, .junk, .junk, .junk, .junk, .junk, .junk, .junk, .junk, .junk, .junk, .junk, .junk, .junk, .junk, .junk, .junk, .junk, .junk, .junk, .junk, .junk, .junk, .junk, .junk, .junk, .junk, .junk, .junk, .junk, .junk, .junk, .junk, .junk, .junk, .junk, .junk, .junk, .junk, .junk, .junk, .junk, .junk, .junk, .junk, .junk, .junk, .junk, .junk, .junk, .junk, .junk, .junk, .junk, .junk, .junk, .junk, .junk, .junk, .junk, .junk, .junk, .junk, .junk, .junk, .junk, .junk, .junk, .junk, .junk, .junk, .junk, .junk, .junk, .junk, .junk, .junk, .junk, .junk, .junk, .junk, .junk, .junk, .junk, .junk, .junk, .junk, .junk, .junk, .junk, .junk, .junk, .junk, .junk, .junk, .junk, .junk, .junk, .junk, .junk, .junk, .junk, .junk, .junk, .junk, .junk, .junk, .junk, .junk, .junk, .junk, .junk, .junk, .junk, .junk, .junk, .junk, .junk, .junk, .junk, .junk, .junk, .junk, .junk, .junk, .junk, .junk, .junk, .junk, .junk, .junk, .junk, .junk, .junk, .junk, .junk, .junk, .junk, .junk, .junk, .junk, .junk, .junk, .junk, .junk, .junk, .junk, .junk, .junk, .junk, .junk, .junk, .junk, .junk, .junk, .junk, .junk, .junk, .junk, .junk, .junk, .junk, .junk, .junk, .junk, .junk, .junk, .junk, .junk, .junk, .junk, .junk, .junk, .junk, .junk, .junk, .junk, .junk, .junk, .junk, .junk, .junk, .junk, .junk, .junk, .junk, .junk, .junk, .junk, .junk, .junk, .junk, .junk, .junk, .junk, .junk, .junk, .junk, .junk] ∧ H1 = [⟨1, 41, 1, [[lCal cs]], 0⟩, ⟨2, 3, 1, (A ++ ([x] ++ (Y ++ Z))).map encI, 0⟩]) (b - m) ?_ ?_
  · exact ⟨[.sl 1 [] 1 0 N false, I a, I m, I b, .fn 27 [] [.ref 0 [] 1 0 0], .junk, .junk, .junk, .junk, .junk, I m, I b, .junk, .junk, .junk, .junk, .junk, .junk, .junk, .junk, .junk, .junk, .junk, .junk, .junk, .junk, .junk, .junk, .junk, .junk, .junk, .junk, .junk, .junk, .junk, .junk, .junk, .junk, .junk, .junk, .junk, .junk, .junk, .junk, .junk, .junk, .junk, .junk, .junk, .junk, .junk, .junk, .junk, .junk, .junk, .junk, .junk, .junk, .junk, .junk, .junk, .junk, .junk, .junk, .junk, .junk, .junk, .junk, .junk, .junk, .junk, .junk, .junk, .junk, .junk, .junk, .junk, .junk, .junk, .junk, .junk, .junk, .junk, .junk, .junk, .junk, .junk, .junk, .junk, .junk, .junk, .junk, .junk, .junk, .junk, .junk, .junk, .junk, .junk, .junk, .junk, .junk, .junk, .junk, .junk, .junk, .junk, .junk, .junk, .junk, .junk, .junk, .junk, .junk, .junk, .junk, .junk, .junk, .junk, .junk, .junk, .junk, .junk, .junk, .junk, .junk, .junk, .junk, .junk, .junk, .junk, .junk, .junk, .junk, .junk, .junk, .junk, .junk, .junk, .junk, .junk, .junk, .junk, .junk, .junk, .junk, .junk, .junk, .junk, .junk, .junk, .junk, .junk, .junk, .junk, .junk, .junk, .junk, .junk, .junk, .junk, .junk, .junk, .junk, .junk, .junk, .junk, .junk, .junk, .junk, .junk, .junk, .junk, .junk, .junk, .junk, .junk, .junk, .junk, .junk, .junk, .junk, .junk, .junk, .junk, .junk, .junk, .junk, .junk, .junk, .junk, .junk, .junk, .junk, .junk, .junk, .junk, .junk, .junk, .junk, .junk, .junk, .junk, .junk, .junk, .junk, .junk, .junk, .junk, .junk, .junk, .junk, .junk, .junk, .junk, .junk, .junk, .junk, .junk, .junk], _, Weak.cov (by (conv => whnf); (repeat (refine ⟨rfl, ?_⟩; (conv => whnf))); exact trivial), m, b, rfl, by omega, by omega, by omega, by omega, rfl, rfl⟩
  · rintro q s1 H1 ⟨i, j, h1, h2, h3, h4, h5, rfl, rfl⟩
    conv => whnf
    refine ⟨fun hc => ?_, fun hc => ?_⟩
    · have hc : i < j := by simpa using hc
      (conv => whnf); (try (refine ⟨(rfl : (_ : Heap) = _), ?_⟩; (conv => whnf)))
      refine ⟨⟨false, [], [], []⟩, by kernel_rfl, ?_⟩; (conv => whnf)
      rw [half (by omega)]
      obtain ⟨h, hh⟩ : ∃ h, h = (i + j) / 2 := ⟨_, rfl⟩
      rw [← hh]
      refine ⟨by omega, by omega, ?_⟩
      (conv => whnf); (try (refine ⟨(rfl : (_ : Heap) = _), ?_⟩; (conv => whnf)))
      refine ⟨_, by rw [Nat.zero_add, Int.toNat_natCast]; exact rd h (by omega) (by omega), Nat.le_of_ble_eq_true rfl, ?_⟩
      (conv => whnf); (try (refine ⟨(rfl : (_ : Heap) = _), ?_⟩; (conv => whnf)))
      refine ⟨by omega, by omega, ?_⟩
      (conv => whnf); (try (refine ⟨(rfl : (_ : Heap) = _), ?_⟩; (conv => whnf)))
      refine ⟨_, by rw [Nat.zero_add, Int.toNat_natCast]; exact get_mid A x (Y ++ Z) ea, Nat.le_of_ble_eq_true rfl, ?_⟩
      (conv => whnf); (try (refine ⟨(rfl : (_ : Heap) = _), ?_⟩; (conv => whnf)))
      have hv := hry (dat Y (h - m)) (dat_mem (by omega))
      refine ⟨_, _, cmp_sound cs _ hv.1 hv.2 hrx.1 hrx.2, ?_⟩
      (conv => whnf); (try (refine ⟨(rfl : (_ : Heap) = _), ?_⟩; (conv => whnf)))
      refine ⟨fun hc3 => ?_, fun hc3 => ?_⟩
      · rw [cmp_lt] at hc3
        have hc3 : ptV cs (dat Y (h - m)) < ptV cs x := by simpa using hc3
        have hlt : h < m + t := by
          rcases Nat.lt_or_ge h (m + t) with g | g
          · exact g
          · exact absurd hc3 (t3 (h - m) (by omega) (by omega))
        (conv => whnf); (try (refine ⟨(rfl : (_ : Heap) = _), ?_⟩; (conv => whnf)))
        rw [i64_nat (by omega)]
        exact .inl ⟨rfl, j - (h + 1), [.sl 1 [] 1 0 N false, I a, I m, I b, .fn 27 [] [.ref 0 [] 1 0 0], .junk, .junk, .junk, .junk, .junk, I (h + 1 : Nat), I j, .junk, .junk, .junk, .junk, .junk, .junk, .junk, .junk, .junk, .junk, .junk, .junk, .junk, .junk, .junk, .junk, .junk, .junk, .junk, .junk, .junk, .junk, .junk, .junk, .junk, .junk, .junk, .junk, .junk, .junk, .junk, .junk, .junk, .junk, .junk, .junk, .junk, .junk, .junk, .junk, .junk, .junk, .junk, .junk, .junk, .junk, .junk, .junk, .junk, .junk, .junk, .junk, .junk, .junk, .junk, .junk, .junk, .junk, .junk, .junk, .junk, .junk, .junk, .junk, .junk, .junk, .junk, .junk, .junk, .junk, .junk, .junk, .junk, .junk, .junk, .junk, .junk, .junk, .junk, .junk, .junk, .junk, .junk, .junk, .junk, .junk, .junk, .junk, .junk, .junk, .junk, .junk, .junk, .junk, .junk, .junk, .junk, .junk, .junk, .junk, .junk, .junk, .junk, .junk, .junk, .junk, .junk, .junk, .junk, .junk, .junk, .junk, .junk, .junk, .junk, .junk, .junk, .junk, .junk, .junk, .junk, .junk, .junk, .junk, .junk, .junk, .junk, .junk, .junk, .junk, .junk, .junk, .junk, .junk, .junk, .junk, .junk, .junk, .junk, .junk, .junk, .junk, .junk, .junk, .junk, .junk, .junk, .junk, .junk, .junk, .junk, .junk, .junk, .junk, .junk, .junk, .junk, .junk, .junk, .junk, .junk, .junk, .junk, .junk, .junk, .junk, .junk, .junk, .junk, .junk, .junk, .junk, .junk, .junk, .junk, .junk, .junk, .junk, .junk, .junk, .junk, .junk, .junk, .junk, .junk, .junk, .junk, .junk, .junk, .junk, .junk, .junk, .junk, .junk, .junk, .junk, .junk, .junk, .junk, .junk, .junk, .junk, .junk, .junk, .junk, .junk, .junk, .junk], _, by omega, Weak.cov (by (conv => whnf); (repeat (refine ⟨rfl, ?_⟩; (conv => whnf))); exact trivial), h + 1, j, rfl, by omega, by omega, by omega, by omega, rfl, rfl⟩
      · rw [cmp_lt] at hc3
        have hc3 : ¬ ptV cs (dat Y (h - m)) < ptV cs x := by simpa using hc3
        have hlt : m + t ≤ h := by
          rcases Nat.lt_or_ge h (m + t) with g | g
          · exact absurd (t2 (h - m) (by omega) (by omega)) hc3
          · exact g
        (conv => whnf); (try (refine ⟨(rfl : (_ : Heap) = _), ?_⟩; (conv => whnf)))
        exact .inl ⟨rfl, h - i, [.sl 1 [] 1 0 N false, I a, I m, I b, .fn 27 [] [.ref 0 [] 1 0 0], .junk, .junk, .junk, .junk, .junk, I i, I h, .junk, .junk, .junk, .junk, .junk, .junk, .junk, .junk, .junk, .junk, .junk, .junk, .junk, .junk, .junk, .junk, .junk, .junk, .junk, .junk, .junk, .junk, .junk, .junk, .junk, .junk, .junk, .junk, .junk, .junk, .junk, .junk, .junk, .junk, .junk, .junk, .junk, .junk, .junk, .junk, .junk, .junk, .junk, .junk, .junk, .junk, .junk, .junk, .junk, .junk, .junk, .junk, .junk, .junk, .junk, .junk, .junk, .junk, .junk, .junk, .junk, .junk, .junk, .junk, .junk, .junk, .junk, .junk, .junk, .junk, .junk, .junk, .junk, .junk, .junk, .junk, .junk, .junk, .junk, .junk, .junk, .junk, .junk, .junk, .junk, .junk, .junk, .junk, .junk, .junk, .junk, .junk, .junk, .junk, .junk, .junk, .junk, .junk, .junk, .junk, .junk, .junk, .junk, .junk, .junk, .junk, .junk, .junk, .junk, .junk, .junk, .junk, .junk, .junk, .junk, .junk, .junk, .junk, .junk, .junk, .junk, .junk, .junk, .junk, .junk, .junk, .junk, .junk, .junk, .junk, .junk, .junk, .junk, .junk, .junk, .junk, .junk, .junk, .junk, .junk, .junk, .junk, .junk, .junk, .junk, .junk, .junk, .junk, .junk, .junk, .junk, .junk, .junk, .junk, .junk, .junk, .junk, .junk, .junk, .junk, .junk, .junk, .junk, .junk, .junk, .junk, .junk, .junk, .junk, .junk, .junk, .junk, .junk, .junk, .junk, .junk, .junk, .junk, .junk, .junk, .junk, .junk, .junk, .junk, .junk, .junk, .junk, .junk, .junk, .junk, .junk, .junk, .junk, .junk, .junk, .junk, .junk, .junk, .junk, .junk, .junk, .junk, .junk, .junk, .junk, .junk, .junk, .junk], _, by omega, Weak.cov (by (conv => whnf); (repeat (refine ⟨rfl, ?_⟩; (conv => whnf))); exact trivial), i, h, rfl, by omega, by omega, by omega, by omega, rfl, rfl⟩
    · have hc : i = m + t := by simp at hc; omega
      subst hc
      (conv => whnf); (try (refine ⟨(rfl : (_ : Heap) = _), ?_⟩; (conv => whnf)))
      refine .inr ⟨by simp, ?_⟩
      conv => whnf
      refine Loops.inv (fun q s1 H1 => ∃ (k : Nat) (Y1 Y2 : List Int), k = a + Y1.length ∧ t - Y1.length = q ∧ Y1.length ≤ t ∧ Y = Y1 ++ Y2 ∧ s1 = [.sl 1 [] 1 0 N false, I a, I m, I b, .fn 27 [] [.ref 0 [] 1 0 0], .junk, .junk, .junk, .junk, .junk, I (m + t : Nat), .junk, .junk, I k, .junk, .junk, .junk, .junk, .junk, .junk, .junk, .junk, .junk, .junk, .junk, .junk, .junk, .junk, .junk, .junk, .junk, .junk, .junk, .junk, .junk, .junk, .junk, .junk, .junk, .junk, .junk, .junk, .junk, .junk, .junk, .junk, .junk, .junk, .junk, .junk, .junk, .junk, .junk, .junk, .junk, .junk, .junk, .junk, .junk, .junk, .junk, .junk, .junk, .junk, .junk, .junk, .junk, .junk, .junk, .junk, .junk, .junk, .junk, .junk, .junk, .junk, .junk, .junk, .junk, .junk, .junk, .junk, .junk, .junk, .junk, .junk, .junk, .junk, .junk, .junk, .junk, .junk, .junk, .junk, .junk, .junk, .junk, .junk, .junk, .junk, .junk, .junk, .junk, .junk, .junk, .junk, .junk, .junk, .junk, .junk, .junk, .junk, .junk, .junk, .junk, .junk, .junk, .junk, .junk, .junk, .junk, .junk, .junk, .junk, .junk, .junk, .junk, .junk, .junk, .junk, .junk, .junk, .junk, .junk, .junk, .junk, .junk, .junk, .junk, .junk, .junk, .junk, .junk, .junk, .junk, .junk, .junk, .junk, .junk, .junk, .junk, .junk, .junk, .junk, .junk, .junk, .junk, .junk, .junk, .junk, .junk, .junk, .junk, .junk, .junk, .junk, .junk, .junk, .junk, .junk, .junk, .junk, .junk, .junk, .junk, .junk, .junk, .junk, .junk, .junk, .junk, .junk, .junk, .junk, .junk, .junk, .junk, .junk, .junk, .junk, .junk, .junk, .junk, .junk, .junk, .junk, .junk, .junk, .junk, .junk, .junk, .junk, .junk, .junk, .junk, .junk, .junk, .junk, .junk, .junk, .junk, .junk, .junk, .junk, .junk, .junk, .junk, .junk, .junk, .junk] ∧ H1 = [⟨1, 41, 1, [[lCal cs]], 0⟩, ⟨2, 3, 1, (A ++ (Y1 ++ x :: (Y2 ++ Z))).map encI, 0⟩]) t ?_ ?_
      · exact ⟨[.sl 1 [] 1 0 N false, I a, I m, I b, .fn 27 [] [.ref 0 [] 1 0 0], .junk, .junk, .junk, .junk, .junk, I (m + t : Nat), .junk, .junk, I a, .junk, .junk, .junk, .junk, .junk, .junk, .junk, .junk, .junk, .junk, .junk, .junk, .junk, .junk, .junk, .junk, .junk, .junk, .junk, .junk, .junk, .junk, .junk, .junk, .junk, .junk, .junk, .junk, .junk, .junk, .junk, .junk, .junk, .junk, .junk, .junk, .junk, .junk, .junk, .junk, .junk, .junk, .junk, .junk, .junk, .junk, .junk, .junk, .junk, .junk, .junk, .junk, .junk, .junk, .junk, .junk, .junk, .junk, .junk, .junk, .junk, .junk, .junk, .junk, .junk, .junk, .junk, .junk, .junk, .junk, .junk, .junk, .junk, .junk, .junk, .junk, .junk, .junk, .junk, .junk, .junk, .junk, .junk, .junk, .junk, .junk, .junk, .junk, .junk, .junk, .junk, .junk, .junk, .junk, .junk, .junk, .junk, .junk, .junk, .junk, .junk, .junk, .junk, .junk, .junk, .junk, .junk, .junk, .junk, .junk, .junk, .junk, .junk, .junk, .junk, .junk, .junk, .junk, .junk, .junk, .junk, .junk, .junk, .junk, .junk, .junk, .junk, .junk, .junk, .junk, .junk, .junk, .junk, .junk, .junk, .junk, .junk, .junk, .junk, .junk, .junk, .junk, .junk, .junk, .junk, .junk, .junk, .junk, .junk, .junk, .junk, .junk, .junk, .junk, .junk, .junk, .junk, .junk, .junk, .junk, .junk, .junk, .junk, .junk, .junk, .junk, .junk, .junk, .junk, .junk, .junk, .junk, .junk, .junk, .junk, .junk, .junk, .junk, .junk, .junk, .junk, .junk, .junk, .junk, .junk, .junk, .junk, .junk, .junk, .junk, .junk, .junk, .junk, .junk, .junk, .junk, .junk, .junk, .junk, .junk, .junk, .junk, .junk, .junk, .junk, .junk], _, Weak.cov (by (conv => whnf); (repeat (refine ⟨rfl, ?_⟩; (conv => whnf))); exact trivial), a, [], Y, rfl, rfl, by simp, rfl, rfl, rfl⟩
      · rintro q s1 H1 ⟨k, Y1, Y2, h1, h2, h3, rfl, rfl, rfl⟩
        simp only [List.length_append] at hN eb t1 hY
        have w2 : IntKind.i64.wrap (((m + t : Nat) : Int) - 1) = (a + t : Nat) := by rw [i64_ok (by omega) (by omega)]; omega
        conv => whnf
        rw [w2]
        refine ⟨fun hc => ?_, fun hc => ?_⟩
        · have hc : k < a + t := by simp at hc; omega
          obtain ⟨y, Y3, rfl⟩ : ∃ x Q, Y2 = x :: Q := by cases Y2 with | nil => simp at t1; omega | cons x Q => exact ⟨x, Q, rfl⟩
          simp only [List.length_cons] at hN eb t1
          have w3 : IntKind.i64.wrap ((k : Int) + 1) = (k + 1 : Nat) := i64_nat (by omega)
          have e1 : A ++ (Y1 ++ x :: (y :: Y3 ++ Z)) = (A ++ Y1 ++ [x]) ++ y :: (Y3 ++ Z) := by simp
          have e2 : A ++ (Y1 ++ x :: (y :: Y3 ++ Z)) = (A ++ Y1) ++ x :: (y :: (Y3 ++ Z)) := by simp
          (conv => whnf); (try (refine ⟨(rfl : (_ : Heap) = _), ?_⟩; (conv => whnf)))
          refine ⟨⟨false, [], [], []⟩, by kernel_rfl, ?_⟩; (conv => whnf)
          rw [w3]
          refine ⟨by omega, by omega, ?_⟩
          (conv => whnf); (try (refine ⟨(rfl : (_ : Heap) = _), ?_⟩; (conv => whnf)))
          refine ⟨_, by (rw [Nat.zero_add, Int.toNat_natCast, e1]; exact get_mid _ _ _ (by simp only [List.length_append, List.length_cons, List.length_nil]; omega)), Nat.le_of_ble_eq_true rfl, ?_⟩
          (conv => whnf); (try (refine ⟨(rfl : (_ : Heap) = _), ?_⟩; (conv => whnf)))
          refine ⟨by omega, by omega, ?_⟩
          (conv => whnf); (try (refine ⟨(rfl : (_ : Heap) = _), ?_⟩; (conv => whnf)))
          refine ⟨_, by (rw [Nat.zero_add, Int.toNat_natCast, e2]; exact get_mid _ _ _ (by simp only [List.length_append, List.length_cons, List.length_nil]; omega)), Nat.le_of_ble_eq_true rfl, ?_⟩
          (conv => whnf); (try (refine ⟨(rfl : (_ : Heap) = _), ?_⟩; (conv => whnf)))
          refine ⟨by omega, by omega, ?_⟩
          (conv => whnf); (try (refine ⟨(rfl : (_ : Heap) = _), ?_⟩; (conv => whnf)))
          refine ⟨_, by (rw [Nat.zero_add, Int.toNat_natCast, e2]; exact get_mid _ _ _ (by simp only [List.length_append, List.length_cons, List.length_nil]; omega)), rfl, ?_⟩
          (conv => whnf); (try (refine ⟨(rfl : (_ : Heap) = _), ?_⟩; (conv => whnf)))
          have n1 : 0 + (k : Int).toNat = (A ++ Y1).length := by simp only [List.length_append]; omega
          rw [rset e2 n1]
          have e3 : (A ++ Y1) ++ y :: (y :: (Y3 ++ Z)) = (A ++ Y1 ++ [y]) ++ y :: (Y3 ++ Z) := by simp
          have n2 : 0 + ((k + 1 : Nat) : Int).toNat = (A ++ Y1 ++ [y]).length := by simp only [List.length_append, List.length_cons, List.length_nil]; omega
          refine ⟨by omega, by omega, ?_⟩
          (conv => whnf); (try (refine ⟨(rfl : (_ : Heap) = _), ?_⟩; (conv => whnf)))
          refine ⟨_, by (rw [Nat.zero_add, Int.toNat_natCast, e3]; exact get_mid _ _ _ (by simp only [List.length_append, List.length_cons, List.length_nil]; omega)), rfl, ?_⟩
          (conv => whnf); (try (refine ⟨(rfl : (_ : Heap) = _), ?_⟩; (conv => whnf)))
          rw [rset e3 n2]
          have e4 : (A ++ Y1 ++ [y]) ++ x :: (Y3 ++ Z) = A ++ ((Y1 ++ [y]) ++ x :: (Y3 ++ Z)) := by simp
          (try rw [w3])
          rw [e4]
          exact .inl ⟨rfl, t - (Y1.length + 1), [.sl 1 [] 1 0 N false, I a, I m, I b, .fn 27 [] [.ref 0 [] 1 0 0], .junk, .junk, .junk, .junk, .junk, I (m + t : Nat), .junk, .junk, I (k + 1 : Nat), .junk, .junk, .junk, .junk, .junk, .junk, .junk, .junk, .junk, .junk, .junk, .junk, .junk, .junk, .junk, .junk, .junk, .junk, .junk, .junk, .junk, .junk, .junk, .junk, .junk, .junk, .junk, .junk, .junk, .junk, .junk, .junk, .junk, .junk, .junk, .junk, .junk, .junk, .junk, .junk, .junk, .junk, .junk, .junk, .junk, .junk, .junk, .junk, .junk, .junk, .junk, .junk, .junk, .junk, .junk, .junk, .junk, .junk, .junk, .junk, .junk, .junk, .junk, .junk, .junk, .junk, .junk, .junk, .junk, .junk, .junk, .junk, .junk, .junk, .junk, .junk, .junk, .junk, .junk, .junk, .junk, .junk, .junk, .junk, .junk, .junk, .junk, .junk, .junk, .junk, .junk, .junk, .junk, .junk, .junk, .junk, .junk, .junk, .junk, .junk, .junk, .junk, .junk, .junk, .junk, .junk, .junk, .junk, .junk, .junk, .junk, .junk, .junk, .junk, .junk, .junk, .junk, .junk, .junk, .junk, .junk, .junk, .junk, .junk, .junk, .junk, .junk, .junk, .junk, .junk, .junk, .junk, .junk, .junk, .junk, .junk, .junk, .junk, .junk, .junk, .junk, .junk, .junk, .junk, .junk, .junk, .junk, .junk, .junk, .junk, .junk, .junk, .junk, .junk, .junk, .junk, .junk, .junk, .junk, .junk, .junk, .junk, .junk, .junk, .junk, .junk, .junk, .junk, .junk, .junk, .junk, .junk, .junk, .junk, .junk, .junk, .junk, .junk, .junk, .junk, .junk, .junk, .junk, .junk, .junk, .junk, .junk, .junk, .junk, .junk, .junk, .junk, .junk, .junk, .junk, .junk, .junk, .junk, .junk, .junk, .junk, .junk, .junk, .junk, .junk, .junk], _, by omega, Weak.cov (by (conv => whnf); (repeat (refine ⟨rfl, ?_⟩; (conv => whnf))); exact trivial), k + 1, Y1 ++ [y], Y3, by simp; omega, by simp, by simp; omega, by simp, rfl, rfl⟩
        · have hk : Y1.length = t := by simp at hc; omega
          subst hk
          (conv => whnf); (try (refine ⟨(rfl : (_ : Heap) = _), ?_⟩; (conv => whnf)))
          refine .inr ⟨by simp, ?_⟩
          conv => whnf
          refine ⟨.inl rfl, _, .refl _, ?_, rfl⟩
          rw [List.take_left, List.drop_left, List.append_assoc]; rfl

theorem merge2_sound (cs : List Cal) (N : Nat) (A X Z W : List Int) (y : Int) {a m b : Nat} (ea : a = A.length) (em : m = A.length + X.length) (eb : b = A.length + X.length + 1) (hX : 1 < X.length)
    (hN : N = (A ++ (X ++ ([y] ++ Z))).length) (hb : N ≤ 1000000000) (hry : 0 ≤ y ∧ y.toNat < cs.length) (hrx : Rg cs.length X) (sx : Sd (ptV cs) X) (st : Stb (ptV cs) X [y])
    (hs : Sd (ptV cs) W) (hp : W.Perm (X ++ [y])) : SoundAt Tryz.prog 55 [⟨1, 41, 1, [[lCal cs]], 0⟩, ⟨2, 3, 1, (A ++ (X ++ ([y] ++ Z))).map encI, 0⟩] [.sl 1 [] 1 0 N false, I a, I m, I b, .fn 27 [] [.ref 0 [] 1 0 0]] (.tup []) [⟨1, 41, 1, [[lCal cs]], 0⟩, ⟨2, 3, 1, (A ++ (W ++ Z)).map encI, 0⟩] := by
  have hN' := hN
  simp only [List.length_append, List.length_cons, List.length_nil] at hN
  have w1 : IntKind.i64.wrap ((m : Int) - (a : Int)) = (X.length : Nat) := by rw [i64_ok (by omega) (by omega)]; omega
  have w0 : IntKind.i64.wrap ((b : Int) - (m : Int)) = 1 := by rw [i64_ok (by omega) (by omega)]; omega
  obtain ⟨t, -, t1, t2, t3⟩ := thr (fun c => ¬ ptV cs y < ptV cs (dat X c)) 0 X.length fun c c' _ h2 h3 h4 => by
    have := (sx.dat (i := c) (j := c') (by omega) (by omega)).le
    omega
  rw [Nat.zero_add] at t1 t3
  have t3 : ∀ c, t ≤ c → c < X.length → ptV cs y < ptV cs (dat X c) := fun c h h' => Decidable.not_not.1 (t3 c h h')
  have key := one_behind (pt := ptV cs) sx st t (fun k h _ => t2 k (by omega) h) (fun k h h' => t3 k h h')
  obtain rfl : W = X.take t ++ y :: X.drop t := Sd.ext hs key.1 (hp.trans key.2.symm)
  have rd : ∀ h, a ≤ h → h < m → ((A ++ (X ++ ([y] ++ Z))).map encI)[h]? = some (encI (dat X (h - a))) := fun h h1 h2 => by
    rw [drow (by omega), mid_dat (by omega) (by omega), ea]
  have e0 : A ++ (X ++ ([y] ++ Z)) = (A ++ X) ++ y :: Z := by simp
  refine SoundAt.of_wpA (fn := Tryz.f55) Tryz.func55 rfl ?_
  conv => whnf
  refine ⟨fun h => absurd h (by rw [w1]; simp; omega), fun _ => ?_⟩
  (conv => whnf); (try (refine ⟨(rfl : (_ : Heap) = _), ?_⟩; (conv => whnf)))
  refine ⟨fun _ => ?_, fun h => absurd h (by rw [w0]; decide)⟩
  (conv => whnf); (try (refine ⟨(rfl : (_ : Heap) = _), ?_⟩; (conv => whnf)))
  refine Loops.inv (fun q s1 H1 => ∃ (i j : Nat), j - i = q ∧ a ≤ i ∧ i ≤ a + t ∧ a + t ≤ j ∧ j ≤ m ∧ s1 = [.sl 1 [] 1 0 N false, I a, I m, I b, .fn 27 [] [.ref 0 [] 1 0 0], .junk, .junk, .junk, .junk, .junk, .junk, .junk, .junk, .junk, I i, I j, .junk, .junk, .junk, .junk, .junk, .junk, .junk, .junk, .junk, .junk, .junk, .junk, .junk, .junk, .junk, .junk, .junk, .junk, .junk, .junk, .junk, .junk, .junk, .junk, .junk, .junk, .junk, .junk, .junk, .junk, .junk, .junk, .junk, .junk, .junk, .junk, .junk, .junk, .junk, .junk, .junk, .junk, .junk, .junk, .junk, .junk, .junk, .junk, .junk, .junk, .junk, .junk, .junk, .junk, .junk, .junk, .junk, .junk, .junk, .junk, .junk, .junk, .junk, .junk, .junk, .junk, .junk, .junk, .junk, .junk, .junk, .junk, .junk, .junk, .junk, .junk, .junk, .junk, .junk, .junk, .junk, .junk, .junk, .junk, .junk, .junk, .junk, .junk, .junk, .junk, .junk, .junk, .junk, .junk, .junk, .junk, .junk, .junk, .junk, .junk, .junk, .junk, .junk, .junk, .junk, .junk, .junk, .junk, .junk, .junk, .junk, .junk, .junk, .junk, .junk, .junk, .junk, .junk, .junk, .junk, .junk, .junk, .junk, .junk, .junk, .junk, .junk, .junk, .junk, .junk, .junk, .junk, .junk, .junk, .junk, .junk, .junk, .junk, .junk, .junk, .junk, .junk, .junk, .junk, .junk, .junk, .junk, .junk, .junk, .junk, .junk, .junk, .junk, .junk, .junk, .junk, .junk, .junk, .junk, .junk, .junk, .junk, .junk, .junk, .junk, .junk, .junk, .junk, .junk, .junk, .junk, .junk, .junk, .junk, .junk, .junk, .junk, .junk, .junk, .junk, .junk, .junk, .junk, .junk, .junk, .junk, .junk, .junk, .junk, .junk, .junk, .junk, .junk, .junk, .junk, .junk, .junk, .junk, .junk, .junk, .junk, .junk, .junk, .junk] ∧ H1 = [⟨1, 41, 1, [[lCal cs]], 0⟩, ⟨2, 3, 1, (A ++ (X ++ ([y] ++ Z))).map encI, 0⟩]) (m - a) ?_ ?_
  · exact ⟨[.sl 1 [] 1 0 N false, I a, I m, I b, .fn 27 [] [.ref 0 [] 1 0 0], .junk, .junk, .junk, .junk, .junk, .junk, .junk, .junk, .junk, I a, I m, .junk, .junk, .junk, .junk, .junk, .junk, .junk, .junk, .junk, .junk, .junk, .junk, .junk, .junk, .junk, .junk, .junk, .junk, .junk, .junk, .junk, .junk, .junk, .junk, .junk, .junk, .junk, .junk, .junk, .junk, .junk, .junk, .junk, .junk, .junk, .junk, .junk, .junk, .junk, .junk, .junk, .junk, .junk, .junk, .junk, .junk, .junk, .junk, .junk, .junk, .junk, .junk, .junk, .junk, .junk, .junk, .junk, .junk, .junk, .junk, .junk, .junk, .junk, .junk, .junk, .junk, .junk, .junk, .junk, .junk, .junk, .junk, .junk, .junk, .junk, .junk, .junk, .junk, .junk, .junk, .junk, .junk, .junk, .junk, .junk, .junk, .junk, .junk, .junk, .junk, .junk, .junk, .junk, .junk, .junk, .junk, .junk, .junk, .junk, .junk, .junk, .junk, .junk, .junk, .junk, .junk, .junk, .junk, .junk, .junk, .junk, .junk, .junk, .junk, .junk, .junk, .junk, .junk, .junk, .junk, .junk, .junk, .junk, .junk, .junk, .junk, .junk, .junk, .junk, .junk, .junk, .junk, .junk, .junk, .junk, .junk, .junk, .junk, .junk, .junk, .junk, .junk, .junk, .junk, .junk, .junk, .junk, .junk, .junk, .junk, .junk, .junk, .junk, .junk, .junk, .junk, .junk, .junk, .junk, .junk, .junk, .junk, .junk, .junk, .junk, .junk, .junk, .junk, .junk, .junk, .junk, .junk, .junk, .junk, .junk, .junk, .junk, .junk, .junk, .junk, .junk, .junk, .junk, .junk, .junk, .junk, .junk, .junk, .junk, .junk, .junk, .junk, .junk, .junk, .junk, .junk, .junk, .junk, .junk, .junk, .junk, .junk, .junk, .junk], _, Weak.cov (by (conv => whnf); (repeat (refine ⟨rfl, ?_⟩; (conv => whnf))); exact trivial), a, m, rfl, by omega, by omega, by omega, by omega, rfl, rfl⟩
  · rintro q s1 H1 ⟨i, j, h1, h2, h3, h4, h5, rfl, rfl⟩
    conv => whnf
    refine ⟨fun hc => ?_, fun hc => ?_⟩
    · have hc : i < j := by simpa using hc
      (conv => whnf); (try (refine ⟨(rfl : (_ : Heap) = _), ?_⟩; (conv => whnf)))
      refine ⟨⟨false, [], [], []⟩, by kernel_rfl, ?_⟩; (conv => whnf)
      rw [half (by omega)]
      obtain ⟨h, hh⟩ : ∃ h, h = (i + j) / 2 := ⟨_, rfl⟩
      rw [← hh]
      refine ⟨by omega, by omega, ?_⟩
      (conv => whnf); (try (refine ⟨(rfl : (_ : Heap) = _), ?_⟩; (conv => whnf)))
      refine ⟨_, by rw [Nat.zero_add, Int.toNat_natCast, e0]; exact get_mid (A ++ X) y Z (by simp only [List.length_append]; omega), Nat.le_of_ble_eq_true rfl, ?_⟩
      (conv => whnf); (try (refine ⟨(rfl : (_ : Heap) = _), ?_⟩; (conv => whnf)))
      refine ⟨by omega, by omega, ?_⟩
      (conv => whnf); (try (refine ⟨(rfl : (_ : Heap) = _), ?_⟩; (conv => whnf)))
      refine ⟨_, by rw [Nat.zero_add, Int.toNat_natCast]; exact rd h (by omega) (by omega), Nat.le_of_ble_eq_true rfl, ?_⟩
      (conv => whnf); (try (refine ⟨(rfl : (_ : Heap) = _), ?_⟩; (conv => whnf)))
      have hv := hrx (dat X (h - a)) (dat_mem (by omega))
      refine ⟨_, _, cmp_sound cs _ hry.1 hry.2 hv.1 hv.2, ?_⟩
      (conv => whnf); (try (refine ⟨(rfl : (_ : Heap) = _), ?_⟩; (conv => whnf)))
      refine ⟨fun hc3 => ?_, fun hc3 => ?_⟩
      · have hc3 : ptV cs y < ptV cs (dat X (h - a)) := by rw [cmp_lt] at hc3; simpa using hc3
        have hlt : a + t ≤ h := by
          rcases Nat.lt_or_ge h (a + t) with g | g
          · exact absurd hc3 (t2 (h - a) (by omega) (by omega))
          · exact g
        (conv => whnf); (try (refine ⟨(rfl : (_ : Heap) = _), ?_⟩; (conv => whnf)))
        (repeat (first | (refine ⟨fun _ => ?_, fun h => absurd h (by decide)⟩; (conv => whnf); (try (refine ⟨(rfl : (_ : Heap) = _), ?_⟩; (conv => whnf)))) | (refine ⟨fun h => absurd h (by decide), fun _ => ?_⟩; (conv => whnf); (try (refine ⟨(rfl : (_ : Heap) = _), ?_⟩; (conv => whnf))))))
        exact .inl ⟨rfl, h - i, [.sl 1 [] 1 0 N false, I a, I m, I b, .fn 27 [] [.ref 0 [] 1 0 0], .junk, .junk, .junk, .junk, .junk, .junk, .junk, .junk, .junk, I i, I h, .junk, .junk, .junk, .junk, .junk, .junk, .junk, .junk, .junk, .junk, .junk, .junk, .junk, .junk, .junk, .junk, .junk, .junk, .junk, .junk, .junk, .junk, .junk, .junk, .junk, .junk, .junk, .junk, .junk, .junk, .junk, .junk, .junk, .junk, .junk, .junk, .junk, .junk, .junk, .junk, .junk, .junk, .junk, .junk, .junk, .junk, .junk, .junk, .junk, .junk, .junk, .junk, .junk, .junk, .junk, .junk, .junk, .junk, .junk, .junk, .junk, .junk, .junk, .junk, .junk, .junk, .junk, .junk, .junk, .junk, .junk, .junk, .junk, .junk, .junk, .junk, .junk, .junk, .junk, .junk, .junk, .junk, .junk, .junk, .junk, .junk, .junk, .junk, .junk, .junk, .junk, .junk, .junk, .junk, .junk, .junk, .junk, .junk, .junk, .junk, .junk, .junk, .junk, .junk, .junk, .junk, .junk, .junk, .junk, .junk, .junk, .junk, .junk, .junk, .junk, .junk, .junk, .junk, .junk, .junk, .junk, .junk, .junk, .junk, .junk, .junk, .junk, .junk, .junk, .junk, .junk, .junk, .junk, .junk, .junk, .junk, .junk, .junk, .junk, .junk, .junk, .junk, .junk, .junk, .junk, .junk, .junk, .junk, .junk, .junk, .junk, .junk, .junk, .junk, .junk, .junk, .junk, .junk, .junk, .junk, .junk, .junk, .junk, .junk, .junk, .junk, .junk, .junk, .junk, .junk, .junk, .junk, .junk, .junk, .junk, .junk, .junk, .junk, .junk, .junk, .junk, .junk, .junk, .junk, .junk, .junk, .junk, .junk, .junk, .junk, .junk, .junk, .junk, .junk, .junk, .junk, .junk, .junk, .junk, .junk, .junk, .junk, .junk, .junk], _, by omega, Weak.cov (by (conv => whnf); (repeat (refine ⟨rfl, ?_⟩; (conv => whnf))); exact trivial), i, h, rfl, by omega, by omega, by omega, by omega, rfl, rfl⟩
      · have hc3 : ¬ ptV cs y < ptV cs (dat X (h - a)) := by rw [cmp_lt] at hc3; simpa using hc3
        have hlt : h < a + t := by
          rcases Nat.lt_or_ge h (a + t) with g | g
          · exact g
          · exact absurd (t3 (h - a) (by omega) (by omega)) hc3
        (conv => whnf); (try (refine ⟨(rfl : (_ : Heap) = _), ?_⟩; (conv => whnf)))
        (repeat (first | (refine ⟨fun _ => ?_, fun h => absurd h (by decide)⟩; (conv => whnf); (try (refine ⟨(rfl : (_ : Heap) = _), ?_⟩; (conv => whnf)))) | (refine ⟨fun h => absurd h (by decide), fun _ => ?_⟩; (conv => whnf); (try (refine ⟨(rfl : (_ : Heap) = _), ?_⟩; (conv => whnf))))))
        rw [i64_nat (by omega)]
        exact .inl ⟨rfl, j - (h + 1), [.sl 1 [] 1 0 N false, I a, I m, I b, .fn 27 [] [.ref 0 [] 1 0 0], .junk, .junk, .junk, .junk, .junk, .junk, .junk, .junk, .junk, I (h + 1 : Nat), I j, .junk, .junk, .junk, .junk, .junk, .junk, .junk, .junk, .junk, .junk, .junk, .junk, .junk, .junk, .junk, .junk, .junk, .junk, .junk, .junk, .junk, .junk, .junk, .junk, .junk, .junk, .junk, .junk, .junk, .junk, .junk, .junk, .junk, .junk, .junk, .junk, .junk, .junk, .junk, .junk, .junk, .junk, .junk, .junk, .junk, .junk, .junk, .junk, .junk, .junk, .junk, .junk, .junk, .junk, .junk, .junk, .junk, .junk, .junk, .junk, .junk, .junk, .junk, .junk, .junk, .junk, .junk, .junk, .junk, .junk, .junk, .junk, .junk, .junk, .junk, .junk, .junk, .junk, .junk, .junk, .junk, .junk, .junk, .junk, .junk, .junk, .junk, .junk, .junk, .junk, .junk, .junk, .junk, .junk, .junk, .junk, .junk, .junk, .junk, .junk, .junk, .junk, .junk, .junk, .junk, .junk, .junk, .junk, .junk, .junk, .junk, .junk, .junk, .junk, .junk, .junk, .junk, .junk, .junk, .junk, .junk, .junk, .junk, .junk, .junk, .junk, .junk, .junk, .junk, .junk, .junk, .junk, .junk, .junk, .junk, .junk, .junk, .junk, .junk, .junk, .junk, .junk, .junk, .junk, .junk, .junk, .junk, .junk, .junk, .junk, .junk, .junk, .junk, .junk, .junk, .junk, .junk, .junk, .junk, .junk, .junk, .junk, .junk, .junk, .junk, .junk, .junk, .junk, .junk, .junk, .junk, .junk, .junk, .junk, .junk, .junk, .junk, .junk, .junk, .junk, .junk, .junk, .junk, .junk, .junk, .junk, .junk, .junk, .junk, .junk, .junk, .junk, .junk, .junk, .junk, .junk, .junk, .junk, .junk, .junk, .junk, .junk, .junk, .junk], _, by omega, Weak.cov (by (conv => whnf); (repeat (refine ⟨rfl, ?_⟩; (conv => whnf))); exact trivial), h + 1, j, rfl, by omega, by omega, by omega, by omega, rfl, rfl⟩
    · have hc : i = a + t := by simp at hc; omega
      subst hc
      (conv => whnf); (try (refine ⟨(rfl : (_ : Heap) = _), ?_⟩; (conv => whnf)))
      refine .inr ⟨by simp, ?_⟩
      conv => whnf
      refine Loops.inv (fun q s1 H1 => ∃ (k : Nat) (X1 X2 : List Int), k = a + X1.length ∧ X1.length = q ∧ t ≤ X1.length ∧ X = X1 ++ X2 ∧ s1 = [.sl 1 [] 1 0 N false, I a, I m, I b, .fn 27 [] [.ref 0 [] 1 0 0], .junk, .junk, .junk, .junk, .junk, .junk, .junk, .junk, .junk, I (a + t : Nat), .junk, .junk, I k, .junk, .junk, .junk, .junk, .junk, .junk, .junk, .junk, .junk, .junk, .junk, .junk, .junk, .junk, .junk, .junk, .junk, .junk, .junk, .junk, .junk, .junk, .junk, .junk, .junk, .junk, .junk, .junk, .junk, .junk, .junk, .junk, .junk, .junk, .junk, .junk, .junk, .junk, .junk, .junk, .junk, .junk, .junk, .junk, .junk, .junk, .junk, .junk, .junk, .junk, .junk, .junk, .junk, .junk, .junk, .junk, .junk, .junk, .junk, .junk, .junk, .junk, .junk, .junk, .junk, .junk, .junk, .junk, .junk, .junk, .junk, .junk, .junk, .junk, .junk, .junk, .junk, .junk, .junk, .junk, .junk, .junk, .junk, .junk, .junk, .junk, .junk, .junk, .junk, .junk, .junk, .junk, .junk, .junk, .junk, .junk, .junk, .junk, .junk, .junk, .junk, .junk, .junk, .junk, .junk, .junk, .junk, .junk, .junk, .junk, .junk, .junk, .junk, .junk, .junk, .junk, .junk, .junk, .junk, .junk, .junk, .junk, .junk, .junk, .junk, .junk, .junk, .junk, .junk, .junk, .junk, .junk, .junk, .junk, .junk, .junk, .junk, .junk, .junk, .junk, .junk, .junk, .junk, .junk, .junk, .junk, .junk, .junk, .junk, .junk, .junk, .junk, .junk, .junk, .junk, .junk, .junk, .junk, .junk, .junk, .junk, .junk, .junk, .junk, .junk, .junk, .junk, .junk, .junk, .junk, .junk, .junk, .junk, .junk, .junk, .junk, .junk, .junk, .junk, .junk, .junk, .junk, .junk, .junk, .junk, .junk, .junk, .junk, .junk, .junk, .junk, .junk, .junk, .junk, .junk, .junk, .junk, .junk, .junk, .junk, .junk, .junk] ∧ H1 = [⟨1, 41, 1, [[lCal cs]], 0⟩, ⟨2, 3, 1, (A ++ (X1 ++ y :: (X2 ++ Z))).map encI, 0⟩]) X.length ?_ ?_
      · refine ⟨[.sl 1 [] 1 0 N false, I a, I m, I b, .fn 27 [] [.ref 0 [] 1 0 0], .junk, .junk, .junk, .junk, .junk, .junk, .junk, .junk, .junk, I (a + t : Nat), .junk, .junk, I m, .junk, .junk, .junk, .junk, .junk, .junk, .junk, .junk, .junk, .junk, .junk, .junk, .junk, .junk, .junk, .junk, .junk, .junk, .junk, .junk, .junk, .junk, .junk, .junk, .junk, .junk, .junk, .junk, .junk, .junk, .junk, .junk, .junk, .junk, .junk, .junk, .junk, .junk, .junk, .junk, .junk, .junk, .junk, .junk, .junk, .junk, .junk, .junk, .junk, .junk, .junk, .junk, .junk, .junk, .junk, .junk, .junk, .junk, .junk, .junk, .junk, .junk, .junk, .junk, .junk, .junk, .junk, .junk, .junk, .junk, .junk, .junk, .junk, .junk, .junk, .junk, .junk, .junk, .junk, .junk, .junk, .junk, .junk, .junk, .junk, .junk, .junk, .junk, .junk, .junk, .junk, .junk, .junk, .junk, .junk, .junk, .junk, .junk, .junk, .junk, .junk, .junk, .junk, .junk, .junk, .junk, .junk, .junk, .junk, .junk, .junk, .junk, .junk, .junk, .junk, .junk, .junk, .junk, .junk, .junk, .junk, .junk, .junk, .junk, .junk, .junk, .junk, .junk, .junk, .junk, .junk, .junk, .junk, .junk, .junk, .junk, .junk, .junk, .junk, .junk, .junk, .junk, .junk, .junk, .junk, .junk, .junk, .junk, .junk, .junk, .junk, .junk, .junk, .junk, .junk, .junk, .junk, .junk, .junk, .junk, .junk, .junk, .junk, .junk, .junk, .junk, .junk, .junk, .junk, .junk, .junk, .junk, .junk, .junk, .junk, .junk, .junk, .junk, .junk, .junk, .junk, .junk, .junk, .junk, .junk, .junk, .junk, .junk, .junk, .junk, .junk, .junk, .junk, .junk, .junk, .junk, .junk, .junk, .junk, .junk, .junk, .junk], _, Weak.cov (by (conv => whnf); (repeat (refine ⟨rfl, ?_⟩; (conv => whnf))); exact trivial), m, X, [], by omega, rfl, by omega, by simp, rfl, rfl⟩
      · rintro q s1 H1 ⟨k, X1, X2, h1, h2, h3, rfl, rfl, rfl⟩
        simp only [List.length_append] at hN eb em t1 hX
        conv => whnf
        refine ⟨fun hc => ?_, fun hc => ?_⟩
        · have hc : a + t < k := by simp at hc; omega
          obtain ⟨X3, x, rfl⟩ : ∃ V3 v, X1 = V3 ++ [v] := ⟨X1.dropLast, X1.getLast (by intro e; subst e; simp at h1; omega), (List.dropLast_concat_getLast _).symm⟩
          simp only [List.length_append, List.length_cons, List.length_nil] at hN eb em t1 h1 h2 h3
          have w3 : IntKind.i64.wrap ((k : Int) - 1) = (k - 1 : Nat) := by rw [i64_ok (by omega) (by omega)]; omega
          have e1 : A ++ (X3 ++ [x] ++ y :: (X2 ++ Z)) = (A ++ X3 ++ [x]) ++ y :: (X2 ++ Z) := by simp
          have e2 : A ++ (X3 ++ [x] ++ y :: (X2 ++ Z)) = (A ++ X3) ++ x :: (y :: (X2 ++ Z)) := by simp
          (conv => whnf); (try (refine ⟨(rfl : (_ : Heap) = _), ?_⟩; (conv => whnf)))
          refine ⟨⟨false, [], [], []⟩, by kernel_rfl, ?_⟩; (conv => whnf)
          rw [w3]
          refine ⟨by omega, by omega, ?_⟩
          (conv => whnf); (try (refine ⟨(rfl : (_ : Heap) = _), ?_⟩; (conv => whnf)))
          refine ⟨_, by (rw [Nat.zero_add, Int.toNat_natCast, e2]; exact get_mid _ _ _ (by simp only [List.length_append, List.length_cons, List.length_nil]; omega)), Nat.le_of_ble_eq_true rfl, ?_⟩
          (conv => whnf); (try (refine ⟨(rfl : (_ : Heap) = _), ?_⟩; (conv => whnf)))
          refine ⟨by omega, by omega, ?_⟩
          (conv => whnf); (try (refine ⟨(rfl : (_ : Heap) = _), ?_⟩; (conv => whnf)))
          refine ⟨_, by (rw [Nat.zero_add, Int.toNat_natCast, e1]; exact get_mid _ _ _ (by simp only [List.length_append, List.length_cons, List.length_nil]; omega)), Nat.le_of_ble_eq_true rfl, ?_⟩
          (conv => whnf); (try (refine ⟨(rfl : (_ : Heap) = _), ?_⟩; (conv => whnf)))
          refine ⟨by omega, by omega, ?_⟩
          (conv => whnf); (try (refine ⟨(rfl : (_ : Heap) = _), ?_⟩; (conv => whnf)))
          refine ⟨_, by (rw [Nat.zero_add, Int.toNat_natCast, e1]; exact get_mid _ _ _ (by simp only [List.length_append, List.length_cons, List.length_nil]; omega)), rfl, ?_⟩
          (conv => whnf); (try (refine ⟨(rfl : (_ : Heap) = _), ?_⟩; (conv => whnf)))
          have n1 : 0 + (k : Int).toNat = (A ++ X3 ++ [x]).length := by simp only [List.length_append, List.length_cons, List.length_nil]; omega
          rw [rset e1 n1]
          have e3 : (A ++ X3 ++ [x]) ++ x :: (X2 ++ Z) = (A ++ X3) ++ x :: (x :: (X2 ++ Z)) := by simp
          have n2 : 0 + ((k - 1 : Nat) : Int).toNat = (A ++ X3).length := by simp only [List.length_append]; omega
          refine ⟨by omega, by omega, ?_⟩
          (conv => whnf); (try (refine ⟨(rfl : (_ : Heap) = _), ?_⟩; (conv => whnf)))
          refine ⟨_, by (rw [Nat.zero_add, Int.toNat_natCast, e3]; exact get_mid _ _ _ (by simp only [List.length_append, List.length_cons, List.length_nil]; omega)), rfl, ?_⟩
          (conv => whnf); (try (refine ⟨(rfl : (_ : Heap) = _), ?_⟩; (conv => whnf)))
          rw [rset e3 n2]
          have e4 : (A ++ X3) ++ y :: (x :: (X2 ++ Z)) = A ++ (X3 ++ y :: (x :: X2 ++ Z)) := by simp
          (try rw [w3])
          rw [e4]
          exact .inl ⟨rfl, X3.length, [.sl 1 [] 1 0 N false, I a, I m, I b, .fn 27 [] [.ref 0 [] 1 0 0], .junk, .junk, .junk, .junk, .junk, .junk, .junk, .junk, .junk, I (a + t : Nat), .junk, .junk, I (k - 1 : Nat), .junk, .junk, .junk, .junk, .junk, .junk, .junk, .junk, .junk, .junk, .junk, .junk, .junk, .junk, .junk, .junk, .junk, .junk, .junk, .junk, .junk, .junk, .junk, .junk, .junk, .junk, .junk, .junk, .junk, .junk, .junk, .junk, .junk, .junk, .junk, .junk, .junk, .junk, .junk, .junk, .junk, .junk, .junk, .junk, .junk, .junk, .junk, .junk, .junk, .junk, .junk, .junk, .junk, .junk, .junk, .junk, .junk, .junk, .junk, .junk, .junk, .junk, .junk, .junk, .junk, .junk, .junk, .junk, .junk, .junk, .junk, .junk, .junk, .junk, .junk, .junk, .junk, .junk, .junk, .junk, .junk, .junk, .junk, .junk, .junk, .junk, .junk, .junk, .junk, .junk, .junk, .junk, .junk, .junk, .junk, .junk, .junk, .junk, .junk, .junk, .junk, .junk, .junk, .junk, .junk, .junk, .junk, .junk, .junk, .junk, .junk, .junk, .junk, .junk, .junk, .junk, .junk, .junk, .junk, .junk, .junk, .junk, .junk, .junk, .junk, .junk, .junk, .junk, .junk, .junk, .junk, .junk, .junk, .junk, .junk, .junk, .junk, .junk, .junk, .junk, .junk, .junk, .junk, .junk, .junk, .junk, .junk, .junk, .junk, .junk, .junk, .junk, .junk, .junk, .junk, .junk, .junk, .junk, .junk, .junk, .junk, .junk, .junk, .junk, .junk, .junk, .junk, .junk, .junk, .junk, .junk, .junk, .junk, .junk, .junk, .junk, .junk, .junk, .junk, .junk, .junk, .junk, .junk, .junk, .junk, .junk, .junk, .junk, .junk, .junk, .junk, .junk, .junk, .junk, .junk, .junk, .junk, .junk, .junk, .junk, .junk, .junk], _, by omega, Weak.cov (by (conv => whnf); (repeat (refine ⟨rfl, ?_⟩; (conv => whnf))); exact trivial), k - 1, X3, x :: X2, by omega, rfl, by omega, by simp, rfl, rfl⟩
        · have hk : X1.length = t := by simp at hc; omega
          subst hk
          (conv => whnf); (try (refine ⟨(rfl : (_ : Heap) = _), ?_⟩; (conv => whnf)))
          refine .inr ⟨by simp, ?_⟩
          conv => whnf
          refine ⟨.inl rfl, _, .refl _, ?_, rfl⟩
          rw [List.take_left, List.drop_left, List.append_assoc]; rfl
end Go.Srt

