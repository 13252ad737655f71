/- Layer 3 (names): a byte sought in a text, a text's parts (plain), the library's searches, and the iterator of parts, walked. -/
import Derived.Test.YtephgjkcoopocaaGatA
import Derived.Lib.Bytealg
import Derived.WalkKit
import Derived.IntWalk
namespace Go.Nam
open Go.Ab Go.Proofs Go.Hy Go.Gat Go.RowKit
set_option linter.unusedVariables false
set_option maxRecDepth 8000

/-! ### Plain: parts of a text -/

/-- A text's first part, and what stands behind the byte. -/
def headV (b : UInt8) (s : Str) : Str := s.takeWhile (· != b)
def tailV (b : UInt8) (s : Str) : Str := (s.dropWhile (· != b)).drop 1
def cutV (b : UInt8) : Str → List Str
  | [] => [[]]
  | c :: s => if c == b then [] :: cutV b s else match cutV b s with
    | p :: ps => (c :: p) :: ps
    | [] => [[c]]

theorem cutV_ne (b : UInt8) (s : Str) : cutV b s ≠ [] := by
  cases s with
  | nil => simp [cutV]
  | cons c s => unfold cutV; split; simp; split <;> simp

theorem cutV_none {b : UInt8} : ∀ {s : Str}, b ∉ s → cutV b s = [s]
  | [], _ => rfl
  | c :: s, h => by
    have h1 : (c == b) = false := by simp; intro e; subst e; exact h (List.mem_cons_self ..)
    have h2 := cutV_none (s := s) fun e => h (List.mem_cons_of_mem _ e)
    simp [cutV, h1, h2]

theorem cutV_some {b : UInt8} : ∀ {s : Str}, b ∈ s → cutV b s = headV b s :: cutV b (tailV b s)
  | [], h => by simp at h
  | c :: s, h => by
    by_cases e : c = b
    · subst e; simp [cutV, headV, tailV]
    · have h1 : (c == b) = false := by simpa using e
      have h2 := cutV_some (s := s) (by rcases List.mem_cons.1 h with h | h; exact absurd h.symm e; exact h)
      have h3 : (c != b) = true := by simpa using e
      simp only [cutV, h1, Bool.false_eq_true, if_false, h2, headV, tailV, List.takeWhile_cons, List.dropWhile_cons, h3, if_true]

theorem tailV_lt {b : UInt8} {s : Str} (h : b ∈ s) : (tailV b s).length < s.length := by
  have h1 : (s.dropWhile (· != b)).length ≤ s.length := List.Sublist.length_le (List.dropWhile_sublist _)
  have h2 : s.length ≠ 0 := by intro e; rw [List.length_eq_zero_iff.1 e] at h; simp at h
  simp only [tailV, List.length_drop]
  omega

theorem idx_none {b : UInt8} : ∀ {s : Str}, b ∉ s → Lib.indexByte s b = -1
  | [], _ => rfl
  | c :: s, h => by
    have h1 : (c == b) = false := by simp; intro e; subst e; exact h (List.mem_cons_self ..)
    have h2 := idx_none (s := s) fun e => h (List.mem_cons_of_mem _ e)
    simp [Lib.indexByte, h1, h2]
theorem idx_some {b : UInt8} : ∀ {s : Str}, b ∈ s → Lib.indexByte s b = ((headV b s).length : Int)
  | [], h => by simp at h
  | c :: s, h => by
    by_cases e : c = b
    · subst e; simp [Lib.indexByte, headV]
    · have h1 : (c == b) = false := by simpa using e
      have h3 : (c != b) = true := by simpa using e
      have h2 := idx_some (s := s) (by rcases List.mem_cons.1 h with h | h; exact absurd h.symm e; exact h)
      have h4 : ((headV b s).length == (-1 : Int)) = false := by rw [beq_eq_false_iff_ne]; omega
      simp only [Lib.indexByte, h1, Bool.false_eq_true, if_false, h2, headV, List.takeWhile_cons, h3, if_true, List.length_cons]
      rw [show ((↑(List.takeWhile (fun x => x != b) s).length : Int) == -1) = false from h4]
      simp
theorem head_take (b : UInt8) (s : Str) : s.take (headV b s).length = headV b s := by
  induction s with
  | nil => rfl
  | cons c s ih =>
    by_cases e : c = b
    · subst e; simp [headV]
    · have h3 : (c != b) = true := by simpa using e
      simp only [headV, List.takeWhile_cons, h3, if_true, List.length_cons, List.take_succ_cons]
      rw [show List.take (List.takeWhile (fun x => x != b) s).length s = headV b s from ih]; rfl
theorem tail_drop (b : UInt8) (s : Str) : s.drop ((headV b s).length + 1) = tailV b s := by
  induction s with
  | nil => rfl
  | cons c s ih =>
    by_cases e : c = b
    · subst e; simp [headV, tailV]
    · have h3 : (c != b) = true := by simpa using e
      simp only [headV, tailV, List.takeWhile_cons, List.dropWhile_cons, h3, if_true, List.length_cons, List.drop_succ_cons]
      exact ih
theorem head_lt {b : UInt8} {s : Str} (h : b ∈ s) : (headV b s).length < s.length := by
  have h1 := tail_drop b s
  have h2 : s.length ≠ 0 := by intro e; rw [List.length_eq_zero_iff.1 e] at h; simp at h
  have h3 : (headV b s).length ≤ s.length := List.Sublist.length_le (List.takeWhile_sublist _)
  rcases Nat.lt_or_ge (headV b s).length s.length with h4 | h4
  · exact h4
  · have h5 := head_take b s
    rw [List.take_of_length_le h4] at h5
    have : b ∈ headV b s := by rw [← h5]; exact h
    have := List.all_takeWhile (l := s) (p := (· != b))
    rw [List.all_eq_true] at this
    have := this b (by assumption)
    simp at this

/-- What is left of a text behind so many parts. -/
def restV (b : UInt8) (s : Str) : Nat → Str
  | 0 => s
  | k + 1 => tailV b (restV b s k)

theorem cut_at {b : UInt8} : ∀ {k : Nat} {s : Str}, k + 1 < (cutV b s).length → b ∈ restV b s k ∧ (cutV b s)[k]? = some (headV b (restV b s k)) ∧ cutV b (restV b s (k + 1)) = (cutV b s).drop (k + 1)
  | 0, s, h => by
    have hb : b ∈ s := by
      rcases Classical.em (b ∈ s) with h1 | h1
      · exact h1
      · rw [cutV_none h1] at h; simp at h
    exact ⟨hb, by rw [cutV_some hb]; rfl, by rw [cutV_some hb]; rfl⟩
  | k + 1, s, h => by
    obtain ⟨h1, h2, h3⟩ := cut_at (b := b) (k := k) (s := s) (by omega)
    have hb : b ∈ restV b s (k + 1) := by
      rcases Classical.em (b ∈ restV b s (k + 1)) with h4 | h4
      · exact h4
      · rw [cutV_none h4] at h3
        have := congrArg List.length h3
        simp at this
        omega
    have h5 := cutV_some hb
    rw [h3] at h5
    refine ⟨hb, ?_, ?_⟩
    · have := congrArg (fun l => l[0]?) h5
      simpa using this
    · have := congrArg (fun l => l.drop 1) h5
      simp at this
      show cutV b (tailV b (restV b s (k + 1))) = _
      rw [← this]
theorem cut_last {b : UInt8} {k : Nat} {s : Str} (h : k + 1 = (cutV b s).length) : b ∉ restV b s k ∧ (cutV b s)[k]? = some (restV b s k) := by
  have h3 : cutV b (restV b s k) = (cutV b s).drop k := by
    cases k with
    | zero => rfl
    | succ k => exact (cut_at (b := b) (s := s) (k := k) (by omega)).2.2
  have h4 : b ∉ restV b s k := by
    intro hb
    rw [cutV_some hb] at h3
    have := congrArg List.length h3
    have h5 : (cutV b (tailV b (restV b s k))).length ≠ 0 := by
      intro e; exact cutV_ne b _ (List.length_eq_zero_iff.1 e)
    simp at this
    omega
  refine ⟨h4, ?_⟩
  rw [cutV_none h4] at h3
  have := congrArg (fun l => l[0]?) h3
  simpa using this.symm

theorem rest_le (b : UInt8) (s : Str) : ∀ k, (restV b s k).length ≤ s.length
  | 0 => Nat.le_refl _
  | k + 1 => by
    have h1 : ((restV b s k).dropWhile (· != b)).length ≤ (restV b s k).length := List.Sublist.length_le (List.dropWhile_sublist _)
    have := rest_le b s k
    simp only [restV, tailV, List.length_drop]
    omega

/-! ### The library -/

/-- A call that touches nothing. -/
theorem of_calls {P : Program} {f : FuncId} {vs : Array Value} {v : Value} {args : List C} {r : C} (H : Heap) (hc : ∀ w, Calls P f vs w fun e w' => e = .returned v ∧ w' = w) (ha : ∀ E (us : Array Value), LL E args us.toList → us = vs) (hr : ∀ E, L E r v) : SoundAt P f H args r H := fun w E us hh hl => by
  obtain rfl := ha E us hl
  refine (hc w).mono ?_
  rintro e w' ⟨rfl, rfl⟩
  exact ⟨v, E, rfl, hh, hr E, Grow.refl _ _ _⟩

theorem args2 {a b : Value} (E : Env) (us : Array Value) (h : LL E [.v a, .v b] us.toList) : us = #[a, b] := by
  obtain ⟨l⟩ := us
  match l, h with
  | [], h => have := h.1; simp at this
  | [_], h => have := h.1; simp at this
  | [x, y], h =>
    obtain ⟨h1, h2⟩ := h.cons_inv
    obtain ⟨h2, _⟩ := h2.cons_inv
    cases h1; cases h2; rfl
  | _ :: _ :: _ :: _, h => have := h.1; simp at this

set_option maxHeartbeats 1000000 in
theorem idx_calls (s : ByteArray) (c : Int) (w : World) : Calls Try.prog 88 #[.string s, .int .u8 c] w fun e w' => e = .returned (.int .i64 (Lib.indexByte s.data.toList c.toNat.toUInt8)) ∧ w' = w := by
  go_enter Try.func88, Try.ntmps88
  go_wp2
  rw [run_callFunc_extern Try.func92 (by kernel_rfl) (by kernel_rfl) (by kernel_rfl) (e := Extern.BytealgIndexByte.indexByte) (by kernel_rfl), Lib.run_indexByteString]
  simp only [Result.andThen]
  rw [Oper.upon_value]
  go_wp2
  go_ret
  exact ⟨rfl, rfl⟩

theorem idx1_sound (s : Str) (b : UInt8) : SoundAt Try.prog 88 [] [Tx s, By (bI b)] (I (Lib.indexByte s b)) [] := by
  have e : (bI b).toNat.toUInt8 = b := by simp [bI]
  refine of_calls [] (fun w => ?_) args2 fun E => .v _ rfl
  have := idx_calls ⟨⟨s⟩⟩ (bI b) w
  rw [e] at this
  exact this
theorem idx_sound (s : Str) (b : UInt8) : SoundAt Try.prog 80 [] [Tx s, By (bI b)] (I (Lib.indexByte s b)) [] := by
  refine SoundAt.of_wpA1 (fn := Try.f80) Try.func80 rfl ?_
  conv => whnf
  refine ⟨_, _, (idx1_sound s b).frame rfl _, ?_⟩; (conv => whnf); (try (refine ⟨(rfl : (_ : Heap) = _), ?_⟩; (conv => whnf)))
  exact ⟨.inl rfl, _, .refl _, rfl⟩

end Go.Nam
