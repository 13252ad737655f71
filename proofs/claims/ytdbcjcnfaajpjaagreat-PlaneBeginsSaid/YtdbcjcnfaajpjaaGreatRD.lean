import Derived.Lib.Bytealg
import Derived.WalkKit
import Derived.IntWalk
import Derived.Test.YtdbcjcnfaajpjaaGreatRC
import Derived.Test.YtdbcjcnfaajpjaaGreatRJ
import Derived.Test.YtdbcjcnfaajpjaaGreatProg
namespace Go.Gat
open Go.Ab Go.Proofs Go.Hy
set_option linter.unusedVariables false
set_option maxRecDepth 8000
def lowI (n : Int) : Bool := decide (97 ≤ n) && decide (n ≤ 122)
def wordI (n : Int) : Bool := lowI n || (decide (48 ≤ n) && decide (n ≤ 57)) || (n == 45)
abbrev By (n : Int) : C := .v (.int .u8 n)
theorem low_sound (n : Int) : SoundAt Tryz.prog 75 [] [By n] (Bo (lowI n)) [] := by
  refine SoundAt.of_wpA1 (fn := Tryz.f75) Tryz.func75 rfl ?_
  conv => whnf
  (repeat' (first | (refine ⟨fun _ => ?_, fun _ => ?_⟩ <;> (conv => whnf)) | fail))
  all_goals (exact ⟨.inl rfl, _, .refl _, congrArg (fun b => some (C.v (Value.bool b))) (by simp_all [lowI] <;> (intros; omega))⟩)
theorem word1_sound (n : Int) : SoundAt Tryz.prog 109 [] [By n] (Bo (wordI n)) [] := by
  refine SoundAt.of_wpA1 (fn := Tryz.f109) Tryz.func109 rfl ?_
  conv => whnf
  refine ⟨_, _, (low_sound n).frame rfl _, ?_⟩; (conv=>whnf);(try(refine ⟨(rfl:(_:Heap)=_),?_⟩;(conv=>whnf)))
  (repeat' (first | (refine ⟨fun _ => ?_, fun _ => ?_⟩ <;> (conv => whnf)) | fail))
  all_goals (exact ⟨.inl rfl, _, .refl _, congrArg (fun b => some (C.v (Value.bool b))) (by simp_all [wordI] <;> (intros; omega))⟩)
theorem word_sound : SoundAt Tryz.prog 76 [] [] (.agg [.fn 109 [] []]) [] := by
  refine SoundAt.of_wpA1 (fn := Tryz.f76) Tryz.func76 rfl ?_
  conv => whnf
  exact ⟨.inl rfl, _, .refl _, rfl⟩
abbrev bI (c : UInt8) : Int := (c.toNat : Int)
def allV (p : Int → Bool) (s : Str) (other : Int) : Bool := s.all fun c => bI c == other || p (bI c)
theorem allV_false {p : Int → Bool} {s : Str} {other : Int} {k : Nat} (hk : k < s.length) (h1 : (bI s[k] == other) = false) (h2 : p (bI s[k]) = false) : allV p s other = false := by
  unfold allV
  rw [List.all_eq_false]
  exact ⟨s[k], List.getElem_mem hk, by simp [h1, h2]⟩
theorem all_sound (s : Str) (other : Int) (hs : s.length < 4611686018427387904) : SoundAt Tryz.prog 77 [] [.agg [.fn 109 [] []], Tx s, By other] (Bo (allV wordI s other)) [] := by
  refine SoundAt.of_wpA1 (fn := Tryz.f77) Tryz.func77 rfl ?_
  conv => whnf
  refine Loops.seq s.length (fun k => [.agg [.fn 109 [] []], Tx s, By other, .ref 0 [] 1 0 0, .junk, .junk, Bo false, .junk, .junk, I s.length, I k, .junk, .junk, .junk, .junk, .junk, .junk, .junk, .junk, .junk, .junk, .junk, .junk, .junk, .junk, .junk, .junk, .junk]) (fun k => [⟨1, 141, 1, [[.fn 109 [] []]], 0⟩]) (fun k => ∀ j, (h : j < s.length) → j < k → (bI s[j] == other || wordI (bI s[j])) = true) ?_ (by simp) (fun k hk hr => ?_) (fun hr => ?_)
  · exact Weak.cov (by (conv => whnf); (repeat (refine ⟨rfl, ?_⟩; (conv => whnf))); exact trivial)
  · conv => whnf
    refine ⟨fun h => ?_, fun h => absurd h (by simp; omega)⟩
    conv => whnf
    refine .inl ⟨⟨false, [], [], []⟩, by kernel_rfl, ?_⟩; (conv => whnf)
    refine ⟨by omega, s[k], by simp [hk], ?_⟩
    conv => whnf
    refine ⟨fun h1 => ?_, fun h1 => ?_⟩
    · (conv=>whnf);(try(refine ⟨(rfl:(_:Heap)=_),?_⟩;(conv=>whnf)))
      refine ⟨by omega, s[k], by simp [hk], ?_⟩
      (conv=>whnf);(try(refine ⟨(rfl:(_:Heap)=_),?_⟩;(conv=>whnf)))
      refine ⟨_, _, (word1_sound (bI s[k])).frame rfl _, ?_⟩; (conv=>whnf);(try(refine ⟨(rfl:(_:Heap)=_),?_⟩;(conv=>whnf)))
      refine ⟨fun h2 => ?_, fun h2 => ?_⟩
      · (conv=>whnf);(try(refine ⟨(rfl:(_:Heap)=_),?_⟩;(conv=>whnf)))
        refine .inl ⟨rfl, ?_, ?_⟩
        · rw [i64_nat (by omega)]
          exact Weak.covD 1 (by (conv => whnf); (repeat (refine ⟨rfl, ?_⟩; (conv => whnf))); exact trivial) rfl rfl rfl rfl rfl
        · intro j hj hjk
          by_cases e : j = k
          · subst e; simp [h2]
          · exact hr j hj (by omega)
      · (conv=>whnf);(try(refine ⟨(rfl:(_:Heap)=_),?_⟩;(conv=>whnf)))
        refine .inr ⟨by simp, ?_⟩
        conv => whnf
        (exact ⟨.inl rfl, _, .refl _, congrArg (fun b => some (C.v (Value.bool b))) (by exact (allV_false hk (by simpa using h1) h2).symm)⟩)
    · (conv=>whnf);(try(refine ⟨(rfl:(_:Heap)=_),?_⟩;(conv=>whnf)))
      refine .inl ⟨rfl, ?_, ?_⟩
      · rw [i64_nat (by omega)]
        exact Weak.covD 1 (by (conv => whnf); (repeat (refine ⟨rfl, ?_⟩; (conv => whnf))); exact trivial) rfl rfl rfl rfl rfl
      · intro j hj hjk
        by_cases e : j = k
        · subst e; simp at h1; simp [h1]
        · exact hr j hj (by omega)
  · conv => whnf
    refine ⟨fun h => absurd h (by simp), fun h => ?_⟩
    conv => whnf
    refine ⟨by simp, ?_⟩
    conv => whnf
    have e : allV wordI s other = true := by
      unfold allV
      rw [List.all_eq_true]
      intro x hx
      obtain ⟨j, hj, rfl⟩ := List.mem_iff_getElem.1 hx
      exact hr j hj hj
    exact ⟨.inl rfl, _, .refl _, by rw [e]; rfl⟩
def nameV (s : Str) : Bool := decide (0 < s.length) && decide (s.length ≤ 16) && (match s with | c :: _ => lowI (bI c) | [] => false) && s.all fun c => wordI (bI c)
theorem allV_dash (s : Str) : allV wordI s 45 = s.all fun c => wordI (bI c) := by
  unfold allV
  congr 1
  funext c
  cases h : (bI c == 45) with
  | false => rfl
  | true => simp at h; simp [wordI, h]
theorem name_sound (s : Str) (hs : s.length < 4611686018427387904) : SoundAt Tryz.prog 56 [] [Tx s] (Bo (nameV s)) [] := by
  refine SoundAt.of_wpA1 (fn := Tryz.f56) Tryz.func56 rfl ?_
  cases s with
  | nil =>
    conv => whnf
    (repeat (first | (refine ⟨fun _ => ?_, fun h => absurd h (by decide)⟩; (conv=>whnf);(try(refine ⟨(rfl:(_:Heap)=_),?_⟩;(conv=>whnf)))) | (refine ⟨fun h => absurd h (by decide), fun _ => ?_⟩; (conv=>whnf);(try(refine ⟨(rfl:(_:Heap)=_),?_⟩;(conv=>whnf))))))
    exact ⟨.inl rfl, _, .refl _, rfl⟩
  | cons c s =>
    conv => whnf
    refine ⟨fun _ => ?_, fun h => absurd h (by simp <;> omega)⟩
    conv => whnf
    refine ⟨fun h1 => ?_, fun h1 => ?_⟩
    · conv => whnf
      refine ⟨by omega, c, rfl, ?_⟩
      conv => whnf
      refine ⟨_, _, (low_sound (bI c)).frame rfl _, ?_⟩; (conv=>whnf);(try(refine ⟨(rfl:(_:Heap)=_),?_⟩;(conv=>whnf)))
      refine ⟨fun h2 => ?_, fun h2 => ?_⟩
      · conv => whnf
        refine ⟨_, _, (word_sound).frame rfl _, ?_⟩; (conv=>whnf);(try(refine ⟨(rfl:(_:Heap)=_),?_⟩;(conv=>whnf)))
        refine ⟨_, _, (all_sound (c :: s) 45 hs).frame rfl _, ?_⟩; (conv=>whnf);(try(refine ⟨(rfl:(_:Heap)=_),?_⟩;(conv=>whnf)))
        have h1' : s.length ≤ 15 := by have := h1; simp at this; omega
        have e : nameV (c :: s) = allV wordI (c :: s) 45 := by rw [allV_dash]; unfold nameV; simp [h2]; omega
        refine ⟨fun h3 => ?_, fun h3 => ?_⟩
        all_goals ((conv => whnf); (exact ⟨.inl rfl, _, .refl _, congrArg (fun b => some (C.v (Value.bool b))) (by rw [e, h3])⟩))
      · conv => whnf
        (exact ⟨.inl rfl, _, .refl _, congrArg (fun b => some (C.v (Value.bool b))) (by simp [nameV, h2])⟩)
    · conv => whnf
      (exact ⟨.inl rfl, _, .refl _, congrArg (fun b => some (C.v (Value.bool b))) (by simp [nameV]; simp at h1; omega)⟩)
end Go.Gat
namespace Go.Nam
open Go.Ab Go.Proofs Go.Hy Go.Gat Go.RowKit
set_option linter.unusedVariables false
set_option maxRecDepth 8000
def headV (b : UInt8) (s : Str) : Str := s.takeWhile (· != b)
def tailV (b : UInt8) (s : Str) : Str := (s.dropWhile (· != b)).drop 1
def cutV (b : UInt8) : Str → List Str
  | [] => [[]]
  | c :: s => if c == b then [] :: cutV b s else match cutV b s with
    | p :: ps => (c :: p) :: ps
    | [] => [[c]]
theorem cutV_ne (b : UInt8) (s : Str) : cutV b s ≠ [] := by
  cases s with
  | nil => simp [cutV]
  | cons c s => unfold cutV; split; simp; split <;> simp
theorem cutV_none {b : UInt8} : ∀ {s : Str}, b ∉ s → cutV b s = [s]
  | [], _ => rfl
  | c :: s, h => by
    have h1 : (c == b) = false := by simp; intro e; subst e; exact h (List.mem_cons_self ..)
    have h2 := cutV_none (s := s) fun e => h (List.mem_cons_of_mem _ e)
    simp [cutV, h1, h2]
theorem cutV_some {b : UInt8} : ∀ {s : Str}, b ∈ s → cutV b s = headV b s :: cutV b (tailV b s)
  | [], h => by simp at h
  | c :: s, h => by
    by_cases e : c = b
    · subst e; simp [cutV, headV, tailV]
    · have h1 : (c == b) = false := by simpa using e
      have h2 := cutV_some (s := s) (by rcases List.mem_cons.1 h with h | h; exact absurd h.symm e; exact h)
      have h3 : (c != b) = true := by simpa using e
      simp only [cutV, h1, Bool.false_eq_true, if_false, h2, headV, tailV, List.takeWhile_cons, List.dropWhile_cons, h3, if_true]
theorem idx_none {b : UInt8} : ∀ {s : Str}, b ∉ s → Lib.indexByte s b = -1
  | [], _ => rfl
  | c :: s, h => by
    have h1 : (c == b) = false := by simp; intro e; subst e; exact h (List.mem_cons_self ..)
    have h2 := idx_none (s := s) fun e => h (List.mem_cons_of_mem _ e)
    simp [Lib.indexByte, h1, h2]
theorem idx_some {b : UInt8} : ∀ {s : Str}, b ∈ s → Lib.indexByte s b = ((headV b s).length : Int)
  | [], h => by simp at h
  | c :: s, h => by
    by_cases e : c = b
    · subst e; simp [Lib.indexByte, headV]
    · have h1 : (c == b) = false := by simpa using e
      have h3 : (c != b) = true := by simpa using e
      have h2 := idx_some (s := s) (by rcases List.mem_cons.1 h with h | h; exact absurd h.symm e; exact h)
      have h4 : ((headV b s).length == (-1 : Int)) = false := by rw [beq_eq_false_iff_ne]; omega
      simp only [Lib.indexByte, h1, Bool.false_eq_true, if_false, h2, headV, List.takeWhile_cons, h3, if_true, List.length_cons]
      rw [show ((↑(List.takeWhile (fun x => x != b) s).length : Int) == -1) = false from h4]
      simp
theorem head_take (b : UInt8) (s : Str) : s.take (headV b s).length = headV b s := by
  induction s with
  | nil => rfl
  | cons c s ih =>
    by_cases e : c = b
    · subst e; simp [headV]
    · have h3 : (c != b) = true := by simpa using e
      simp only [headV, List.takeWhile_cons, h3, if_true, List.length_cons, List.take_succ_cons]
      rw [show List.take (List.takeWhile (fun x => x != b) s).length s = headV b s from ih]; rfl
theorem tail_drop (b : UInt8) (s : Str) : s.drop ((headV b s).length + 1) = tailV b s := by
  induction s with
  | nil => rfl
  | cons c s ih =>
    by_cases e : c = b
    · subst e; simp [headV, tailV]
    · have h3 : (c != b) = true := by simpa using e
      simp only [headV, tailV, List.takeWhile_cons, List.dropWhile_cons, h3, if_true, List.length_cons, List.drop_succ_cons]
      exact ih
theorem head_lt {b : UInt8} {s : Str} (h : b ∈ s) : (headV b s).length < s.length := by
  have h1 := tail_drop b s
  have h2 : s.length ≠ 0 := by intro e; rw [List.length_eq_zero_iff.1 e] at h; simp at h
  have h3 : (headV b s).length ≤ s.length := List.Sublist.length_le (List.takeWhile_sublist _)
  rcases Nat.lt_or_ge (headV b s).length s.length with h4 | h4
  · exact h4
  · have h5 := head_take b s
    rw [List.take_of_length_le h4] at h5
    have : b ∈ headV b s := by rw [← h5]; exact h
    have := List.all_takeWhile (l := s) (p := (· != b))
    rw [List.all_eq_true] at this
    have := this b (by assumption)
    simp at this
def restV (b : UInt8) (s : Str) : Nat → Str
  | 0 => s
  | k + 1 => tailV b (restV b s k)
theorem cut_at {b : UInt8} : ∀ {k : Nat} {s : Str}, k + 1 < (cutV b s).length → b ∈ restV b s k ∧ (cutV b s)[k]? = some (headV b (restV b s k)) ∧ cutV b (restV b s (k + 1)) = (cutV b s).drop (k + 1)
  | 0, s, h => by
    have hb : b ∈ s := by
      rcases Classical.em (b ∈ s) with h1 | h1
      · exact h1
      · rw [cutV_none h1] at h; simp at h
    exact ⟨hb, by rw [cutV_some hb]; rfl, by rw [cutV_some hb]; rfl⟩
  | k + 1, s, h => by
    obtain ⟨h1, h2, h3⟩ := cut_at (b := b) (k := k) (s := s) (by omega)
    have hb : b ∈ restV b s (k + 1) := by
      rcases Classical.em (b ∈ restV b s (k + 1)) with h4 | h4
      · exact h4
      · rw [cutV_none h4] at h3
        have := congrArg List.length h3
        simp at this
        omega
    have h5 := cutV_some hb
    rw [h3] at h5
    refine ⟨hb, ?_, ?_⟩
    · have := congrArg (fun l => l[0]?) h5
      simpa using this
    · have := congrArg (fun l => l.drop 1) h5
      simp at this
      show cutV b (tailV b (restV b s (k + 1))) = _
      rw [← this]
theorem cut_last {b : UInt8} {k : Nat} {s : Str} (h : k + 1 = (cutV b s).length) : b ∉ restV b s k ∧ (cutV b s)[k]? = some (restV b s k) := by
  have h3 : cutV b (restV b s k) = (cutV b s).drop k := by
    cases k with
    | zero => rfl
    | succ k => exact (cut_at (b := b) (s := s) (k := k) (by omega)).2.2
  have h4 : b ∉ restV b s k := by
    intro hb
    rw [cutV_some hb] at h3
    have := congrArg List.length h3
    have h5 : (cutV b (tailV b (restV b s k))).length ≠ 0 := by
      intro e; exact cutV_ne b _ (List.length_eq_zero_iff.1 e)
    simp at this
    omega
  refine ⟨h4, ?_⟩
  rw [cutV_none h4] at h3
  have := congrArg (fun l => l[0]?) h3
  simpa using this.symm
theorem rest_le (b : UInt8) (s : Str) : ∀ k, (restV b s k).length ≤ s.length
  | 0 => Nat.le_refl _
  | k + 1 => by
    have h1 : ((restV b s k).dropWhile (· != b)).length ≤ (restV b s k).length := List.Sublist.length_le (List.dropWhile_sublist _)
    have := rest_le b s k
    simp only [restV, tailV, List.length_drop]
    omega
set_option maxHeartbeats 1000000 in
theorem idx_calls (s : ByteArray) (c : Int) (w : World) : Calls Tryz.prog 192 #[.string s, .int .u8 c] w fun e w' => e = .returned (.int .i64 (Lib.indexByte s.data.toList c.toNat.toUInt8)) ∧ w' = w := by
  go_enter Tryz.func192, Tryz.ntmps192
  go_wp2
  rw [run_callFunc_extern Tryz.func196 (by kernel_rfl) (by kernel_rfl) (by kernel_rfl) (e := Extern.BytealgIndexByte.indexByte) (by kernel_rfl), Lib.run_indexByteString]
  simp only [Result.andThen]
  rw [Oper.upon_value]
  go_wp2
  go_ret
  exact ⟨rfl, rfl⟩
theorem idx1_sound (s : Str) (b : UInt8) : SoundAt Tryz.prog 192 [] [Tx s, By (bI b)] (I (Lib.indexByte s b)) [] := by
  have e : (bI b).toNat.toUInt8 = b := by simp [bI]
  refine of_calls [] (fun w => ?_) args2 fun E => .v _ rfl
  have := idx_calls ⟨⟨s⟩⟩ (bI b) w
  rw [e] at this
  exact this
theorem idx_sound (s : Str) (b : UInt8) : SoundAt Tryz.prog 188 [] [Tx s, By (bI b)] (I (Lib.indexByte s b)) [] := by
  refine SoundAt.of_wpA1 (fn := Tryz.f188) Tryz.func188 rfl ?_
  conv => whnf
  refine ⟨_, _, (idx1_sound s b).frame rfl _, ?_⟩; (conv=>whnf);(try(refine ⟨(rfl:(_:Heap)=_),?_⟩;(conv=>whnf)))
  exact ⟨.inl rfl, _, .refl _, rfl⟩
end Go.Nam
namespace Go.Nam
open Go.Ab Go.Proofs Go.Hy Go.Gat
set_option linter.unusedVariables false
set_option maxRecDepth 8000
theorem parts_sound (X : Ob) (s : Str) (b : UInt8) : SoundAt Tryz.prog 183 [X] [Tx s, By (bI b)] (.fn 187 [] [.ref 1 [] 1 0 0, .ref 2 [] 1 0 0]) [X, ⟨1, 9, 1, [[Tx s]], 0⟩, ⟨1, 5, 1, [[By (bI b)]], 0⟩] := by
  refine SoundAt.of_wpA (fn := Tryz.f183) Tryz.func183 rfl ?_
  conv => whnf
  exact ⟨.inl rfl, _, .refl _, rfl, rfl⟩
theorem parts1_sound (l : Nat) (s : Str) (b : UInt8) (hs : s.length < 4611686018427387904) (X : Nat → Ob) (Y : Nat → List Ob) (j : Nat) (g : Bool) (hj : j < (cutV b s).length) (hend : g = false ∨ j + 1 = (cutV b s).length)
    (hy : ∀ k p, k < j → (cutV b s)[k]? = some p → YieldS Tryz.prog l (X k :: ⟨1, 9, 1, [[Tx (restV b s k)]], 0⟩ :: ⟨1, 5, 1, [[By (bI b)]], 0⟩ :: Y k) [Tx p] (Bo true) (X (k + 1) :: ⟨1, 9, 1, [[Tx (restV b s k)]], 0⟩ :: ⟨1, 5, 1, [[By (bI b)]], 0⟩ :: Y (k + 1)))
    (hz : ∀ p, (cutV b s)[j]? = some p → YieldS Tryz.prog l (X j :: ⟨1, 9, 1, [[Tx (restV b s j)]], 0⟩ :: ⟨1, 5, 1, [[By (bI b)]], 0⟩ :: Y j) [Tx p] (Bo g) (X (j + 1) :: ⟨1, 9, 1, [[Tx (restV b s j)]], 0⟩ :: ⟨1, 5, 1, [[By (bI b)]], 0⟩ :: Y (j + 1))) :
    SoundAt Tryz.prog 187 (X 0 :: ⟨1, 9, 1, [[Tx (restV b s 0)]], 0⟩ :: ⟨1, 5, 1, [[By (bI b)]], 0⟩ :: Y 0) [.v (.func (.yield l) #[] #[]), .ref 1 [] 1 0 0, .ref 2 [] 1 0 0] (.tup []) (X (j + 1) :: ⟨1, 9, 1, [[Tx (restV b s j)]], 0⟩ :: ⟨1, 5, 1, [[By (bI b)]], 0⟩ :: Y (j + 1)) := by
  refine SoundAt.of_wpA (fn := Tryz.f187) Tryz.func187 rfl ?_
  conv => whnf
  refine Loops.seq j (fun k => [.v (.func (.yield l) #[] #[]), .ref 1 [] 1 0 0, .ref 2 [] 1 0 0, .junk, .junk, .junk, .junk, .junk, .junk, .junk, .junk, .junk, .junk, .junk, .junk, .junk, .junk, .junk, .junk, .junk, .junk, .junk, .junk]) (fun k => X k :: ⟨1, 9, 1, [[Tx (restV b s k)]], 0⟩ :: ⟨1, 5, 1, [[By (bI b)]], 0⟩ :: Y k) (fun _ => True) ?_ trivial (fun k hk _ => ?_) (fun _ => ?_)
  · exact Weak.cov (by (conv => whnf); (repeat (refine ⟨rfl, ?_⟩; (conv => whnf))); exact trivial)
  · obtain ⟨h1, h2, h3⟩ := cut_at (b := b) (s := s) (k := k) (by omega)
    have h4 := rest_le b s k
    have h5 := head_lt h1
    conv => whnf
    refine ⟨_, _, (idx_sound (restV b s k) b).frame rfl _, ?_⟩
    rw [idx_some h1]
    conv => whnf
    refine ⟨fun h => absurd h (by simp), fun _ => ?_⟩
    (conv=>whnf);(try(refine ⟨(rfl:(_:Heap)=_),?_⟩;(conv=>whnf)))
    refine ⟨by omega, by omega, by simp; omega, ?_⟩
    rw [toNat_cast, List.drop_zero, head_take]
    conv => whnf
    refine ⟨_, _, hy k _ hk h2, ?_⟩
    (conv=>whnf);(try(refine ⟨(rfl:(_:Heap)=_),?_⟩;(conv=>whnf)))
    (repeat (first | (refine ⟨fun _ => ?_, fun h => absurd h (by decide)⟩; (conv=>whnf);(try(refine ⟨(rfl:(_:Heap)=_),?_⟩;(conv=>whnf)))) | (refine ⟨fun h => absurd h (by decide), fun _ => ?_⟩; (conv=>whnf);(try(refine ⟨(rfl:(_:Heap)=_),?_⟩;(conv=>whnf))))))
    rw [i64_nat (by omega), toNat_cast]
    refine ⟨by omega, ?_⟩
    conv => whnf
    refine ⟨by omega, by omega, ?_⟩
    rw [List.take_length, tail_drop]
    conv => whnf
    exact .inl ⟨rfl, Weak.cov (by (conv => whnf); (repeat (refine ⟨rfl, ?_⟩; (conv => whnf))); exact trivial), trivial⟩
  · have h4 := rest_le b s j
    by_cases hl : j + 1 = (cutV b s).length
    · obtain ⟨h1, h2⟩ := cut_last hl
      conv => whnf
      refine ⟨_, _, (idx_sound (restV b s j) b).frame rfl _, ?_⟩
      rw [idx_none h1]
      conv => whnf
      refine ⟨fun _ => ?_, fun h => absurd h (by simp)⟩
      (conv=>whnf);(try(refine ⟨(rfl:(_:Heap)=_),?_⟩;(conv=>whnf)))
      refine ⟨_, _, hz _ h2, ?_⟩
      conv => whnf
      refine ⟨fun _ => ?_, fun _ => ?_⟩ <;>
      · conv => whnf
        exact ⟨by simp, .inl rfl, _, .refl _, rfl, rfl⟩
    · obtain ⟨h1, h2, h3⟩ := cut_at (b := b) (s := s) (k := j) (by omega)
      have h5 := head_lt h1
      have hg : g = false := by rcases hend with h | h; exact h; exact absurd h hl
      subst hg
      conv => whnf
      refine ⟨_, _, (idx_sound (restV b s j) b).frame rfl _, ?_⟩
      rw [idx_some h1]
      conv => whnf
      refine ⟨fun h => absurd h (by simp), fun _ => ?_⟩
      (conv=>whnf);(try(refine ⟨(rfl:(_:Heap)=_),?_⟩;(conv=>whnf)))
      refine ⟨by omega, by omega, by simp; omega, ?_⟩
      rw [toNat_cast, List.drop_zero, head_take]
      conv => whnf
      refine ⟨_, _, hz _ h2, ?_⟩
      (conv=>whnf);(try(refine ⟨(rfl:(_:Heap)=_),?_⟩;(conv=>whnf)))
      (repeat (first | (refine ⟨fun _ => ?_, fun h => absurd h (by decide)⟩; (conv=>whnf);(try(refine ⟨(rfl:(_:Heap)=_),?_⟩;(conv=>whnf)))) | (refine ⟨fun h => absurd h (by decide), fun _ => ?_⟩; (conv=>whnf);(try(refine ⟨(rfl:(_:Heap)=_),?_⟩;(conv=>whnf))))))
      exact ⟨by simp, .inl rfl, _, .refl _, rfl, rfl⟩
end Go.Nam
namespace Go.Nam
open Go.Ab Go.Proofs Go.Hy Go.Gat
set_option linter.unusedVariables false
set_option maxRecDepth 8000
def hostV (s : Str) : Bool := decide (s.length ≤ 32) && (cutV 46 s).all nameV
theorem part_le (b : UInt8) (s : Str) (k : Nat) (p : Str) (h : (cutV b s)[k]? = some p) : p.length ≤ s.length := by
  have hk := (List.getElem?_eq_some_iff.1 h).1
  by_cases hl : k + 1 = (cutV b s).length
  · obtain ⟨h1, h2⟩ := cut_last hl
    rw [h2] at h; cases h; exact rest_le b s k
  · obtain ⟨h1, h2, h3⟩ := cut_at (b := b) (s := s) (k := k) (by omega)
    rw [h2] at h; cases h
    have := head_lt h1
    have := rest_le b s k
    omega
theorem host_sound (s : Str) (hs : s.length < 4611686018427387904) : SoundAt Tryz.prog 171 [] [Tx s] (Bo (hostV s)) [] := by
  refine SoundAt.of_wpA1 (fn := Tryz.f171) Tryz.func171 rfl ?_
  conv => whnf
  refine ⟨fun h => ?_, fun h => ?_⟩
  · (conv=>whnf);(try(refine ⟨(rfl:(_:Heap)=_),?_⟩;(conv=>whnf)))
    (exact ⟨.inl rfl, _, .refl _, congrArg (fun b => some (C.v (Value.bool b))) (by simp [hostV]; simp at h; omega)⟩)
  · (conv=>whnf);(try(refine ⟨(rfl:(_:Heap)=_),?_⟩;(conv=>whnf)))
    refine ⟨_, _, parts_sound _ s 46, ?_⟩
    conv => whnf
    have hn := cutV_ne 46 s
    have hlen : 0 < (cutV 46 s).length := by
      rcases Nat.eq_zero_or_pos (cutV 46 s).length with e | e
      · exact absurd (List.length_eq_zero_iff.1 e) hn
      · exact e
    have hple : ∀ (k : Nat) (p : Str), (cutV 46 s)[k]? = some p → p.length < 4611686018427387904 := fun k p hp => by have := part_le 46 s k p hp; omega
    refine ⟨_, .refl _, ?_⟩
    by_cases hall : (cutV 46 s).all nameV = true
    · have hname : ∀ (k : Nat) p, (cutV 46 s)[k]? = some p → nameV p = true := fun k p hp => List.all_eq_true.1 hall p (List.mem_of_getElem? hp)
      refine ⟨.normal, _, [⟨1, 4, 1, [[Bo false]], 0⟩], fun l r h1 h2 h3 h4 h5 => ⟨_, _, r, parts1_sound l s 46 hs (fun _ => ⟨1, 4, 1, [[Bo false]], 0⟩) (fun _ => [obR l r _]) ((cutV 46 s).length - 1) true (by omega) (.inr (by omega)) (fun k p hk hp => ?_) (fun p hp => ?_),
        rfl, by rw [h1]; decide, rfl, Nat.zero_le _, by rw [h2]; trivial, Weak.low 1 _ _ rfl rfl rfl⟩, ?_⟩
      · refine YieldS.of_wpA (id := 3) rfl h1 h2 h3 h4 h5 rfl rfl rfl ?_
        conv => whnf
        refine ⟨rfl, rfl, ?_⟩
        conv => whnf
        refine ⟨_, _, (name_sound p (hple _ _ hp)).frame rfl _, ?_⟩; (conv=>whnf);(try(refine ⟨(rfl:(_:Heap)=_),?_⟩;(conv=>whnf)))
        refine ⟨fun _ => ?_, fun h => absurd ((hname _ _ hp).symm.trans h : true = false) (by decide)⟩; (conv=>whnf);(try(refine ⟨(rfl:(_:Heap)=_),?_⟩;(conv=>whnf)))
        exact ⟨_, _, .refl _, rfl, .inl ⟨rfl, rfl, rfl⟩⟩
      · refine YieldS.of_wpA (id := 3) rfl h1 h2 h3 h4 h5 rfl rfl rfl ?_
        conv => whnf
        refine ⟨rfl, rfl, ?_⟩
        conv => whnf
        refine ⟨_, _, (name_sound p (hple _ _ hp)).frame rfl _, ?_⟩; (conv=>whnf);(try(refine ⟨(rfl:(_:Heap)=_),?_⟩;(conv=>whnf)))
        refine ⟨fun _ => ?_, fun h => absurd ((hname _ _ hp).symm.trans h : true = false) (by decide)⟩; (conv=>whnf);(try(refine ⟨(rfl:(_:Heap)=_),?_⟩;(conv=>whnf)))
        exact ⟨_, _, .refl _, rfl, .inl ⟨rfl, rfl, rfl⟩⟩
      · conv => whnf
        (exact ⟨.inl rfl, _, .refl _, congrArg (fun b => some (C.v (Value.bool b))) (by simp [hostV, hall]; simp at h; omega)⟩)
    · obtain ⟨j, hj⟩ : ∃ j, (cutV 46 s).findIdx? (fun p => !nameV p) = some j := by
        cases e : (cutV 46 s).findIdx? (fun p => !nameV p) with
        | some j => exact ⟨j, rfl⟩
        | none =>
          exfalso
          rw [List.findIdx?_eq_none_iff] at e
          exact hall (List.all_eq_true.2 fun x hx => by simpa using e x hx)
      rw [List.findIdx?_eq_some_iff_getElem] at hj
      obtain ⟨hjl, hj1, hj2⟩ := hj
      have hall : (cutV 46 s).all nameV = false := by simpa using hall
      refine ⟨.ret, _, [⟨1, 4, 1, [[Bo false]], 0⟩], fun l r h1 h2 h3 h4 h5 => ⟨_, _, left r .ret, parts1_sound l s 46 hs (fun _ => ⟨1, 4, 1, [[Bo false]], 0⟩) (fun k => [obR l (if k < j + 1 then r else left r .ret) _]) j false hjl (.inl rfl) (fun k p hk hp => ?_) (fun p hp => ?_),
        congrArg (fun x => some (obR l x _)) (if_neg (Nat.lt_irrefl (j + 1))), by simp, rfl, Nat.zero_le _, trivial, Weak.low 1 _ _ rfl rfl rfl⟩, ?_⟩
      · have e1 : k < j + 1 := by omega
        have e2 : k + 1 < j + 1 := by omega
        simp only [if_pos e1, if_pos e2]
        refine YieldS.of_wpA (id := 3) rfl h1 h2 h3 h4 h5 rfl rfl rfl ?_
        conv => whnf
        refine ⟨rfl, rfl, ?_⟩
        conv => whnf
        refine ⟨_, _, (name_sound p (hple _ _ hp)).frame rfl _, ?_⟩; (conv=>whnf);(try(refine ⟨(rfl:(_:Heap)=_),?_⟩;(conv=>whnf)))
        have hname : nameV p = true := by
          have h6 := hj2 k hk
          rw [List.getElem?_eq_getElem (by omega)] at hp
          cases hp
          simpa using h6
        refine ⟨fun _ => ?_, fun h => absurd ((hname).symm.trans h : true = false) (by decide)⟩; (conv=>whnf);(try(refine ⟨(rfl:(_:Heap)=_),?_⟩;(conv=>whnf)))
        exact ⟨_, _, .refl _, rfl, .inl ⟨rfl, rfl, rfl⟩⟩
      · simp only [if_pos (Nat.lt_succ_self j), if_neg (Nat.lt_irrefl (j + 1))]
        refine YieldS.of_wpA (id := 3) rfl h1 h2 h3 h4 h5 rfl rfl rfl ?_
        conv => whnf
        refine ⟨rfl, rfl, ?_⟩
        conv => whnf
        refine ⟨_, _, (name_sound p (hple _ _ hp)).frame rfl _, ?_⟩; (conv=>whnf);(try(refine ⟨(rfl:(_:Heap)=_),?_⟩;(conv=>whnf)))
        have hname : nameV p = false := by
          rw [List.getElem?_eq_getElem hjl] at hp
          cases hp
          simpa using hj1
        refine ⟨fun h => absurd ((hname).symm.trans h : false = true) (by decide), fun _ => ?_⟩; (conv=>whnf);(try(refine ⟨(rfl:(_:Heap)=_),?_⟩;(conv=>whnf)))
        exact ⟨_, _, .refl _, rfl, .inr ⟨rfl, .inl ⟨rfl, rfl⟩⟩⟩
      · conv => whnf
        (exact ⟨.inl rfl, _, .refl _, congrArg (fun b => some (C.v (Value.bool b))) (by simp [hostV, hall])⟩)
abbrev pk (b : UInt8) (s : Str) (k : Nat) : List (List C) := ((cutV b s).take k).map encT
end Go.Nam
namespace Go.Nam
open Go.Ab Go.Proofs Go.Hy Go.Gat
set_option linter.unusedVariables false
set_option maxRecDepth 8000
def hasP (s p : Str) : Bool := decide (p.length ≤ s.length) && (s.take p.length == p)
theorem hasPrefix_sound (s p : Str) : SoundAt Tryz.prog 186 [] [Tx s, Tx p] (Bo (hasP s p)) [] := by
  refine SoundAt.of_wpA1 (fn := Tryz.f186) Tryz.func186 rfl ?_
  conv => whnf
  refine ⟨fun h => ?_, fun h => ?_⟩
  · (conv=>whnf);(try(refine ⟨(rfl:(_:Heap)=_),?_⟩;(conv=>whnf)))
    refine ⟨by omega, by omega, by simp at h; omega, ?_⟩
    rw [toNat_cast, List.drop_zero]
    conv => whnf
    (repeat' (first | (refine ⟨fun _ => ?_, fun _ => ?_⟩ <;> (conv => whnf)) | fail))
    all_goals (exact ⟨.inl rfl, _, .refl _, congrArg (fun b => some (C.v (Value.bool b))) (by simp_all [hasP])⟩)
  · conv => whnf
    (exact ⟨.inl rfl, _, .refl _, congrArg (fun b => some (C.v (Value.bool b))) (by simp_all [hasP]; intros; omega)⟩)
abbrev tSB (r : Str × Bool) : C := .tup [Tx r.1, Bo r.2]
def cutP (s p : Str) : Str × Bool := if hasP s p then (s.drop p.length, true) else (s, false)
theorem cutPre1_sound (s p : Str) : SoundAt Tryz.prog 182 [] [Tx s, Tx p] (tSB (cutP s p)) [] := by
  refine SoundAt.of_wpA1 (fn := Tryz.f182) Tryz.func182 rfl ?_
  conv => whnf
  refine ⟨_, _, (hasPrefix_sound s p).frame rfl _, ?_⟩; (conv=>whnf);(try(refine ⟨(rfl:(_:Heap)=_),?_⟩;(conv=>whnf)))
  refine ⟨fun h => ?_, fun h => ?_⟩
  · (conv=>whnf);(try(refine ⟨(rfl:(_:Heap)=_),?_⟩;(conv=>whnf)))
    have h' : p.length ≤ s.length := by simp [hasP] at h; exact h.1
    refine ⟨by omega, by omega, by omega, ?_⟩
    rw [List.take_length, toNat_cast]
    conv => whnf
    have e : cutP s p = (s.drop p.length, true) := by unfold cutP; rw [if_pos h]
    rw [e]
    exact ⟨.inl rfl, _, .refl _, rfl⟩
  · conv => whnf
    have e : cutP s p = (s, false) := by unfold cutP; rw [if_neg (by simp [h])]
    rw [e]
    exact ⟨.inl rfl, _, .refl _, rfl⟩
theorem cutPre_sound (s p : Str) : SoundAt Tryz.prog 170 [] [Tx s, Tx p] (tSB (cutP s p)) [] := by
  refine SoundAt.of_wpA1 (fn := Tryz.f170) Tryz.func170 rfl ?_
  conv => whnf
  refine ⟨_, _, (cutPre1_sound s p).frame rfl _, ?_⟩; (conv=>whnf);(try(refine ⟨(rfl:(_:Heap)=_),?_⟩;(conv=>whnf)))
  (repeat' (first | (refine ⟨fun _ => ?_, fun _ => ?_⟩ <;> (conv => whnf)) | fail))
  all_goals
    rename_i h
    exact ⟨.inl rfl, _, .refl _, congrArg (fun b => some (C.tup [Tx (cutP s p).1, Bo b])) h.symm⟩
def patV (s : Str) : Bool := if hasP s [42, 46] then hostV (s.drop 2) else s == [42] || hostV s
theorem pattern_sound (s : Str) (hs : s.length < 4611686018427387904) : SoundAt Tryz.prog 146 [] [Tx s] (Bo (patV s)) [] := by
  refine SoundAt.of_wpA1 (fn := Tryz.f146) Tryz.func146 rfl ?_
  conv => whnf
  refine ⟨_, _, (cutPre_sound s [42, 46]).frame rfl _, ?_⟩; (conv=>whnf);(try(refine ⟨(rfl:(_:Heap)=_),?_⟩;(conv=>whnf)))
  refine ⟨fun h => ?_, fun h => ?_⟩
  · have h1 : hasP s [42, 46] = true := by
      cases e : hasP s [42, 46] with
      | true => rfl
      | false => simp [cutP, e] at h
    have e : cutP s [42, 46] = (s.drop 2, true) := by unfold cutP; rw [if_pos h1]; rfl
    rw [e]
    (conv=>whnf);(try(refine ⟨(rfl:(_:Heap)=_),?_⟩;(conv=>whnf)))
    refine ⟨_, _, (host_sound (s.drop 2) (by simp; omega)).frame rfl _, ?_⟩; (conv=>whnf);(try(refine ⟨(rfl:(_:Heap)=_),?_⟩;(conv=>whnf)))
    (repeat' (first | (refine ⟨fun _ => ?_, fun _ => ?_⟩ <;> (conv => whnf)) | fail))
    all_goals (exact ⟨.inl rfl, _, .refl _, congrArg (fun b => some (C.v (Value.bool b))) (by simp_all [patV])⟩)
  · have h1 : hasP s [42, 46] = false := by
      cases e : hasP s [42, 46] with
      | false => rfl
      | true => simp [cutP, e] at h
    have e : cutP s [42, 46] = (s, false) := by unfold cutP; rw [if_neg (by simp [h1])]
    rw [e]
    (conv=>whnf);(try(refine ⟨(rfl:(_:Heap)=_),?_⟩;(conv=>whnf)))
    refine ⟨fun h2 => ?_, fun h2 => ?_⟩
    · (conv=>whnf);(try(refine ⟨(rfl:(_:Heap)=_),?_⟩;(conv=>whnf)))
      (exact ⟨.inl rfl, _, .refl _, congrArg (fun b => some (C.v (Value.bool b))) (by simp_all [patV])⟩)
    · (conv=>whnf);(try(refine ⟨(rfl:(_:Heap)=_),?_⟩;(conv=>whnf)))
      refine ⟨_, _, (host_sound s hs).frame rfl _, ?_⟩; (conv=>whnf);(try(refine ⟨(rfl:(_:Heap)=_),?_⟩;(conv=>whnf)))
      (repeat' (first | (refine ⟨fun _ => ?_, fun _ => ?_⟩ <;> (conv => whnf)) | fail))
      all_goals (exact ⟨.inl rfl, _, .refl _, congrArg (fun b => some (C.v (Value.bool b))) (by simp_all [patV])⟩)
end Go.Nam
namespace Go.Nam
open Go.Ab Go.Proofs Go.Hy Go.Gat
set_option linter.unusedVariables false
set_option maxRecDepth 8000
def pathV (s : Str) : Bool := decide (0 < s.length) && decide (s.length ≤ 32) && (match s with | c :: _ => bI c == 47 | [] => false) && allV wordI s 47
theorem path_sound (s : Str) (hs : s.length < 4611686018427387904) : SoundAt Tryz.prog 147 [] [Tx s] (Bo (pathV s)) [] := by
  refine SoundAt.of_wpA1 (fn := Tryz.f147) Tryz.func147 rfl ?_
  cases s with
  | nil =>
    conv => whnf
    (repeat (first | (refine ⟨fun _ => ?_, fun h => absurd h (by decide)⟩; (conv=>whnf);(try(refine ⟨(rfl:(_:Heap)=_),?_⟩;(conv=>whnf)))) | (refine ⟨fun h => absurd h (by decide), fun _ => ?_⟩; (conv=>whnf);(try(refine ⟨(rfl:(_:Heap)=_),?_⟩;(conv=>whnf))))))
    exact ⟨.inl rfl, _, .refl _, rfl⟩
  | cons c s =>
    conv => whnf
    refine ⟨fun _ => ?_, fun h => absurd h (by simp <;> omega)⟩
    conv => whnf
    refine ⟨fun h1 => ?_, fun h1 => ?_⟩
    · conv => whnf
      refine ⟨by omega, c, rfl, ?_⟩
      conv => whnf
      refine ⟨fun h2 => ?_, fun h2 => ?_⟩
      · conv => whnf
        refine ⟨_, _, (word_sound).frame rfl _, ?_⟩; (conv=>whnf);(try(refine ⟨(rfl:(_:Heap)=_),?_⟩;(conv=>whnf)))
        refine ⟨_, _, (all_sound (c :: s) 47 hs).frame rfl _, ?_⟩; (conv=>whnf);(try(refine ⟨(rfl:(_:Heap)=_),?_⟩;(conv=>whnf)))
        have h1' : s.length ≤ 31 := by have := h1; simp at this; omega
        have e : pathV (c :: s) = allV wordI (c :: s) 47 := by unfold pathV; simp [h2]; omega
        refine ⟨fun h3 => ?_, fun h3 => ?_⟩
        all_goals ((conv => whnf); (exact ⟨.inl rfl, _, .refl _, congrArg (fun b => some (C.v (Value.bool b))) (by rw [e, h3])⟩))
      · conv => whnf
        (exact ⟨.inl rfl, _, .refl _, congrArg (fun b => some (C.v (Value.bool b))) (by simp [pathV, h2])⟩)
    · conv => whnf
      (exact ⟨.inl rfl, _, .refl _, congrArg (fun b => some (C.v (Value.bool b))) (by simp [pathV]; simp at h1; omega)⟩)
def refP (b : UInt8) (s : Str) : Nat → List Str × Nat
  | 0 => ([], 0)
  | k + 1 => match s[k]? with
    | some c => if c == b then ((refP b s k).1 ++ [(s.take k).drop (refP b s k).2], k + 1) else refP b s k
    | none => refP b s k
end Go.Nam
namespace Go.Nam
open Go.Ab Go.Proofs Go.Hy Go.Gat
set_option linter.unusedVariables false
set_option maxRecDepth 8000
abbrev n46 : UInt8 := 46
end Go.Nam
namespace Go.Nam
open Go.Ab Go.Proofs Go.Hy Go.Gat
set_option linter.unusedVariables false
set_option maxRecDepth 8000
theorem host_head {c : UInt8} {s : Str} (h : hostV (c :: s) = true) : lowI (bI c) = true := by
  unfold hostV at h
  simp only [Bool.and_eq_true, List.all_eq_true] at h
  by_cases e : c = 46
  · subst e
    have := h.2 [] (by simp [cutV])
    exact absurd this (by decide)
  · have h1 : (c == 46) = false := by simpa using e
    cases h3 : cutV 46 s with
    | nil => exact absurd h3 (cutV_ne _ s)
    | cons x xs =>
      have := h.2 (c :: x) (by simp [cutV, h1, h3])
      simp only [nameV, Bool.and_eq_true] at this
      exact this.1.2
theorem path_pat {s : Str} (h : pathV s = true) : patV s = false := by
  match s, h with
  | [], h => exact absurd h (by decide)
  | c :: s, h =>
    have hc : c = 47 := by
      simp only [pathV, Bool.and_eq_true, beq_iff_eq] at h
      exact UInt8.toNat_inj.1 (by have := h.1.2; simp [bI] at this; show c.toNat = 47; omega)
    subst hc
    have h1 : hasP (47 :: s) [42, 46] = false := by simp [hasP]
    have h2 : hostV (47 :: s) = false := by
      cases e : hostV (47 :: s) with
      | false => rfl
      | true => exact absurd (host_head e) (by decide)
    simp [patV, h1, h2]
end Go.Nam
namespace Go.Hos
open Go.Ab Go.Proofs Go.Hy Go.Gat Go.Nam
set_option linter.unusedVariables false
set_option linter.unusedSimpArgs false
set_option maxRecDepth 8000
def sufV (s t : Str) : Bool := decide (t.length ≤ s.length) && (s.drop (s.length - t.length) == t)
theorem suf1_sound (s t : Str) (hs : s.length < 8000000000000) : SoundAt Tryz.prog 200 [] [Tx s, Tx t] (Bo (sufV s t)) [] := by
  refine SoundAt.of_wpA1 (fn := Tryz.f200) Tryz.func200 rfl ?_
  conv => whnf
  refine ⟨fun h => ?_, fun h => ?_⟩
  · have h' : t.length ≤ s.length := by simp at h; omega
    have w : IntKind.i64.wrap ((s.length : Int) - (t.length : Int)) = (s.length - t.length : Nat) := by rw [i64_ok (by omega) (by omega)]; omega
    (conv=>whnf);(try(refine ⟨(rfl:(_:Heap)=_),?_⟩;(conv=>whnf)))
    rw [w]
    refine ⟨by omega, by omega, by omega, ?_⟩
    rw [List.take_length, toNat_cast]
    (conv=>whnf);(try(refine ⟨(rfl:(_:Heap)=_),?_⟩;(conv=>whnf)))
    (repeat' (first | (refine ⟨fun _ => ?_, fun _ => ?_⟩ <;> (conv => whnf)) | fail))
    all_goals (exact ⟨.inl rfl, _, .refl _, congrArg (fun b => some (C.v (Value.bool b))) (by simp_all [sufV])⟩)
  · (conv=>whnf);(try(refine ⟨(rfl:(_:Heap)=_),?_⟩;(conv=>whnf)))
    (exact ⟨.inl rfl, _, .refl _, congrArg (fun b => some (C.v (Value.bool b))) (by simp [sufV]; simp at h; intros; omega)⟩)
theorem suf_sound (s t : Str) (hs : s.length < 8000000000000) : SoundAt Tryz.prog 199 [] [Tx s, Tx t] (Bo (sufV s t)) [] := by
  refine SoundAt.of_wpA1 (fn := Tryz.f199) Tryz.func199 rfl ?_
  conv => whnf
  refine ⟨_, _, (suf1_sound s t hs).frame rfl _, ?_⟩; (conv=>whnf);(try(refine ⟨(rfl:(_:Heap)=_),?_⟩;(conv=>whnf)))
  (repeat' (first | (refine ⟨fun _ => ?_, fun _ => ?_⟩ <;> (conv => whnf)) | fail))
  all_goals (rename_i h; (exact ⟨.inl rfl, _, .refl _, congrArg (fun b => some (C.v (Value.bool b))) (by exact h.symm)⟩))
def wideV (p h : Str) : Bool := match p with
  | c :: t => c == 42 && (t == [] || (decide (t.length < h.length) && sufV h t))
  | [] => false
def matchV (p h : Str) : Bool := patV p && hostV h && (p == h || wideV p h)
theorem cut42 (c : UInt8) (t : Str) : cutP (c :: t) [42] = if c == 42 then (t, true) else (c :: t, false) := by
  unfold cutP hasP
  by_cases h : c = 42
  · subst h; simp
  · simp [h]
theorem pat_nil : patV [] = false := by decide
theorem match_sound (p h : Str) (hp : p.length < 8000000000000) (hh : h.length < 8000000000000) : SoundAt Tryz.prog 197 [] [Tx p, Tx h] (Bo (matchV p h)) [] := by
  refine SoundAt.of_wpA1 (fn := Tryz.f197) Tryz.func197 rfl ?_
  conv => whnf
  refine ⟨_, _, (pattern_sound p (by omega)).frame rfl _, ?_⟩; (conv=>whnf);(try(refine ⟨(rfl:(_:Heap)=_),?_⟩;(conv=>whnf)))
  refine ⟨fun h1 => ?_, fun h1 => ?_⟩
  · (conv=>whnf);(try(refine ⟨(rfl:(_:Heap)=_),?_⟩;(conv=>whnf)))
    (repeat (first | (refine ⟨fun _ => ?_, fun h => absurd h (by decide)⟩; (conv=>whnf);(try(refine ⟨(rfl:(_:Heap)=_),?_⟩;(conv=>whnf)))) | (refine ⟨fun h => absurd h (by decide), fun _ => ?_⟩; (conv=>whnf);(try(refine ⟨(rfl:(_:Heap)=_),?_⟩;(conv=>whnf))))))
    refine ⟨_, _, (host_sound h (by omega)).frame rfl _, ?_⟩; (conv=>whnf);(try(refine ⟨(rfl:(_:Heap)=_),?_⟩;(conv=>whnf)))
    refine ⟨fun h2 => ?_, fun h2 => ?_⟩
    · (conv=>whnf);(try(refine ⟨(rfl:(_:Heap)=_),?_⟩;(conv=>whnf)))
      (repeat (first | (refine ⟨fun _ => ?_, fun h => absurd h (by decide)⟩; (conv=>whnf);(try(refine ⟨(rfl:(_:Heap)=_),?_⟩;(conv=>whnf)))) | (refine ⟨fun h => absurd h (by decide), fun _ => ?_⟩; (conv=>whnf);(try(refine ⟨(rfl:(_:Heap)=_),?_⟩;(conv=>whnf))))))
      refine ⟨_, _, (cutPre_sound p [42]).frame rfl _, ?_⟩; (conv=>whnf);(try(refine ⟨(rfl:(_:Heap)=_),?_⟩;(conv=>whnf)))
      cases p with
      | nil => rw [pat_nil] at h1; cases h1
      | cons c t =>
        rw [cut42]
        by_cases hc : (c == 42) = true
        · rw [if_pos hc]
          refine ⟨fun _ => ?_, fun h => absurd h (by simp)⟩; (conv=>whnf);(try(refine ⟨(rfl:(_:Heap)=_),?_⟩;(conv=>whnf)))
          refine ⟨fun h3 => ?_, fun h3 => ?_⟩
          · (conv=>whnf);(try(refine ⟨(rfl:(_:Heap)=_),?_⟩;(conv=>whnf)))
            (repeat (first | (refine ⟨fun _ => ?_, fun h => absurd h (by decide)⟩; (conv=>whnf);(try(refine ⟨(rfl:(_:Heap)=_),?_⟩;(conv=>whnf)))) | (refine ⟨fun h => absurd h (by decide), fun _ => ?_⟩; (conv=>whnf);(try(refine ⟨(rfl:(_:Heap)=_),?_⟩;(conv=>whnf))))))
            (exact ⟨.inl rfl, _, .refl _, congrArg (fun b => some (C.v (Value.bool b))) (by simp_all [matchV])⟩)
          · (conv=>whnf);(try(refine ⟨(rfl:(_:Heap)=_),?_⟩;(conv=>whnf)))
            refine ⟨fun h4 => ?_, fun h4 => ?_⟩
            · (conv=>whnf);(try(refine ⟨(rfl:(_:Heap)=_),?_⟩;(conv=>whnf)))
              (repeat (first | (refine ⟨fun _ => ?_, fun h => absurd h (by decide)⟩; (conv=>whnf);(try(refine ⟨(rfl:(_:Heap)=_),?_⟩;(conv=>whnf)))) | (refine ⟨fun h => absurd h (by decide), fun _ => ?_⟩; (conv=>whnf);(try(refine ⟨(rfl:(_:Heap)=_),?_⟩;(conv=>whnf))))))
              (exact ⟨.inl rfl, _, .refl _, congrArg (fun b => some (C.v (Value.bool b))) (by simp_all [matchV, wideV])⟩)
            · (conv=>whnf);(try(refine ⟨(rfl:(_:Heap)=_),?_⟩;(conv=>whnf)))
              refine ⟨fun h5 => ?_, fun h5 => ?_⟩
              · (conv=>whnf);(try(refine ⟨(rfl:(_:Heap)=_),?_⟩;(conv=>whnf)))
                refine ⟨_, _, (suf_sound h t hh).frame rfl _, ?_⟩; (conv=>whnf);(try(refine ⟨(rfl:(_:Heap)=_),?_⟩;(conv=>whnf)))
                (repeat' (first | (refine ⟨fun _ => ?_, fun _ => ?_⟩ <;> (conv => whnf)) | fail))
                all_goals (rename_i h6; (exact ⟨.inl rfl, _, .refl _, congrArg (fun b => some (C.v (Value.bool b))) (by simp at hc; subst hc; simp at h3 h4 h5; simp [matchV, wideV, h1, h2, h3, h4, h5, h6])⟩))
              · (conv=>whnf);(try(refine ⟨(rfl:(_:Heap)=_),?_⟩;(conv=>whnf)))
                (exact ⟨.inl rfl, _, .refl _, congrArg (fun b => some (C.v (Value.bool b))) (by simp at hc; subst hc; simp at h3 h4 h5; simp [matchV, wideV, h1, h2, h3, h4]; intros; omega)⟩)
        · rw [if_neg hc]
          refine ⟨fun h => absurd h (by simp), fun _ => ?_⟩; (conv=>whnf);(try(refine ⟨(rfl:(_:Heap)=_),?_⟩;(conv=>whnf)))
          refine ⟨fun h3 => ?_, fun h3 => ?_⟩
          · (conv=>whnf);(try(refine ⟨(rfl:(_:Heap)=_),?_⟩;(conv=>whnf)))
            (repeat (first | (refine ⟨fun _ => ?_, fun h => absurd h (by decide)⟩; (conv=>whnf);(try(refine ⟨(rfl:(_:Heap)=_),?_⟩;(conv=>whnf)))) | (refine ⟨fun h => absurd h (by decide), fun _ => ?_⟩; (conv=>whnf);(try(refine ⟨(rfl:(_:Heap)=_),?_⟩;(conv=>whnf))))))
            (exact ⟨.inl rfl, _, .refl _, congrArg (fun b => some (C.v (Value.bool b))) (by simp_all [matchV])⟩)
          · (conv=>whnf);(try(refine ⟨(rfl:(_:Heap)=_),?_⟩;(conv=>whnf)))
            (exact ⟨.inl rfl, _, .refl _, congrArg (fun b => some (C.v (Value.bool b))) (by simp at h3 hc; simp [matchV, wideV, h1, h2, h3, hc])⟩)
    · (conv=>whnf);(try(refine ⟨(rfl:(_:Heap)=_),?_⟩;(conv=>whnf)))
      (repeat (first | (refine ⟨fun _ => ?_, fun h => absurd h (by decide)⟩; (conv=>whnf);(try(refine ⟨(rfl:(_:Heap)=_),?_⟩;(conv=>whnf)))) | (refine ⟨fun h => absurd h (by decide), fun _ => ?_⟩; (conv=>whnf);(try(refine ⟨(rfl:(_:Heap)=_),?_⟩;(conv=>whnf))))))
      (exact ⟨.inl rfl, _, .refl _, congrArg (fun b => some (C.v (Value.bool b))) (by simp_all [matchV])⟩)
  · (conv=>whnf);(try(refine ⟨(rfl:(_:Heap)=_),?_⟩;(conv=>whnf)))
    (repeat (first | (refine ⟨fun _ => ?_, fun h => absurd h (by decide)⟩; (conv=>whnf);(try(refine ⟨(rfl:(_:Heap)=_),?_⟩;(conv=>whnf)))) | (refine ⟨fun h => absurd h (by decide), fun _ => ?_⟩; (conv=>whnf);(try(refine ⟨(rfl:(_:Heap)=_),?_⟩;(conv=>whnf))))))
    (exact ⟨.inl rfl, _, .refl _, congrArg (fun b => some (C.v (Value.bool b))) (by simp_all [matchV])⟩)
def underV (p t : Str) : Bool := pathV p && pathV t && hasP p t && (p.drop t.length == [] || sufV t [47] || (p.drop t.length).head? == some 47)
theorem head47 {s : Str} {c : UInt8} (h : s[0]? = some c) : (s.head? == some 47) = (bI c == 47) := by
  rw [List.head?_eq_getElem?, h]
  by_cases e : c = 47
  · subst e; rfl
  · have h1 : ¬ bI c = 47 := fun h => e (by
      unfold bI at h
      have h' : c.toNat = 47 := by omega
      exact UInt8.toNat_inj.1 (by rw [h']; rfl))
    have h2 : (c == 47) = false := by simpa using e
    have h3 : (bI c == 47) = false := by simpa using h1
    rw [h3]
    simpa using e
theorem under_sound (p t : Str) (hp : p.length < 8000000000000) (ht : t.length < 8000000000000) : SoundAt Tryz.prog 198 [] [Tx p, Tx t] (Bo (underV p t)) [] := by
  refine SoundAt.of_wpA1 (fn := Tryz.f198) Tryz.func198 rfl ?_
  conv => whnf
  refine ⟨_, _, (path_sound p (by omega)).frame rfl _, ?_⟩; (conv=>whnf);(try(refine ⟨(rfl:(_:Heap)=_),?_⟩;(conv=>whnf)))
  refine ⟨fun h1 => ?_, fun h1 => ?_⟩
  · (conv=>whnf);(try(refine ⟨(rfl:(_:Heap)=_),?_⟩;(conv=>whnf)))
    (repeat (first | (refine ⟨fun _ => ?_, fun h => absurd h (by decide)⟩; (conv=>whnf);(try(refine ⟨(rfl:(_:Heap)=_),?_⟩;(conv=>whnf)))) | (refine ⟨fun h => absurd h (by decide), fun _ => ?_⟩; (conv=>whnf);(try(refine ⟨(rfl:(_:Heap)=_),?_⟩;(conv=>whnf))))))
    refine ⟨_, _, (path_sound t (by omega)).frame rfl _, ?_⟩; (conv=>whnf);(try(refine ⟨(rfl:(_:Heap)=_),?_⟩;(conv=>whnf)))
    refine ⟨fun h2 => ?_, fun h2 => ?_⟩
    · (conv=>whnf);(try(refine ⟨(rfl:(_:Heap)=_),?_⟩;(conv=>whnf)))
      (repeat (first | (refine ⟨fun _ => ?_, fun h => absurd h (by decide)⟩; (conv=>whnf);(try(refine ⟨(rfl:(_:Heap)=_),?_⟩;(conv=>whnf)))) | (refine ⟨fun h => absurd h (by decide), fun _ => ?_⟩; (conv=>whnf);(try(refine ⟨(rfl:(_:Heap)=_),?_⟩;(conv=>whnf))))))
      refine ⟨_, _, (cutPre_sound p t).frame rfl _, ?_⟩; (conv=>whnf);(try(refine ⟨(rfl:(_:Heap)=_),?_⟩;(conv=>whnf)))
      by_cases h3 : hasP p t = true
      · have e : cutP p t = (p.drop t.length, true) := by unfold cutP; rw [if_pos h3]
        rw [e]
        refine ⟨fun _ => ?_, fun h => absurd h (by simp)⟩; (conv=>whnf);(try(refine ⟨(rfl:(_:Heap)=_),?_⟩;(conv=>whnf)))
        refine ⟨fun h4 => ?_, fun h4 => ?_⟩
        · (conv=>whnf);(try(refine ⟨(rfl:(_:Heap)=_),?_⟩;(conv=>whnf)))
          (repeat (first | (refine ⟨fun _ => ?_, fun h => absurd h (by decide)⟩; (conv=>whnf);(try(refine ⟨(rfl:(_:Heap)=_),?_⟩;(conv=>whnf)))) | (refine ⟨fun h => absurd h (by decide), fun _ => ?_⟩; (conv=>whnf);(try(refine ⟨(rfl:(_:Heap)=_),?_⟩;(conv=>whnf))))))
          (exact ⟨.inl rfl, _, .refl _, congrArg (fun b => some (C.v (Value.bool b))) (by simp_all [underV])⟩)
        · (conv=>whnf);(try(refine ⟨(rfl:(_:Heap)=_),?_⟩;(conv=>whnf)))
          refine ⟨_, _, (suf_sound t [47] ht).frame rfl _, ?_⟩; (conv=>whnf);(try(refine ⟨(rfl:(_:Heap)=_),?_⟩;(conv=>whnf)))
          refine ⟨fun h5 => ?_, fun h5 => ?_⟩
          · (conv=>whnf);(try(refine ⟨(rfl:(_:Heap)=_),?_⟩;(conv=>whnf)))
            (repeat (first | (refine ⟨fun _ => ?_, fun h => absurd h (by decide)⟩; (conv=>whnf);(try(refine ⟨(rfl:(_:Heap)=_),?_⟩;(conv=>whnf)))) | (refine ⟨fun h => absurd h (by decide), fun _ => ?_⟩; (conv=>whnf);(try(refine ⟨(rfl:(_:Heap)=_),?_⟩;(conv=>whnf))))))
            (exact ⟨.inl rfl, _, .refl _, congrArg (fun b => some (C.v (Value.bool b))) (by simp_all [underV])⟩)
          · (conv=>whnf);(try(refine ⟨(rfl:(_:Heap)=_),?_⟩;(conv=>whnf)))
            obtain ⟨c, hc⟩ : ∃ c, (p.drop t.length)[0]? = some c := by
              cases hd : p.drop t.length with
              | nil => rw [hd] at h4; simp at h4
              | cons c _ => exact ⟨c, rfl⟩
            refine ⟨by omega, c, hc, ?_⟩
            (conv=>whnf);(try(refine ⟨(rfl:(_:Heap)=_),?_⟩;(conv=>whnf)))
            (repeat' (first | (refine ⟨fun _ => ?_, fun _ => ?_⟩ <;> (conv => whnf)) | fail))
            all_goals (rename_i h6; (exact ⟨.inl rfl, _, .refl _, congrArg (fun b => some (C.v (Value.bool b))) (by simp only [underV, h1, h2, h3, h4, h5, head47 hc]; simpa using h6.symm)⟩))
      · have e : cutP p t = (p, false) := by unfold cutP; rw [if_neg h3]
        rw [e]
        refine ⟨fun h => absurd h (by simp), fun _ => ?_⟩; (conv=>whnf);(try(refine ⟨(rfl:(_:Heap)=_),?_⟩;(conv=>whnf)))
        (exact ⟨.inl rfl, _, .refl _, congrArg (fun b => some (C.v (Value.bool b))) (by simp_all [underV])⟩)
    · (conv=>whnf);(try(refine ⟨(rfl:(_:Heap)=_),?_⟩;(conv=>whnf)))
      (repeat (first | (refine ⟨fun _ => ?_, fun h => absurd h (by decide)⟩; (conv=>whnf);(try(refine ⟨(rfl:(_:Heap)=_),?_⟩;(conv=>whnf)))) | (refine ⟨fun h => absurd h (by decide), fun _ => ?_⟩; (conv=>whnf);(try(refine ⟨(rfl:(_:Heap)=_),?_⟩;(conv=>whnf))))))
      (exact ⟨.inl rfl, _, .refl _, congrArg (fun b => some (C.v (Value.bool b))) (by simp_all [underV])⟩)
  · (conv=>whnf);(try(refine ⟨(rfl:(_:Heap)=_),?_⟩;(conv=>whnf)))
    (repeat (first | (refine ⟨fun _ => ?_, fun h => absurd h (by decide)⟩; (conv=>whnf);(try(refine ⟨(rfl:(_:Heap)=_),?_⟩;(conv=>whnf)))) | (refine ⟨fun h => absurd h (by decide), fun _ => ?_⟩; (conv=>whnf);(try(refine ⟨(rfl:(_:Heap)=_),?_⟩;(conv=>whnf))))))
    (exact ⟨.inl rfl, _, .refl _, congrArg (fun b => some (C.v (Value.bool b))) (by simp_all [underV])⟩)
def weightV (p : Str) : Int := if patV p then (if hasP p [42, 46] then ((p.length - 2 : Nat) : Int) else if p == [42] then 0 else 100) else 0
theorem weight_sound (p : Str) (hp : p.length < 8000000000000) : SoundAt Tryz.prog 195 [] [Tx p] (I (weightV p)) [] := by
  refine SoundAt.of_wpA1 (fn := Tryz.f195) Tryz.func195 rfl ?_
  conv => whnf
  refine ⟨_, _, (pattern_sound p (by omega)).frame rfl _, ?_⟩; (conv=>whnf);(try(refine ⟨(rfl:(_:Heap)=_),?_⟩;(conv=>whnf)))
  refine ⟨fun h1 => ?_, fun h1 => ?_⟩
  · (conv=>whnf);(try(refine ⟨(rfl:(_:Heap)=_),?_⟩;(conv=>whnf)))
    (repeat (first | (refine ⟨fun _ => ?_, fun h => absurd h (by decide)⟩; (conv=>whnf);(try(refine ⟨(rfl:(_:Heap)=_),?_⟩;(conv=>whnf)))) | (refine ⟨fun h => absurd h (by decide), fun _ => ?_⟩; (conv=>whnf);(try(refine ⟨(rfl:(_:Heap)=_),?_⟩;(conv=>whnf))))))
    refine ⟨_, _, (cutPre_sound p [42, 46]).frame rfl _, ?_⟩; (conv=>whnf);(try(refine ⟨(rfl:(_:Heap)=_),?_⟩;(conv=>whnf)))
    by_cases h3 : hasP p [42, 46] = true
    · have e : cutP p [42, 46] = (p.drop 2, true) := by unfold cutP; rw [if_pos h3]; rfl
      have ew : weightV p = ((p.drop 2).length : Nat) := by simp [weightV, h1, h3]
      rw [e, ew]
      refine ⟨fun _ => ?_, fun h => absurd h (by simp)⟩; (conv=>whnf);(try(refine ⟨(rfl:(_:Heap)=_),?_⟩;(conv=>whnf)))
      exact ⟨.inl rfl, _, .refl _, rfl⟩
    · have e : cutP p [42, 46] = (p, false) := by unfold cutP; rw [if_neg h3]
      rw [e]
      refine ⟨fun h => absurd h (by simp), fun _ => ?_⟩; (conv=>whnf);(try(refine ⟨(rfl:(_:Heap)=_),?_⟩;(conv=>whnf)))
      refine ⟨fun h4 => ?_, fun h4 => ?_⟩
      · have ew : weightV p = 0 := by simp_all [weightV]
        rw [ew]
        (conv=>whnf);(try(refine ⟨(rfl:(_:Heap)=_),?_⟩;(conv=>whnf)))
        exact ⟨.inl rfl, _, .refl _, rfl⟩
      · have ew : weightV p = 100 := by simp_all [weightV]
        rw [ew]
        (conv=>whnf);(try(refine ⟨(rfl:(_:Heap)=_),?_⟩;(conv=>whnf)))
        exact ⟨.inl rfl, _, .refl _, rfl⟩
  · have ew : weightV p = 0 := by simp_all [weightV]
    rw [ew]
    (conv=>whnf);(try(refine ⟨(rfl:(_:Heap)=_),?_⟩;(conv=>whnf)))
    (repeat (first | (refine ⟨fun _ => ?_, fun h => absurd h (by decide)⟩; (conv=>whnf);(try(refine ⟨(rfl:(_:Heap)=_),?_⟩;(conv=>whnf)))) | (refine ⟨fun h => absurd h (by decide), fun _ => ?_⟩; (conv=>whnf);(try(refine ⟨(rfl:(_:Heap)=_),?_⟩;(conv=>whnf))))))
    exact ⟨.inl rfl, _, .refl _, rfl⟩
def betterV (p q p' q' : Str) : Bool := if weightV p = weightV p' then decide (q'.length < q.length) else decide (weightV p' < weightV p)
theorem better_sound (p q p' q' : Str) (hp : p.length < 8000000000000) (hq : p'.length < 8000000000000) : SoundAt Tryz.prog 190 [] [Tx p, Tx q, Tx p', Tx q'] (Bo (betterV p q p' q')) [] := by
  refine SoundAt.of_wpA1 (fn := Tryz.f190) Tryz.func190 rfl ?_
  conv => whnf
  refine ⟨_, _, (weight_sound p hp).frame rfl _, ?_⟩; (conv=>whnf);(try(refine ⟨(rfl:(_:Heap)=_),?_⟩;(conv=>whnf)))
  refine ⟨_, _, (weight_sound p' hq).frame rfl _, ?_⟩; (conv=>whnf);(try(refine ⟨(rfl:(_:Heap)=_),?_⟩;(conv=>whnf)))
  refine ⟨fun h1 => ?_, fun h1 => ?_⟩
  · (conv=>whnf);(try(refine ⟨(rfl:(_:Heap)=_),?_⟩;(conv=>whnf)))
    (repeat' (first | (refine ⟨fun _ => ?_, fun _ => ?_⟩ <;> (conv => whnf)) | fail))
    all_goals (rename_i h2; (exact ⟨.inl rfl, _, .refl _, congrArg (fun b => some (C.v (Value.bool b))) (by simp_all [betterV])⟩))
  · (conv=>whnf);(try(refine ⟨(rfl:(_:Heap)=_),?_⟩;(conv=>whnf)))
    (repeat' (first | (refine ⟨fun _ => ?_, fun _ => ?_⟩ <;> (conv => whnf)) | fail))
    all_goals (rename_i h2; (exact ⟨.inl rfl, _, .refl _, congrArg (fun b => some (C.v (Value.bool b))) (by simp_all [betterV])⟩))
end Go.Hos
namespace Go.Con
open Go.Ab Go.Proofs Go.Hy Go.Gat Go.Nam Go.Hos
set_option linter.unusedVariables false
set_option linter.unusedSimpArgs false
set_option maxRecDepth 8000
theorem idx_any {α : Type} (l : List α) (p : α → Bool) : decide ((match l.findIdx? p with | some i => (i : Int) | none => -1) ≥ 0) = l.any p := by
  cases h : l.findIdx? p with
  | none =>
    rw [List.findIdx?_eq_none_iff] at h
    symm
    simp only [Int.reduceNeg, ge_iff_le, Int.reduceLE, decide_false]
    rw [List.any_eq_false]
    intro x hx; simp [h x hx]
  | some i =>
    obtain ⟨h1, h2, _⟩ := List.findIdx?_eq_some_iff_getElem.1 h
    symm
    have : (0 : Int) ≤ (i : Int) := Int.natCast_nonneg i
    simp only [ge_iff_le, this, decide_true]
    rw [List.any_eq_true]
    exact ⟨_, List.getElem_mem h1, h2⟩
abbrev Cc (c : Clu) : C := .agg (encC c)
theorem idxC_sound {H : Heap} {f : FuncId} {caps : List C} {l : List Clu} (p : Clu → Bool) (hcb : callable Tryz.prog f = true) (hp : ∀ r ∈ l, SoundAt Tryz.prog f H ([Cc r] ++ caps) (Bo (p r)) H) (hl : l.length < 4611686018427387904) :
    SoundAt Tryz.prog 181 H [lC l, .fn f [] caps] (I (match l.findIdx? p with | some i => (i : Int) | none => -1)) H := by
  refine SoundAt.of_wpA (fn := Tryz.f181) Tryz.func181 rfl ?_
  conv => whnf
  refine Loops.inv (fun n t1 H1 => ∃ k, k + n = l.length ∧ H1 = H ∧ (∀ j, j < k → ∀ r, l[j]? = some r → p r = false) ∧
     t1 = [lC l, .fn f [] caps, .junk, .junk, I 0, .junk, .junk, I (l.map encC).length, I k, .junk, .junk, .junk, .junk, .junk, .junk, .junk, .junk, .junk, .junk]) l.length ?_ ?_
  · exact ⟨_, _, Weak.mask [0, 1, 4, 7, 8] _ _, 0, by simp, rfl, by simp, rfl⟩
  rintro n _ _ ⟨k, hk, rfl, hno, rfl⟩
  conv => whnf
  refine ⟨fun h => ?_, fun h => ?_⟩
  · conv => whnf
    have hlt : k < l.length := by simpa using h
    refine ⟨by omega, encC l[k], by simp [hlt], ?_⟩
    conv => whnf
    rw [hcb]
    refine ⟨_, _, hp _ (List.getElem_mem hlt), ?_⟩
    conv => whnf
    refine ⟨fun h2 => ?_, fun h2 => ?_⟩
    · conv => whnf
      refine .inr ⟨by simp, ?_⟩
      conv => whnf
      refine ⟨.inl rfl, _, .refl _, rfl, ?_⟩
      have : l.findIdx? p = some k := by
        rw [List.findIdx?_eq_some_iff_getElem]
        refine ⟨hlt, h2, fun j hj => ?_⟩
        simp [hno j hj _ (List.getElem?_eq_getElem (by omega))]
      rw [this]
      rfl
    · conv => whnf
      refine .inl ⟨rfl, n - 1, _, _, by omega, Weak.mask [0, 1, 4, 7, 8] _ _, k + 1, by omega, rfl, ?_, ?_⟩
      · intro j hj r hr
        by_cases hjk : j = k
        · subst hjk
          rw [List.getElem?_eq_getElem hlt] at hr
          cases hr
          exact h2
        · exact hno j (by omega) r hr
      · rw [i64_nat (by omega)]; rfl
  · conv => whnf
    refine .inr ⟨by simp, ?_⟩
    conv => whnf
    refine ⟨.inl rfl, _, .refl _, rfl, ?_⟩
    have : l.findIdx? p = none := by
      rw [List.findIdx?_eq_none_iff]
      intro x hx
      obtain ⟨j, hj⟩ := List.mem_iff_getElem?.1 hx
      have hjl := (List.getElem?_eq_some_iff.1 hj).1
      have : ¬ k < l.length := by simpa using h
      exact hno j (by omega) x hj
    rw [this]
    rfl
theorem conC_sound {H : Heap} {f : FuncId} {caps : List C} {l : List Clu} (p : Clu → Bool) (hcb : callable Tryz.prog f = true) (hp : ∀ r ∈ l, SoundAt Tryz.prog f H ([Cc r] ++ caps) (Bo (p r)) H) (hl : l.length < 4611686018427387904) :
    SoundAt Tryz.prog 168 H [lC l, .fn f [] caps] (Bo (l.any p)) H := by
  refine SoundAt.of_wpA (fn := Tryz.f168) Tryz.func168 rfl ?_
  conv => whnf
  refine ⟨_, _, idxC_sound p hcb hp hl, ?_⟩
  (conv=>whnf);(try(refine ⟨(rfl:(_:Heap)=_),?_⟩;(conv=>whnf)))
  rw [show decide ((match l.findIdx? p with | some i => ((i : Nat) : Int) | none => (-1 : Int)) ≥ (0 : Int)) = l.any p from idx_any l p]
  refine ⟨fun h => ?_, fun h => ?_⟩ <;> rw [h]
  · (conv=>whnf);(try(refine ⟨(rfl:(_:Heap)=_),?_⟩;(conv=>whnf)))
    exact ⟨.inl rfl, _, .refl _, rfl, rfl⟩
  · (conv=>whnf);(try(refine ⟨(rfl:(_:Heap)=_),?_⟩;(conv=>whnf)))
    exact ⟨.inl rfl, _, .refl _, rfl, rfl⟩
theorem named1_sound (s : Str) (c : Clu) : SoundAt Tryz.prog 169 [⟨1, 9, 1, [[Tx s]], 0⟩] [Cc c, .ref 0 [] 1 0 0] (Bo (c.name == s)) [⟨1, 9, 1, [[Tx s]], 0⟩] := by
  refine SoundAt.of_wpA (fn := Tryz.f169) Tryz.func169 rfl ?_
  conv => whnf
  refine ⟨fun h => ?_, fun h => ?_⟩ <;> rw [h]
  · conv => whnf
    exact ⟨.inl rfl, _, Weak.keep [3] 1 _ _ rfl rfl rfl rfl, rfl, rfl⟩
  · conv => whnf
    exact ⟨.inl rfl, _, Weak.keep [3] 1 _ _ rfl rfl rfl rfl, rfl, rfl⟩
def namedV (l : List Clu) (s : Str) : Bool := l.any fun c => c.name == s
theorem named_sound (l : List Clu) (s : Str) (hl : l.length < 4611686018427387904) : SoundAt Tryz.prog 145 [] [lC l, Tx s] (Bo (namedV l s)) [] := by
  refine SoundAt.of_wpA1 (fn := Tryz.f145) Tryz.func145 rfl ?_
  conv => whnf
  refine ⟨_, _, conC_sound (fun c => c.name == s) (by kernel_rfl) (fun r _ => named1_sound s r) hl, ?_⟩
  (conv=>whnf);(try(refine ⟨(rfl:(_:Heap)=_),?_⟩;(conv=>whnf)))
  refine ⟨fun h => ?_, fun h => ?_⟩
  · (conv=>whnf);(try(refine ⟨(rfl:(_:Heap)=_),?_⟩;(conv=>whnf)))
    (exact ⟨.inl rfl, _, .refl _, congrArg (fun b => some (C.v (Value.bool b))) (by exact h.symm)⟩)
  · (conv=>whnf);(try(refine ⟨(rfl:(_:Heap)=_),?_⟩;(conv=>whnf)))
    (exact ⟨.inl rfl, _, .refl _, congrArg (fun b => some (C.v (Value.bool b))) (by exact h.symm)⟩)
theorem within_sound (n a b : Int) : SoundAt Tryz.prog 143 [] [I n, I a, I b] (Bo (decide (a ≤ n) && decide (n ≤ b))) [] := by
  refine SoundAt.of_wpA1 (fn := Tryz.f143) Tryz.func143 rfl ?_
  conv => whnf
  (repeat' (first | (refine ⟨fun _ => ?_, fun _ => ?_⟩ <;> (conv => whnf)) | fail))
  all_goals (exact ⟨.inl rfl, _, .refl _, congrArg (fun b => some (C.v (Value.bool b))) (by simp_all <;> omega)⟩)
def idxT (l : List Str) (s : Str) : Int := match l.findIdx? (fun x => x == s) with | some i => (i : Int) | none => -1
theorem idxT_sound (l : List Str) (s : Str) (hl : l.length < 4611686018427387904) : SoundAt Tryz.prog 167 [] [lT l, Tx s] (I (idxT l s)) [] := by
  have hlm : (l.map encT).length = l.length := List.length_map ..
  refine SoundAt.of_wpA1 (fn := Tryz.f167) Tryz.func167 rfl ?_
  conv => whnf
  rw [hlm]
  refine Loops.seq l.length (fun k => [lT l, Tx s, .junk, .junk, I 0, .junk, .junk, I l.length, I k, .junk, .junk, .junk, .junk, .junk, .junk, .junk, .junk, .junk, .junk]) (fun k => []) (fun k => ∀ j, (h : j < l.length) → j < k → (l[j] == s) = false) ?_ (by simp) (fun k hk hr => ?_) (fun hr => ?_)
  · exact Weak.cov (by (conv => whnf); (repeat (refine ⟨rfl, ?_⟩; (conv => whnf))); exact trivial)
  · have hg : (l.map encT)[k]? = some (encT l[k]) := by rw [List.getElem?_map, List.getElem?_eq_getElem hk]; rfl
    conv => whnf
    refine ⟨fun _ => ?_, fun h => absurd h (by simp; omega)⟩
    (conv=>whnf);(try(refine ⟨(rfl:(_:Heap)=_),?_⟩;(conv=>whnf)))
    refine ⟨by omega, _, by rw [toNat_cast]; exact hg, ?_⟩
    (conv=>whnf);(try(refine ⟨(rfl:(_:Heap)=_),?_⟩;(conv=>whnf)))
    refine ⟨fun h2 => ?_, fun h2 => ?_⟩
    · (conv=>whnf);(try(refine ⟨(rfl:(_:Heap)=_),?_⟩;(conv=>whnf)))
      refine .inr ⟨by simp, ?_⟩
      conv => whnf
      have e : idxT l s = k := by
        unfold idxT
        have : l.findIdx? (fun x => x == s) = some k := by
          rw [List.findIdx?_eq_some_iff_getElem]
          refine ⟨hk, ?_, fun j hj => by simp only [hr j (by omega) hj]; decide⟩
          simp at h2; simp [h2]
        rw [this]
      rw [e]
      exact ⟨.inl rfl, _, .refl _, rfl⟩
    · (conv=>whnf);(try(refine ⟨(rfl:(_:Heap)=_),?_⟩;(conv=>whnf)))
      refine .inl ⟨rfl, ?_, fun j hj hjk => ?_⟩
      · rw [i64_nat (by omega)]
        exact Weak.covD 0 (by (conv => whnf); (repeat (refine ⟨rfl, ?_⟩; (conv => whnf))); exact trivial) rfl rfl rfl rfl rfl
      · by_cases e : j = k
        · subst e; simp at h2 ⊢; exact fun h => h2 h.symm
        · exact hr j hj (by omega)
  · conv => whnf
    refine ⟨fun h => absurd h (by simp), fun _ => ?_⟩
    (conv=>whnf);(try(refine ⟨(rfl:(_:Heap)=_),?_⟩;(conv=>whnf)))
    refine ⟨by simp, ?_⟩
    conv => whnf
    have e : idxT l s = -1 := by
      unfold idxT
      have : l.findIdx? (fun x => x == s) = none := by
        rw [List.findIdx?_eq_none_iff]
        intro x hx
        obtain ⟨j, hj, rfl⟩ := List.mem_iff_getElem.1 hx
        exact hr j hj hj
      rw [this]
    rw [e]
    exact ⟨.inl rfl, _, .refl _, rfl⟩
theorem idxT_any (l : List Str) (s : Str) : decide (idxT l s ≥ 0) = l.any (fun x => x == s) := idx_any l _
theorem conT_sound (l : List Str) (s : Str) (hl : l.length < 4611686018427387904) : SoundAt Tryz.prog 144 [] [lT l, Tx s] (Bo (l.any fun x => x == s)) [] := by
  refine SoundAt.of_wpA1 (fn := Tryz.f144) Tryz.func144 rfl ?_
  conv => whnf
  refine ⟨_, _, (idxT_sound l s hl).frame rfl _, ?_⟩; (conv=>whnf);(try(refine ⟨(rfl:(_:Heap)=_),?_⟩;(conv=>whnf)))
  rw [idxT_any]
  refine ⟨fun h => ?_, fun h => ?_⟩
  · (conv=>whnf);(try(refine ⟨(rfl:(_:Heap)=_),?_⟩;(conv=>whnf)))
    (exact ⟨.inl rfl, _, .refl _, congrArg (fun b => some (C.v (Value.bool b))) (by exact h.symm)⟩)
  · (conv=>whnf);(try(refine ⟨(rfl:(_:Heap)=_),?_⟩;(conv=>whnf)))
    (exact ⟨.inl rfl, _, .refl _, congrArg (fun b => some (C.v (Value.bool b))) (by exact h.symm)⟩)
end Go.Con
