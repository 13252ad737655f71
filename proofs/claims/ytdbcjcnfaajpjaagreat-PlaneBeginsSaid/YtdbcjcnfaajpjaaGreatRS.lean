import Derived.WalkKit
import Derived.Test.YtdbcjcnfaajpjaaGreatRows
import Derived.Test.YtdbcjcnfaajpjaaGreatRJ
import Derived.Test.YtdbcjcnfaajpjaaGreatRC
import Derived.Test.YtdbcjcnfaajpjaaGreatProg
namespace Go.Proofs.YtdbcjcnfaajpjaaGreat
open Go.RowKit
set_option linter.unusedVariables false
theorem or_low (t i : Int) (h1 : 0 ≤ t) (h2 : t < 4294967296) (h3 : -1 ≤ i) (h4 : i ≤ 2147483646) :
    bits .or .u64 (t * 4294967296) (i + 1) = t * 4294967296 + (i + 1) := by
  rw [u64_or _ _ (by omega) (by omega) (by omega) (by omega)]
  obtain ⟨a, rfl⟩ := Int.eq_ofNat_of_zero_le h1
  obtain ⟨b, hb⟩ := Int.eq_ofNat_of_zero_le (show 0 ≤ i + 1 by omega)
  rw [hb]
  have hlt : b < 2 ^ 32 := by have : (b : Int) < 4294967296 := by omega
                              simpa using (by omega : b < 4294967296)
  have := Nat.two_pow_add_eq_or_of_lt hlt a
  have e : ((a : Int) * 4294967296).toNat = 2 ^ 32 * a := by omega
  rw [e, Int.toNat_natCast, ← this]
  omega
set_option maxHeartbeats 400000 in
set_option maxHeartbeats 400000 in
theorem make_yes (t i : Int) (w : World) (h1 : 0 ≤ t) (h2 : t < 4294967296) (h3 : -1 ≤ i) (h4 : i ≤ 2147483646) :
    Calls Tryz.prog 110 #[.int .u32 t, .int .i64 i] w fun e w' => e = .returned (.tuple #[.int .u64 (t * 4294967296 + (i + 1)), .int .i64 0]) ∧ w = w' := by
  go_enter Tryz.func110, Tryz.ntmps110
  go_wp2
  go_ret2
  exact ⟨by simp [or_low t i h1 h2 h3 h4], rfl⟩
set_option maxHeartbeats 400000 in
theorem tag_any (x : Int) (w : World) (h1 : 0 ≤ x) (h2 : x < 18446744073709551616) :
    Calls Tryz.prog 133 #[.int .u64 x] w fun e w' => e = .returned (.int .u32 (x / 4294967296)) ∧ w = w' := by
  go_enter Tryz.func133, Tryz.ntmps133
  go_wp2
  go_ret
  exact ⟨rfl, rfl⟩
set_option maxHeartbeats 400000 in
theorem index_any (x : Int) (w : World) (h1 : 0 ≤ x) (h2 : x < 18446744073709551616) :
    Calls Tryz.prog 79 #[.int .u64 x] w fun e w' => e = .returned (.int .i64 (x % 4294967296 - 1)) ∧ w = w' := by
  go_enter Tryz.func79, Tryz.ntmps79
  go_wp2
  go_ret
  exact ⟨rfl, rfl⟩
end Go.Proofs.YtdbcjcnfaajpjaaGreat
namespace Go.Proofs.YtdbcjcnfaajpjaaGreat
open Go.RowKit
set_option linter.unusedVariables false
set_option maxHeartbeats 400000 in
set_option maxHeartbeats 400000 in
theorem next_yes (x i : Int) (w : World) (h1 : 0 ≤ x) (h2 : x < 18446744073709551616) (h3 : -1 ≤ i) (h4 : i ≤ 2147483646) :
    Calls Tryz.prog 85 #[.int .u64 x, .int .i64 i] w fun e w' => e = .returned (.tuple #[.int .u64 ((x / 4294967296 + 1) % 4294967296 * 4294967296 + (i + 1)), .int .i64 0]) ∧ w = w' := by
  go_enter Tryz.func85, Tryz.ntmps85
  go_wp2_with (first | (go_at_call 133; refine (tag_any _ _ h1 h2).mono ?_; rintro e w' ⟨rfl, rfl⟩) | (go_at_call 110; refine (make_yes _ _ _ (by omega) (by omega) h3 h4).mono ?_; rintro e w' ⟨rfl, rfl⟩))
  go_ret2
  exact ⟨rfl, rfl⟩
end Go.Proofs.YtdbcjcnfaajpjaaGreat
namespace Go.Slp
open Go.Ab Go.Hy
set_option linter.unusedVariables false
def inB (nx : List Int) (i : Int) : Bool := decide (0 ≤ i) && decide (i < nx.length)
def nxt (nx : List Int) (i : Int) : Int := (nx[i.toNat]?).getD 0
def posV (nx : List Int) (i0 : Int) : Nat → Int
  | 0 => i0
  | k + 1 => nxt nx (posV nx i0 k)
def visV (nx : List Int) (i0 : Int) (k : Nat) : List Int := (List.range k).map (posV nx i0)
def stopB (nx : List Int) (i0 : Int) (k : Nat) : Bool := !inB nx (posV nx i0 k) || (visV nx i0 k).contains (posV nx i0 k)
def cntV (nx : List Int) (i0 : Int) : Nat := ((List.range (nx.length + 1)).find? (stopB nx i0)).getD 0
def okV (nx : List Int) (i0 : Int) : Bool := posV nx i0 (cntV nx i0) == -1
theorem pigeon : ∀ (n : Nat) (l : List Int), l.Nodup → (∀ x ∈ l, 0 ≤ x ∧ x < n) → l.length ≤ n
  | 0, l, _, h => by
    cases l with
    | nil => exact Nat.le_refl _
    | cons x l => have := h x (List.mem_cons_self ..); omega
  | n + 1, l, hd, h => by
    by_cases hm : (n : Int) ∈ l
    · have h1 := pigeon n (l.erase n) (hd.erase _) fun x hx => by
        have h2 := h x (List.mem_of_mem_erase hx)
        have h3 : x ≠ n := fun e => by
          subst e
          exact absurd hx (List.Nodup.not_mem_erase hd)
        omega
      rw [List.length_erase_of_mem hm] at h1
      omega
    · have := pigeon n l hd fun x hx => by
        have h2 := h x hx
        have h3 : x ≠ n := fun e => hm (e ▸ hx)
        omega
      omega
theorem vis_succ (nx : List Int) (i0 : Int) (k : Nat) : visV nx i0 (k + 1) = visV nx i0 k ++ [posV nx i0 k] := by
  simp [visV, List.range_succ]
theorem vis_len (nx : List Int) (i0 : Int) (k : Nat) : (visV nx i0 k).length = k := by simp [visV]
theorem vis_good {nx : List Int} {i0 : Int} : ∀ {k : Nat}, (∀ j, j < k → stopB nx i0 j = false) → (visV nx i0 k).Nodup ∧ ∀ x ∈ visV nx i0 k, inB nx x = true
  | 0, _ => ⟨by simp [visV], by simp [visV]⟩
  | k + 1, h => by
    obtain ⟨h1, h2⟩ := vis_good (k := k) fun j hj => h j (by omega)
    have h3 := h k (by omega)
    simp only [stopB, Bool.or_eq_false_iff, Bool.not_eq_false'] at h3
    have h4 : posV nx i0 k ∉ visV nx i0 k := by simpa using h3.2
    rw [vis_succ]
    refine ⟨?_, ?_⟩
    · rw [List.nodup_append]
      refine ⟨h1, by simp, ?_⟩
      intro a ha b hb e
      rw [List.mem_singleton] at hb
      subst hb e
      exact h4 ha
    · intro x hx
      rcases List.mem_append.1 hx with hx | hx
      · exact h2 x hx
      · rw [List.mem_singleton.1 hx]; exact h3.1
theorem cnt_spec (nx : List Int) (i0 : Int) : cntV nx i0 ≤ nx.length ∧ stopB nx i0 (cntV nx i0) = true ∧ ∀ j, j < cntV nx i0 → stopB nx i0 j = false := by
  unfold cntV
  cases e : (List.range (nx.length + 1)).find? (stopB nx i0) with
  | none =>
    exfalso
    rw [List.find?_eq_none] at e
    have h : ∀ j, j < nx.length + 1 → stopB nx i0 j = false := fun j hj => by simpa using e j (List.mem_range.2 hj)
    obtain ⟨h1, h2⟩ := vis_good h
    have := pigeon nx.length _ h1 fun x hx => by
      have := h2 x hx
      simp only [inB, Bool.and_eq_true, decide_eq_true_eq] at this
      exact this
    rw [vis_len] at this
    omega
  | some k =>
    rw [List.find?_eq_some_iff_append] at e
    obtain ⟨h1, az, bs, h2, h3⟩ := e
    have hk : az.length = k ∧ k < nx.length + 1 := by
      have h4 : (List.range (nx.length + 1))[az.length]? = some k := by rw [h2]; simp
      have h5 := (List.getElem?_eq_some_iff.1 h4)
      obtain ⟨h6, h7⟩ := h5
      rw [List.getElem_range] at h7
      simp at h6
      omega
    refine ⟨by simp; omega, by simpa using h1, fun j hj => ?_⟩
    have h8 : (List.range (nx.length + 1))[j]? = some j := by
      simp at hj
      rw [List.getElem?_range (by omega)]
    rw [h2, List.getElem?_append_left (by simp at hj; omega)] at h8
    simpa using h3 j (List.mem_of_getElem? h8)
abbrev no : En := ⟨0, [], 0⟩
def headI (e : En) : Int := e.head % 4294967296 - 1
def nextT (x i : Int) : Int := (x / 4294967296 + 1) % 4294967296 * 4294967296 + (i + 1)
def freeV (e : En) : List Int × Int := if okV e.next (headI e) then (visV e.next (headI e) (cntV e.next (headI e)), 0) else ([], 11)
def isV (e : En) : Bool := okV e.next (headI e) && decide (1 ≤ e.next.length) && decide (e.next.length ≤ 4) && decide (0 ≤ e.active)
def popV (e : En) : En × Int × Int :=
  if isV e = false then (no, 0, 11) else if headI e < 0 then (no, 0, 5) else (⟨nextT e.head (nxt e.next (headI e)), e.next, e.active⟩, headI e, 0)
def pushV (e : En) (slot : Int) : En × Int :=
  if isV e = false then (no, 11) else if slot < 0 ∨ e.next.length ≤ slot then (no, 1) else if (freeV e).1.contains slot then (no, 4)
  else (⟨nextT e.head slot, e.next.set slot.toNat (headI e), e.active⟩, 0)
def freshV (n : Int) : En × Int := if n < 1 ∨ 4 < n then (no, 1) else (⟨1, (List.range n.toNat).map fun (i : Nat) => if i + 1 = n.toNat then -1 else (i : Int) + 1, 0⟩, 0)
def seenB (nx : List Int) (i0 : Int) : Nat → List Bool
  | 0 => List.replicate nx.length false
  | k + 1 => (seenB nx i0 k).set (posV nx i0 k).toNat true
theorem seen_len (nx : List Int) (i0 : Int) : ∀ k, (seenB nx i0 k).length = nx.length
  | 0 => by simp [seenB]
  | k + 1 => by simp [seenB, seen_len nx i0 k]
theorem seen_at {nx : List Int} {i0 : Int} : ∀ {k : Nat}, (∀ j, j < k → inB nx (posV nx i0 j) = true) → ∀ {i : Nat}, i < nx.length → (seenB nx i0 k)[i]? = some ((visV nx i0 k).contains (i : Int))
  | 0, _, i, hi => by simp [seenB, visV, hi]
  | k + 1, h, i, hi => by
    have ih := seen_at (k := k) (fun j hj => h j (by omega)) hi
    have hb := h k (by omega)
    simp only [inB, Bool.and_eq_true, decide_eq_true_eq] at hb
    rw [vis_succ]
    simp only [seenB]
    rw [List.getElem?_set, seen_len]
    by_cases e : (posV nx i0 k).toNat = i
    · rw [if_pos e, if_pos (by omega)]
      have : (i : Int) = posV nx i0 k := by omega
      simp [this]
    · rw [if_neg e, ih]
      have : ¬ (i : Int) = posV nx i0 k := by omega
      simp [this]
end Go.Slp
namespace Go.Slp
open Go.Ab Go.Proofs Go.Hy
set_option linter.unusedVariables false
set_option maxRecDepth 8000
theorem u64_lt {x : Int} (h : u64 x) : 0 ≤ x ∧ x < 18446744073709551616 := by unfold u64 at h; omega
theorem index_sound (x : Int) (h : u64 x) : SoundAt Tryz.prog 79 [] [U x] (I (x % 4294967296 - 1)) [] :=
  of_calls [] (fun w => (YtdbcjcnfaajpjaaGreat.index_any x w (u64_lt h).1 (u64_lt h).2).mono fun e w' ⟨h1, h2⟩ => ⟨h1, h2.symm⟩) args1 fun E => .v _ rfl
abbrev Ev (e : En) : C := .agg (encE e)
abbrev vk (e : En) (k : Nat) : List (List C) := (visV e.next (headI e) k).map encI
theorem chain1_sound (e : En) (he : e.ok) (l : Nat) (rec rec' : Ob) (rr : C) (rn : Int)
    (hy : ∀ k, k < cntV e.next (headI e) → YieldS Tryz.prog l ([⟨1, 79, 3, [encE e], 0⟩, ⟨1, 40, 1, [[.lst 1 0 []]], 0⟩, ⟨1, 100, 1, [[I 0]], 0⟩, ⟨1, 40, 1, [[.gl 5 1 (vk e k)]], 0⟩, ⟨1, 79, 3, [encE e], 0⟩, ⟨4, 3, 1, (vk e k), 0⟩, rec] ++ [⟨2, 4, 1, (seenB e.next (headI e) (k + 1)).map encB, 0⟩]) [I (posV e.next (headI e) k)] (Bo true) ([⟨1, 79, 3, [encE e], 0⟩, ⟨1, 40, 1, [[.lst 1 0 []]], 0⟩, ⟨1, 100, 1, [[I 0]], 0⟩, ⟨1, 40, 1, [[.gl 5 1 (vk e (k + 1))]], 0⟩, ⟨1, 79, 3, [encE e], 0⟩, ⟨4, 3, 1, (vk e (k + 1)), 0⟩, rec] ++ [⟨2, 4, 1, (seenB e.next (headI e) (k + 1)).map encB, 0⟩]))
    (hz : ∃ b, YieldS Tryz.prog l ([⟨1, 79, 3, [encE e], 0⟩, ⟨1, 40, 1, [[.lst 1 0 []]], 0⟩, ⟨1, 100, 1, [[I 0]], 0⟩, ⟨1, 40, 1, [[.gl 5 1 (vk e (cntV e.next (headI e)))]], 0⟩, ⟨1, 79, 3, [encE e], 0⟩, ⟨4, 3, 1, (vk e (cntV e.next (headI e))), 0⟩, rec] ++ [⟨2, 4, 1, (seenB e.next (headI e) (cntV e.next (headI e))).map encB, 0⟩]) [I (if okV e.next (headI e) then -1 else -2)] (Bo b) ([⟨1, 79, 3, [encE e], 0⟩, ⟨1, 40, 1, [[rr]], 0⟩, ⟨1, 100, 1, [[I rn]], 0⟩, ⟨1, 40, 1, [[.gl 5 1 (vk e (cntV e.next (headI e)))]], 0⟩, ⟨1, 79, 3, [encE e], 0⟩, ⟨4, 3, 1, (vk e (cntV e.next (headI e))), 0⟩, rec'] ++ [⟨2, 4, 1, (seenB e.next (headI e) (cntV e.next (headI e))).map encB, 0⟩])) :
    SoundAt Tryz.prog 78 [⟨1, 79, 3, [encE e], 0⟩, ⟨1, 40, 1, [[.lst 1 0 []]], 0⟩, ⟨1, 100, 1, [[I 0]], 0⟩, ⟨1, 40, 1, [[.gl 5 1 (vk e 0)]], 0⟩, ⟨1, 79, 3, [encE e], 0⟩, ⟨4, 3, 1, (vk e 0), 0⟩, rec] [.v (.func (.yield l) #[] #[]), .ref 4 [] 3 0 0] (.tup []) ([⟨1, 79, 3, [encE e], 0⟩, ⟨1, 40, 1, [[rr]], 0⟩, ⟨1, 100, 1, [[I rn]], 0⟩, ⟨1, 40, 1, [[.gl 5 1 (vk e (cntV e.next (headI e)))]], 0⟩, ⟨1, 79, 3, [encE e], 0⟩, ⟨4, 3, 1, (vk e (cntV e.next (headI e))), 0⟩, rec'] ++ [⟨2, 4, 1, (seenB e.next (headI e) (cntV e.next (headI e))).map encB, 0⟩]) := by
  refine SoundAt.of_wpA (fn := Tryz.f78) Tryz.func78 rfl ?_
  conv => whnf
  have hl := he.2.1.2
  have hlm : (e.next.map encI).length = e.next.length := List.length_map ..
  obtain ⟨c1, c2, c3⟩ := cnt_spec e.next (headI e)
  have good : ∀ j, j < cntV e.next (headI e) → inB e.next (posV e.next (headI e) j) = true := fun j hj => by
    have := c3 j hj
    simp only [stopB, Bool.or_eq_false_iff, Bool.not_eq_false'] at this
    exact this.1
  refine ⟨rfl, by omega, by show (1 : Int) * _ ≤ _; omega, by omega, ?_⟩
  conv => whnf
  refine ⟨_, _, (index_sound e.head he.1).frame rfl _, ?_⟩; (conv=>whnf);(try(refine ⟨(rfl:(_:Heap)=_),?_⟩;(conv=>whnf)))
  refine Loops.seq (cntV e.next (headI e)) (fun k => [.v (.func (.yield l) #[] #[]), .ref 4 [] 3 0 0, .junk, .sl 7 [] 1 0 e.next.length false, I (posV e.next (headI e) k), .junk, .junk, .junk, .junk, .junk, .junk, .junk, .junk, .junk, .junk, .junk, .junk, .junk, .junk, .junk, .junk, .junk, .junk, .junk, .junk, .junk, .junk, .junk, .junk, .junk, .junk, .junk, .junk, .junk, .junk, .junk, .junk, .junk, .junk, .junk, .junk, .junk, .junk, .junk])
    (fun k => [⟨1, 79, 3, [encE e], 0⟩, ⟨1, 40, 1, [[.lst 1 0 []]], 0⟩, ⟨1, 100, 1, [[I 0]], 0⟩, ⟨1, 40, 1, [[.gl 5 1 (vk e k)]], 0⟩, ⟨1, 79, 3, [encE e], 0⟩, ⟨4, 3, 1, (vk e k), 0⟩, rec] ++ [⟨2, 4, 1, (seenB e.next (headI e) k).map encB, 0⟩]) (fun _ => True) ?_ trivial (fun k hk _ => ?_) (fun _ => ?_)
  · have e1 : List.replicate (((e.next.map encI).length : Int)).toNat (List.map ofV (Value.bool false).cells.toList) = (seenB e.next (headI e) 0).map encB := by
      simp [seenB, encB, ofV, Value.cells]
    rw [e1, hlm, toNat_cast]
    exact Weak.cov (by (conv => whnf); (repeat (refine ⟨rfl, ?_⟩; (conv => whnf))); exact trivial)
  · have g := good k hk
    simp only [inB, Bool.and_eq_true, decide_eq_true_eq] at g
    obtain ⟨g1, g2⟩ := g
    have hs := seen_at (nx := e.next) (i0 := headI e) (k := k) (fun j hj => good j (by omega)) (i := (posV e.next (headI e) k).toNat) (by omega)
    have hv : (visV e.next (headI e) k).contains (((posV e.next (headI e) k).toNat : Nat) : Int) = false := by
      have := c3 k hk
      simp only [stopB, Bool.or_eq_false_iff, Bool.not_eq_false'] at this
      rw [Int.toNat_of_nonneg g1]
      exact this.2
    rw [hv] at hs
    have hyk := hy k hk
    have hnx : (e.next)[(posV e.next (headI e) k).toNat]? = some (posV e.next (headI e) (k + 1)) := by
      show _ = some (nxt e.next (posV e.next (headI e) k))
      unfold nxt
      rw [List.getElem?_eq_getElem (by omega)]
      rfl
    have hse : (seenB e.next (headI e) (k + 1)).map encB = ((seenB e.next (headI e) k).map encB).set (posV e.next (headI e) k).toNat [Bo true] := by
      show (List.set _ _ _).map encB = _
      rw [List.map_set]; rfl
    rw [hse] at hyk
    rw [hse]
    generalize hP : posV e.next (headI e) k = p at *
    generalize hQ : posV e.next (headI e) (k + 1) = p' at *
    conv => whnf
    refine ⟨fun _ => ?_, fun h => absurd h (by simp; omega)⟩
    (conv=>whnf);(try(refine ⟨(rfl:(_:Heap)=_),?_⟩;(conv=>whnf)))
    refine ⟨fun h => absurd h (by simp; omega), fun _ => ?_⟩
    (conv=>whnf);(try(refine ⟨(rfl:(_:Heap)=_),?_⟩;(conv=>whnf)))
    refine ⟨fun h => absurd h (by simp; omega), fun _ => ?_⟩
    (conv=>whnf);(try(refine ⟨(rfl:(_:Heap)=_),?_⟩;(conv=>whnf)))
    refine ⟨g1, by omega, ?_⟩
    conv => whnf
    refine ⟨[Bo false], by rw [Nat.zero_add, List.getElem?_map, hs]; rfl, Nat.le_refl _, ?_⟩
    (conv=>whnf);(try(refine ⟨(rfl:(_:Heap)=_),?_⟩;(conv=>whnf)))
    (repeat (first | (refine ⟨fun _ => ?_, fun h => absurd h (by decide)⟩; (conv=>whnf);(try(refine ⟨(rfl:(_:Heap)=_),?_⟩;(conv=>whnf)))) | (refine ⟨fun h => absurd h (by decide), fun _ => ?_⟩; (conv=>whnf);(try(refine ⟨(rfl:(_:Heap)=_),?_⟩;(conv=>whnf))))))
    refine ⟨g1, by omega, ?_⟩
    conv => whnf
    refine ⟨[Bo false], by rw [Nat.zero_add, List.getElem?_map, hs]; rfl, rfl, ?_⟩
    conv => whnf
    rw [Nat.zero_add]
    refine ⟨_, _, hyk, ?_⟩
    (conv=>whnf);(try(refine ⟨(rfl:(_:Heap)=_),?_⟩;(conv=>whnf)))
    (repeat (first | (refine ⟨fun _ => ?_, fun h => absurd h (by decide)⟩; (conv=>whnf);(try(refine ⟨(rfl:(_:Heap)=_),?_⟩;(conv=>whnf)))) | (refine ⟨fun h => absurd h (by decide), fun _ => ?_⟩; (conv=>whnf);(try(refine ⟨(rfl:(_:Heap)=_),?_⟩;(conv=>whnf))))))
    refine ⟨g1, [I p'], by rw [List.getElem?_map, hnx]; rfl, ?_⟩
    conv => whnf
    exact .inl ⟨rfl, Weak.cov (by (conv => whnf); (repeat (refine ⟨rfl, ?_⟩; (conv => whnf))); exact trivial), trivial⟩
  · generalize hN : cntV e.next (headI e) = N at *
    have hsN : ∀ {i : Nat}, i < e.next.length → (seenB e.next (headI e) N)[i]? = some ((visV e.next (headI e) N).contains (i : Int)) := fun h => seen_at (nx := e.next) (i0 := headI e) (k := N) (fun j hj => good j hj) h
    obtain ⟨b, hz⟩ := hz
    by_cases hok : okV e.next (headI e) = true
    · have hp : posV e.next (headI e) N = -1 := by simpa [okV, hN] using hok
      rw [if_pos hok] at hz
      rw [hp]
      conv => whnf
      refine ⟨fun h => absurd h (by simp), fun _ => ?_⟩
      conv => whnf
      refine ⟨by simp, ?_⟩
      conv => whnf
      refine ⟨_, _, hz, ?_⟩
      conv => whnf
      refine ⟨fun _ => ?_, fun _ => ?_⟩ <;>
      · conv => whnf
        exact ⟨.inr rfl, _, .refl _, rfl, rfl⟩
    · have hp : posV e.next (headI e) N ≠ -1 := by intro h; exact hok (by simp [okV, hN, h])
      rw [if_neg hok] at hz
      generalize hP : posV e.next (headI e) N = p at *
      conv => whnf
      refine ⟨fun _ => ?_, fun h => absurd h (by simp; exact hp)⟩
      (conv=>whnf);(try(refine ⟨(rfl:(_:Heap)=_),?_⟩;(conv=>whnf)))
      have fin : ∀ (X : Prop), X → X := fun _ h => h
      refine ⟨fun h1 => ?_, fun h1 => ?_⟩
      · (conv=>whnf);(try(refine ⟨(rfl:(_:Heap)=_),?_⟩;(conv=>whnf)))
        refine ⟨by simp, ?_⟩
        conv => whnf
        refine ⟨_, _, hz, ?_⟩
        conv => whnf
        refine ⟨fun _ => ?_, fun _ => ?_⟩ <;>
        · conv => whnf
          exact ⟨.inr rfl, _, .refl _, rfl, rfl⟩
      · (conv=>whnf);(try(refine ⟨(rfl:(_:Heap)=_),?_⟩;(conv=>whnf)))
        refine ⟨fun h2 => ?_, fun h2 => ?_⟩
        · (conv=>whnf);(try(refine ⟨(rfl:(_:Heap)=_),?_⟩;(conv=>whnf)))
          refine ⟨by simp, ?_⟩
          conv => whnf
          refine ⟨_, _, hz, ?_⟩
          conv => whnf
          refine ⟨fun _ => ?_, fun _ => ?_⟩ <;>
          · conv => whnf
            exact ⟨.inr rfl, _, .refl _, rfl, rfl⟩
        · have g1 : 0 ≤ p := by simpa using h1
          have g2 : p < e.next.length := by simp at h2; omega
          have hv : (visV e.next (headI e) N).contains (((p.toNat : Nat)) : Int) = true := by
            simp only [stopB, hP, Bool.or_eq_true, Bool.not_eq_true', inB, Bool.and_eq_false_iff, decide_eq_false_iff_not] at c2
            rw [Int.toNat_of_nonneg g1]
            rcases c2 with (h | h) | h
            · exact absurd g1 h
            · exact absurd g2 h
            · exact h
          have hs := hsN (i := p.toNat) (by omega)
          rw [hv] at hs
          (conv=>whnf);(try(refine ⟨(rfl:(_:Heap)=_),?_⟩;(conv=>whnf)))
          refine ⟨g1, by omega, ?_⟩
          conv => whnf
          refine ⟨[Bo true], by rw [Nat.zero_add, List.getElem?_map, hs]; rfl, Nat.le_refl _, ?_⟩
          (conv=>whnf);(try(refine ⟨(rfl:(_:Heap)=_),?_⟩;(conv=>whnf)))
          (repeat (first | (refine ⟨fun _ => ?_, fun h => absurd h (by decide)⟩; (conv=>whnf);(try(refine ⟨(rfl:(_:Heap)=_),?_⟩;(conv=>whnf)))) | (refine ⟨fun h => absurd h (by decide), fun _ => ?_⟩; (conv=>whnf);(try(refine ⟨(rfl:(_:Heap)=_),?_⟩;(conv=>whnf))))))
          refine ⟨by simp, ?_⟩
          conv => whnf
          refine ⟨_, _, hz, ?_⟩
          conv => whnf
          refine ⟨fun _ => ?_, fun _ => ?_⟩ <;>
          · conv => whnf
            exact ⟨.inr rfl, _, .refl _, rfl, rfl⟩
end Go.Slp
namespace Go.Slp
open Go.Ab Go.Proofs Go.Hy
set_option linter.unusedVariables false
set_option maxRecDepth 8000
theorem chain_sound (e : En) (X Y Z W : Ob) : SoundAt Tryz.prog 59 [X, Y, Z, W] [Ev e] (.fn 78 [] [.ref 4 [] 3 0 0]) [X, Y, Z, W, ⟨1, 79, 3, [encE e], 0⟩] := by
  refine SoundAt.of_wpA (fn := Tryz.f59) Tryz.func59 rfl ?_
  conv => whnf
  exact ⟨.inl rfl, _, .refl _, rfl, rfl⟩
theorem chainN_sound (e : En) (he : e.ok) (N : Nat) (hN : cntV e.next (headI e) = N) (l : Nat) (rec rec' : Ob) (rr : C) (rn : Int) (b : Bool)
    (hy : ∀ k, k < N → YieldS Tryz.prog l ([⟨1, 79, 3, [encE e], 0⟩, ⟨1, 40, 1, [[.lst 1 0 []]], 0⟩, ⟨1, 100, 1, [[I 0]], 0⟩, ⟨1, 40, 1, [[.gl 5 1 (vk e k)]], 0⟩, ⟨1, 79, 3, [encE e], 0⟩, ⟨4, 3, 1, (vk e k), 0⟩, rec] ++ [⟨2, 4, 1, (seenB e.next (headI e) (k + 1)).map encB, 0⟩]) [I (posV e.next (headI e) k)] (Bo true) ([⟨1, 79, 3, [encE e], 0⟩, ⟨1, 40, 1, [[.lst 1 0 []]], 0⟩, ⟨1, 100, 1, [[I 0]], 0⟩, ⟨1, 40, 1, [[.gl 5 1 (vk e (k + 1))]], 0⟩, ⟨1, 79, 3, [encE e], 0⟩, ⟨4, 3, 1, (vk e (k + 1)), 0⟩, rec] ++ [⟨2, 4, 1, (seenB e.next (headI e) (k + 1)).map encB, 0⟩]))
    (hz : YieldS Tryz.prog l ([⟨1, 79, 3, [encE e], 0⟩, ⟨1, 40, 1, [[.lst 1 0 []]], 0⟩, ⟨1, 100, 1, [[I 0]], 0⟩, ⟨1, 40, 1, [[.gl 5 1 (vk e N)]], 0⟩, ⟨1, 79, 3, [encE e], 0⟩, ⟨4, 3, 1, (vk e N), 0⟩, rec] ++ [⟨2, 4, 1, (seenB e.next (headI e) N).map encB, 0⟩]) [I (if okV e.next (headI e) then -1 else -2)] (Bo b) ([⟨1, 79, 3, [encE e], 0⟩, ⟨1, 40, 1, [[rr]], 0⟩, ⟨1, 100, 1, [[I rn]], 0⟩, ⟨1, 40, 1, [[.gl 5 1 (vk e N)]], 0⟩, ⟨1, 79, 3, [encE e], 0⟩, ⟨4, 3, 1, (vk e N), 0⟩, rec'] ++ [⟨2, 4, 1, (seenB e.next (headI e) N).map encB, 0⟩])) :
    SoundAt Tryz.prog 78 [⟨1, 79, 3, [encE e], 0⟩, ⟨1, 40, 1, [[.lst 1 0 []]], 0⟩, ⟨1, 100, 1, [[I 0]], 0⟩, ⟨1, 40, 1, [[.gl 5 1 (vk e 0)]], 0⟩, ⟨1, 79, 3, [encE e], 0⟩, ⟨4, 3, 1, (vk e 0), 0⟩, rec] [.v (.func (.yield l) #[] #[]), .ref 4 [] 3 0 0] (.tup []) ([⟨1, 79, 3, [encE e], 0⟩, ⟨1, 40, 1, [[rr]], 0⟩, ⟨1, 100, 1, [[I rn]], 0⟩, ⟨1, 40, 1, [[.gl 5 1 (vk e N)]], 0⟩, ⟨1, 79, 3, [encE e], 0⟩, ⟨4, 3, 1, (vk e N), 0⟩, rec'] ++ [⟨2, 4, 1, (seenB e.next (headI e) N).map encB, 0⟩]) := by
  subst hN
  exact chain1_sound e he l rec rec' rr rn hy ⟨b, hz⟩
abbrev tF (r : List Int × Int) : C := .tup [lI r.1, I r.2]
theorem free_sound (e : En) (he : e.ok) : SoundAt Tryz.prog 42 [] [Ev e] (tF (freeV e)) [] := by
  have hl := he.2.1.2
  obtain ⟨c1, c2, c3⟩ := cnt_spec e.next (headI e)
  generalize hN : cntV e.next (headI e) = N at *
  refine SoundAt.of_wpA1 (fn := Tryz.f42) Tryz.func42 rfl ?_
  conv => whnf
  refine ⟨_, _, chain_sound e _ _ _ _, ?_⟩
  conv => whnf
  refine ⟨_, Weak.growH 3 0 3 1 rfl rfl (.inl rfl) rfl rfl, ?_⟩
  have good : ∀ j, j < N → 0 ≤ posV e.next (headI e) j := fun j hj => by
    have := c3 j hj
    simp only [stopB, Bool.or_eq_false_iff, Bool.not_eq_false', inB, Bool.and_eq_true, decide_eq_true_eq] at this
    exact this.1.1
  have hv : ∀ k, (vk e k).length = k := fun k => by simp [vis_len]
  have vs : ∀ k, vk e (k + 1) = vk e k ++ [[I (posV e.next (headI e) k)]] := fun k => by
    show (visV e.next (headI e) (k + 1)).map encI = _
    rw [vis_succ, List.map_append]; rfl
  by_cases hok : okV e.next (headI e) = true
  · refine ⟨.normal, _, [⟨1, 79, 3, [encE e], 0⟩, ⟨1, 40, 1, [[.lst 1 0 []]], 0⟩, ⟨1, 100, 1, [[I 0]], 0⟩, ⟨1, 40, 1, [[.gl 5 1 (vk e N)]], 0⟩, ⟨1, 79, 3, [encE e], 0⟩, ⟨4, 3, 1, vk e N, 0⟩], fun l r h1 h2 h3 h4 h5 => ⟨_, _, r, chainN_sound e he N hN l (obR l r _) (obR l r _) (.lst 1 0 []) 0 true (fun k hk => ?_) ?_, 
      rfl, by rw [h1]; decide, rfl, Nat.zero_le _, by rw [h2]; trivial, Weak.low 6 _ _ rfl rfl rfl⟩, ?_⟩
    · have g := good k hk
      have hvk := hv k
      refine YieldS.of_wpA (id := 6) rfl h1 h2 h3 h4 h5 rfl rfl rfl ?_
      conv => whnf
      refine ⟨rfl, rfl, ?_⟩
      conv => whnf
      refine ⟨fun h => absurd h (by simp; omega), fun _ => ?_⟩
      conv => whnf
      refine ⟨fun h => absurd h (by simp; omega), fun _ => ?_⟩
      conv => whnf
      refine ⟨rfl, .inr rfl, by simp [maxLen, hvk]; omega, by show _ * 8 ≤ _; simp [hvk]; omega, ?_⟩
      conv => whnf
      rw [vs k]
      exact ⟨_, _, .refl _, rfl, .inl ⟨rfl, rfl, rfl⟩⟩
    · rw [if_pos hok]
      refine YieldS.of_wpA (id := 6) rfl h1 h2 h3 h4 h5 rfl rfl rfl ?_
      conv => whnf
      refine ⟨rfl, rfl, ?_⟩
      conv => whnf
      (repeat (first | (refine ⟨fun _ => ?_, fun h => absurd h (by decide)⟩; (conv=>whnf);(try(refine ⟨(rfl:(_:Heap)=_),?_⟩;(conv=>whnf)))) | (refine ⟨fun h => absurd h (by decide), fun _ => ?_⟩; (conv=>whnf);(try(refine ⟨(rfl:(_:Heap)=_),?_⟩;(conv=>whnf))))))
      exact ⟨_, _, .refl _, rfl, .inl ⟨rfl, rfl, rfl⟩⟩
    · have e1 : freeV e = (visV e.next (headI e) N, 0) := by unfold freeV; rw [if_pos hok, hN]
      rw [e1]
      conv => whnf
      exact ⟨.inl rfl, _, .refl _, rfl⟩
  · refine ⟨.ret, _, [⟨1, 79, 3, [encE e], 0⟩, ⟨1, 40, 1, [[.lst 1 0 []]], 0⟩, ⟨1, 100, 1, [[I 11]], 0⟩], fun l r h1 h2 h3 h4 h5 => ⟨_, _, left r .ret, chainN_sound e he N hN l (obR l r _) (obR l (left r .ret) _) (.lst 1 0 []) 11 false (fun k hk => ?_) ?_, 
      rfl, by simp, rfl, Nat.zero_le _, trivial, Weak.low 3 _ _ rfl rfl rfl⟩, ?_⟩
    · have g := good k hk
      have hvk := hv k
      refine YieldS.of_wpA (id := 6) rfl h1 h2 h3 h4 h5 rfl rfl rfl ?_
      conv => whnf
      refine ⟨rfl, rfl, ?_⟩
      conv => whnf
      refine ⟨fun h => absurd h (by simp; omega), fun _ => ?_⟩
      conv => whnf
      refine ⟨fun h => absurd h (by simp; omega), fun _ => ?_⟩
      conv => whnf
      refine ⟨rfl, .inr rfl, by simp [maxLen, hvk]; omega, by show _ * 8 ≤ _; simp [hvk]; omega, ?_⟩
      conv => whnf
      rw [vs k]
      exact ⟨_, _, .refl _, rfl, .inl ⟨rfl, rfl, rfl⟩⟩
    · rw [if_neg hok]
      refine YieldS.of_wpA (id := 6) rfl h1 h2 h3 h4 h5 rfl rfl rfl ?_
      conv => whnf
      refine ⟨rfl, rfl, ?_⟩
      conv => whnf
      (repeat (first | (refine ⟨fun _ => ?_, fun h => absurd h (by decide)⟩; (conv=>whnf);(try(refine ⟨(rfl:(_:Heap)=_),?_⟩;(conv=>whnf)))) | (refine ⟨fun h => absurd h (by decide), fun _ => ?_⟩; (conv=>whnf);(try(refine ⟨(rfl:(_:Heap)=_),?_⟩;(conv=>whnf))))))
      exact ⟨_, _, .refl _, rfl, .inr ⟨rfl, .inl ⟨rfl, rfl⟩⟩⟩
    · have e1 : freeV e = ([], 11) := by unfold freeV; rw [if_neg hok]
      rw [e1]
      conv => whnf
      exact ⟨.inl rfl, _, Weak.var 1 rfl rfl rfl (.cons (WC.nil 0 1) .nil), rfl⟩
end Go.Slp
namespace Go.Slp
open Go.Ab Go.Proofs Go.Hy
set_option linter.unusedVariables false
set_option maxRecDepth 8000
def idxV (l : List Int) (x : Int) : Int := match l.findIdx? (· == x) with | some i => i | none => -1
theorem free_ok (e : En) : ((freeV e).2 == 0) = okV e.next (headI e) := by
  unfold freeV
  cases okV e.next (headI e) <;> simp
theorem is_sound (e : En) (he : e.ok) : SoundAt Tryz.prog 43 [] [Ev e] (Bo (isV e)) [] := by
  have h0 := free_ok e
  refine SoundAt.of_wpA1 (fn := Tryz.f43) Tryz.func43 rfl ?_
  conv => whnf
  refine ⟨_, _, (free_sound e he).frame rfl _, ?_⟩; (conv=>whnf);(try(refine ⟨(rfl:(_:Heap)=_),?_⟩;(conv=>whnf)))
  refine ⟨fun h1 => ?_, fun h1 => ?_⟩
  · rw [show ((freeV e).2 == 0) = true from h1] at h0
    (conv=>whnf);(try(refine ⟨(rfl:(_:Heap)=_),?_⟩;(conv=>whnf)))
    refine ⟨fun h2 => ?_, fun h2 => ?_⟩
    · (conv=>whnf);(try(refine ⟨(rfl:(_:Heap)=_),?_⟩;(conv=>whnf)))
      refine ⟨fun h3 => ?_, fun h3 => ?_⟩
      · (conv=>whnf);(try(refine ⟨(rfl:(_:Heap)=_),?_⟩;(conv=>whnf)))
        (repeat' (first | (refine ⟨fun _ => ?_, fun _ => ?_⟩ <;> (conv => whnf)) | fail))
        all_goals (rename_i h4; (exact ⟨.inl rfl, _, .refl _, congrArg (fun b => some (C.v (Value.bool b))) (by simp at h2 h3 h4; simp [isV, ← h0]; omega)⟩))
      · (conv=>whnf);(try(refine ⟨(rfl:(_:Heap)=_),?_⟩;(conv=>whnf)))
        (exact ⟨.inl rfl, _, .refl _, congrArg (fun b => some (C.v (Value.bool b))) (by simp at h2 h3; simp [isV, ← h0]; omega)⟩)
    · (conv=>whnf);(try(refine ⟨(rfl:(_:Heap)=_),?_⟩;(conv=>whnf)))
      (exact ⟨.inl rfl, _, .refl _, congrArg (fun b => some (C.v (Value.bool b))) (by simp at h2; simp [isV, ← h0]; omega)⟩)
  · rw [show ((freeV e).2 == 0) = false from h1] at h0
    (conv=>whnf);(try(refine ⟨(rfl:(_:Heap)=_),?_⟩;(conv=>whnf)))
    (exact ⟨.inl rfl, _, .refl _, congrArg (fun b => some (C.v (Value.bool b))) (by simp [isV, ← h0])⟩)
end Go.Slp
namespace Go.Slp
open Go.Ab Go.Proofs Go.Hy
set_option linter.unusedVariables false
set_option maxRecDepth 8000
theorem next_sound (x i : Int) (h : u64 x) (h3 : -1 ≤ i) (h4 : i ≤ 2147483646) : SoundAt Tryz.prog 85 [] [U x, I i] (.tup [U (nextT x i), I 0]) [] :=
  of_calls [] (fun w => (YtdbcjcnfaajpjaaGreat.next_yes x i w (u64_lt h).1 (u64_lt h).2 h3 h4).mono fun e w' ⟨h1, h2⟩ => ⟨h1, h2.symm⟩) args2 fun E => .tup _ _ rfl fun j c y e1 e2 => by
    match j, e1, e2 with
    | 0, e1, e2 => cases e1; cases e2; exact .v _ rfl
    | 1, e1, e2 => cases e1; cases e2; exact .v _ rfl
abbrev tP (r : En × Int × Int) : C := .tup [Ev r.1, I r.2.1, I r.2.2]
abbrev tQ (r : En × Int) : C := .tup [Ev r.1, I r.2]
end Go.Slp
namespace Go.Slp
open Go.Ab Go.Proofs Go.Hy
set_option linter.unusedVariables false
set_option maxRecDepth 8000
theorem clone_sound (X Y : Ob) (x : Int) (l : List Int) (hl : l.length < 17592186043904) : SoundAt Tryz.prog 126 [X, Y] [lI (x :: l)] (.sl 2 [] 1 0 (0 + ((l.map encI).length + 1)) false) [X, Y, ⟨2, 3, 1, (x :: l).map encI, 0⟩] := by
  refine SoundAt.of_wpA (fn := Tryz.f126) Tryz.func126 rfl ?_
  conv => whnf
  refine ⟨by simp, ?_⟩
  conv => whnf
  refine .inr ⟨.inl rfl, by simp [maxLen]; omega, by show _ * 8 ≤ _; simp; omega, ?_⟩
  conv => whnf
  exact ⟨.inl rfl, _, .refl _, rfl, rfl⟩
theorem sameI_sound (a b : List Int) (ha : a.length < 4611686018427387904) (hb : b.length < 4611686018427387904) : SoundAt Tryz.prog 10 [] [lI a, lI b] (Bo (a == b)) [] := by
  refine SoundAt.of_wpA1 (fn := Tryz.f10) Tryz.func10 rfl ?_
  conv => whnf
  refine ⟨fun h => ?_, fun h => ?_⟩
  · (conv=>whnf);(try(refine ⟨(rfl:(_:Heap)=_),?_⟩;(conv=>whnf)))
    (exact ⟨.inl rfl, _, .refl _, congrArg (fun b => some (C.v (Value.bool b))) (by symm; rw [beq_eq_false_iff_ne]; intro e; subst e; simp at h)⟩)
  · have hl : a.length = b.length := by simp at h; omega
    (conv=>whnf);(try(refine ⟨(rfl:(_:Heap)=_),?_⟩;(conv=>whnf)))
    refine Loops.seq a.length (fun k => [lI a, lI b, .junk, .junk, Bo false, I k, .junk, .junk, .junk, .junk, .junk, .junk, .junk, .junk, .junk, .junk, .junk, .junk, .junk, .junk, .junk, .junk, .junk, .junk, .junk, .junk]) (fun k => []) (fun k => ∀ j, (h : j < a.length) → j < k → a[j] = b[j]'(by omega)) ?_ (by simp) (fun k hk hr => ?_) (fun hr => ?_)
    · exact Weak.cov (by (conv => whnf); (repeat (refine ⟨rfl, ?_⟩; (conv => whnf))); exact trivial)
    · conv => whnf
      refine ⟨fun h => ?_, fun h => absurd h (by simp; omega)⟩
      conv => whnf
      refine .inl ⟨⟨false, [], [], []⟩, by kernel_rfl, ?_⟩; (conv => whnf)
      refine ⟨by omega, encI a[k], by simp [hk], ?_⟩
      (conv=>whnf);(try(refine ⟨(rfl:(_:Heap)=_),?_⟩;(conv=>whnf)))
      refine ⟨by omega, encI (b[k]'(by omega)), by rw [toNat_cast, List.getElem?_map, List.getElem?_eq_getElem (by omega)]; rfl, ?_⟩
      (conv=>whnf);(try(refine ⟨(rfl:(_:Heap)=_),?_⟩;(conv=>whnf)))
      refine ⟨fun h2 => ?_, fun h2 => ?_⟩
      · (conv=>whnf);(try(refine ⟨(rfl:(_:Heap)=_),?_⟩;(conv=>whnf)))
        refine .inr ⟨by simp, ?_⟩
        conv => whnf
        (exact ⟨.inl rfl, _, .refl _, congrArg (fun b => some (C.v (Value.bool b))) (by symm; rw [beq_eq_false_iff_ne]; intro e; subst e; simp at h2)⟩)
      · (conv=>whnf);(try(refine ⟨(rfl:(_:Heap)=_),?_⟩;(conv=>whnf)))
        refine .inl ⟨rfl, ?_, ?_⟩
        · rw [i64_nat (by omega)]
          exact Weak.covD 0 (by (conv => whnf); (repeat (refine ⟨rfl, ?_⟩; (conv => whnf))); exact trivial) rfl rfl rfl rfl rfl
        · intro j hj hjk
          by_cases e : j = k
          · subst e; simpa using h2
          · exact hr j hj (by omega)
    · conv => whnf
      refine ⟨fun h => absurd h (by simp), fun h => ?_⟩
      conv => whnf
      refine ⟨by simp, ?_⟩
      conv => whnf
      (exact ⟨.inl rfl, _, .refl _, congrArg (fun b => some (C.v (Value.bool b))) (by symm; rw [beq_iff_eq]; exact List.ext_getElem hl fun j h1 h2 => hr j h1 h1)⟩)
def sameEV (a b : En) : Bool := a.head == b.head && a.active == b.active && a.next == b.next
end Go.Slp
namespace Go.Slp
open Go.Ab Go.Proofs Go.Hy
set_option linter.unusedVariables false
set_option maxRecDepth 8000
theorem make_sound : SoundAt Tryz.prog 110 [] [.v (.int .u32 0), I 0] (.tup [U 1, I 0]) [] :=
  of_calls [] (fun w => (YtdbcjcnfaajpjaaGreat.make_yes 0 0 w (by decide) (by decide) (by decide) (by decide)).mono fun e w' ⟨h1, h2⟩ => ⟨h1, h2.symm⟩) args2 fun E => .tup _ _ rfl fun j c y e1 e2 => by
    match j, e1, e2 with
    | 0, e1, e2 => cases e1; cases e2; exact .v _ rfl
    | 1, e1, e2 => cases e1; cases e2; exact .v _ rfl
def rowK (n k : Nat) : List Int := (List.range n).map fun i => if i < k then (i : Int) + 1 else 0
def freshL (n : Nat) : List Int := (List.range n).map fun (i : Nat) => if i + 1 = n then -1 else (i : Int) + 1
theorem rowK_len (n k : Nat) : (rowK n k).length = n := by simp [rowK]
theorem rowK_succ {n k : Nat} (h : k < n) : (rowK n k).set k ((k : Int) + 1) = rowK n (k + 1) := by
  apply List.ext_getElem?
  intro j
  rw [List.getElem?_set, rowK_len]
  unfold rowK
  simp only [List.getElem?_map]
  by_cases hj : j < n
  · rw [List.getElem?_range hj]
    by_cases e : k = j
    · subst e; simp [h]
    · simp only [e, if_false, Option.map_some]
      by_cases h2 : j < k
      · simp [h2, show j < k + 1 from by omega]
      · simp [h2, show ¬ j < k + 1 from by omega]
  · rw [List.getElem?_eq_none (by simp; omega)]
    simp
    omega
theorem rowK_end {n : Nat} : (rowK n n).set (n - 1) (-1) = freshL n := by
  apply List.ext_getElem?
  intro j
  rw [List.getElem?_set, rowK_len]
  unfold rowK freshL
  simp only [List.getElem?_map]
  by_cases hj : j < n
  · rw [List.getElem?_range hj]
    by_cases e : n - 1 = j
    · subst e; simp [show n - 1 < n from by omega, show n - 1 + 1 = n from by omega]
    · simp only [e, if_false, Option.map_some, hj, if_true, show ¬ j + 1 = n from by omega]
  · rw [List.getElem?_eq_none (by simp; omega)]
    simp
    omega
theorem fresh_eq {n : Int} (h1 : ¬ (n < 1 ∨ 4 < n)) : freshV n = (⟨1, freshL n.toNat, 0⟩, 0) := by unfold freshV; rw [if_neg h1]; rfl
theorem fresh_sound (n : Int) : SoundAt Tryz.prog 80 [] [I n] (tQ (freshV n)) [] := by
  refine SoundAt.of_wpA1 (fn := Tryz.f80) Tryz.func80 rfl ?_
  conv => whnf
  have hbad : n < 1 ∨ 4 < n → freshV n = (no, 1) := fun h => by unfold freshV; rw [if_pos h]
  refine ⟨fun h1 => ?_, fun h1 => ?_⟩
  · rw [hbad (.inl (by simpa using h1))]
    (conv=>whnf);(try(refine ⟨(rfl:(_:Heap)=_),?_⟩;(conv=>whnf)))
    exact ⟨.inl rfl, _, Weak.var 0 rfl rfl rfl (.cons (.refl _) (.cons (WC.nil 0 1) (.cons (.refl _) .nil))), rfl⟩
  · (conv=>whnf);(try(refine ⟨(rfl:(_:Heap)=_),?_⟩;(conv=>whnf)))
    refine ⟨fun h2 => ?_, fun h2 => ?_⟩
    · rw [hbad (.inr (by simpa using h2))]
      (conv=>whnf);(try(refine ⟨(rfl:(_:Heap)=_),?_⟩;(conv=>whnf)))
      exact ⟨.inl rfl, _, Weak.var 0 rfl rfl rfl (.cons (.refl _) (.cons (WC.nil 0 1) (.cons (.refl _) .nil))), rfl⟩
    · have g1 : 1 ≤ n := by simp at h1; omega
      have g2 : n ≤ 4 := by simp at h2; omega
      rw [fresh_eq (by omega)]
      obtain ⟨m, rfl⟩ : ∃ m : Nat, n = m := ⟨n.toNat, by omega⟩
      rw [toNat_cast]
      (conv=>whnf);(try(refine ⟨(rfl:(_:Heap)=_),?_⟩;(conv=>whnf)))
      refine ⟨rfl, by omega, by show (8 : Int) * _ ≤ _; omega, by omega, ?_⟩
      (conv=>whnf);(try(refine ⟨(rfl:(_:Heap)=_),?_⟩;(conv=>whnf)))
      refine Loops.seq m (fun k => [I m, .junk, .ref 0 [] 3 0 0, I 0, .ref 2 [] 3 0 0, .junk, .junk, .junk, .junk, .junk, .junk, .junk, .junk, .junk, .junk, .junk, .junk, .junk, I m, I k, .junk, .junk, .junk, .junk, .junk, .junk, .junk, .junk, .junk, .junk, .junk, .junk, .junk, .junk, .junk, .junk, .junk, .junk, .junk, .junk]) (fun k => [⟨1, 79, 3, [[U 0, .lst 1 0 [], I 0]], 0⟩, ⟨2, 3, 1, (rowK m k).map encI, 0⟩, ⟨1, 79, 3, [[U 0, .sl 1 [] 1 0 m false, I 0]], 0⟩]) (fun _ => True) ?_ trivial (fun k hk _ => ?_) (fun _ => ?_)
      · have e1 : List.replicate ((m : Int)).toNat [C.v (Value.int .i64 0)] = (rowK m 0).map encI := by
          simp only [toNat_cast]
          apply List.ext_getElem?
          intro j
          rw [List.getElem?_replicate, List.getElem?_map]
          unfold rowK
          simp only [List.getElem?_map]
          split
          · rename_i hj; rw [List.getElem?_range hj]; rfl
          · rw [List.getElem?_eq_none (by simp; omega)]; rfl
        show Weak 0 ⟨_, [_, ⟨2, 3, 1, List.replicate ((m : Int)).toNat [C.v (Value.int .i64 0)], 0⟩, _]⟩ _
        rw [e1]
        exact Weak.cov (by (conv => whnf); (repeat (refine ⟨rfl, ?_⟩; (conv => whnf))); exact trivial)
      · have hg : ((rowK m k).map encI)[k]? = some (encI ((rowK m k)[k]'(by rw [rowK_len]; exact hk))) := by rw [List.getElem?_map, List.getElem?_eq_getElem (by rw [rowK_len]; exact hk)]; rfl
        have hse : ((rowK m k).map encI).set k [I ((k + 1 : Nat) : Int)] = (rowK m (k + 1)).map encI := by rw [← rowK_succ hk, List.map_set]; rfl
        conv => whnf
        refine ⟨fun _ => ?_, fun h => absurd h (by simp; omega)⟩
        conv => whnf
        refine ⟨by omega, by simp; omega, ?_⟩
        (conv=>whnf);(try(refine ⟨(rfl:(_:Heap)=_),?_⟩;(conv=>whnf)))
        rw [Nat.zero_add, i64_nat (by omega), toNat_cast]
        refine ⟨_, hg, rfl, ?_⟩
        (conv=>whnf);(try(refine ⟨(rfl:(_:Heap)=_),?_⟩;(conv=>whnf)))
        rw [show List.set (List.map encI (rowK m k)) k [C.v (Value.int IntKind.i64 ((k + 1 : Nat) : Int))] = (rowK m (k + 1)).map encI from hse]
        refine .inl ⟨rfl, ?_, trivial⟩
        rw [i64_nat (by omega)]
        exact Weak.covD 3 (by (conv => whnf); (repeat (refine ⟨rfl, ?_⟩; (conv => whnf))); exact trivial) rfl rfl rfl rfl rfl
      · have hg : ((rowK m m).map encI)[m - 1]? = some (encI ((rowK m m)[m - 1]'(by rw [rowK_len]; omega))) := by rw [List.getElem?_map, List.getElem?_eq_getElem (by rw [rowK_len]; omega)]; rfl
        have hse : ((rowK m m).map encI).set (m - 1) [I (-1)] = (freshL m).map encI := by rw [← rowK_end, List.map_set]; rfl
        have hw : IntKind.i64.wrap ((m : Int) - 1) = ((m - 1 : Nat) : Int) := by rw [i64_ok (by omega) (by omega)]; omega
        have hfl : (freshL m).length = m := by simp [freshL]
        conv => whnf
        refine ⟨fun h => absurd h (by simp), fun _ => ?_⟩
        conv => whnf
        refine ⟨by simp, ?_⟩
        conv => whnf
        rw [hw]
        refine ⟨by omega, by simp; omega, ?_⟩
        (conv=>whnf);(try(refine ⟨(rfl:(_:Heap)=_),?_⟩;(conv=>whnf)))
        rw [Nat.zero_add, toNat_cast]
        refine ⟨_, hg, rfl, ?_⟩
        (conv=>whnf);(try(refine ⟨(rfl:(_:Heap)=_),?_⟩;(conv=>whnf)))
        rw [show List.set (List.map encI (rowK m m)) (m - 1) [C.v (Value.int IntKind.i64 (-1))] = (freshL m).map encI from hse]
        refine ⟨_, _, (make_sound).frame rfl _, ?_⟩; (conv=>whnf);(try(refine ⟨(rfl:(_:Heap)=_),?_⟩;(conv=>whnf)))
        exact ⟨.inl rfl, _, Weak.freezeH 0 1 rfl rfl rfl (by simp [hfl]) (fun r hr c hc => by
          obtain ⟨n, _, rfl⟩ := List.mem_map.1 hr
          simp [encI] at hc
          subst hc; rfl) rfl rfl, rfl⟩
def rowR (k : Nat) : List Int := (List.range k).map fun (i : Nat) => (i : Int) + 1
end Go.Slp
