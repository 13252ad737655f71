/- Layer 3 (names): hosts, patterns, paths and parts, walked. -/
import Derived.Test.YtephgjkcoopocaaNamB
namespace Go.Nam
open Go.Ab Go.Proofs Go.Hy Go.Gat
set_option linter.unusedVariables false
set_option maxRecDepth 8000

def hostV (s : Str) : Bool := decide (s.length ≤ 32) && (cutV 46 s).all nameV

theorem cut_len (b : UInt8) : ∀ s : Str, (cutV b s).length ≤ s.length + 1
  | [] => by simp [cutV]
  | c :: s => by
    have := cut_len b s
    unfold cutV
    split
    · simp; omega
    · split
      · rename_i h; rw [h] at this; simp at this ⊢; omega
      · simp
theorem part_le (b : UInt8) (s : Str) (k : Nat) (p : Str) (h : (cutV b s)[k]? = some p) : p.length ≤ s.length := by
  have hk := (List.getElem?_eq_some_iff.1 h).1
  by_cases hl : k + 1 = (cutV b s).length
  · obtain ⟨h1, h2⟩ := cut_last hl
    rw [h2] at h; cases h; exact rest_le b s k
  · obtain ⟨h1, h2, h3⟩ := cut_at (b := b) (s := s) (k := k) (by omega)
    rw [h2] at h; cases h
    have := head_lt h1
    have := rest_le b s k
    omega

theorem host_sound (s : Str) (hs : s.length < 4611686018427387904) : SoundAt Try.prog 20 [] [Tx s] (Bo (hostV s)) [] := by
  refine SoundAt.of_wpA1 (fn := Try.f20) Try.func20 rfl ?_
  conv => whnf
  refine ⟨fun h => ?_, fun h => ?_⟩
  · (conv => whnf); (try (refine ⟨(rfl : (_ : Heap) = _), ?_⟩; (conv => whnf)))
    (exact ⟨.inl rfl, _, .refl _, congrArg (fun b => some (C.v (Value.bool b))) (by simp [hostV]; simp at h; omega)⟩)
  · (conv => whnf); (try (refine ⟨(rfl : (_ : Heap) = _), ?_⟩; (conv => whnf)))
    refine ⟨_, _, parts_sound _ s 46, ?_⟩
    conv => whnf
    have hn := cutV_ne 46 s
    have hlen : 0 < (cutV 46 s).length := by
      rcases Nat.eq_zero_or_pos (cutV 46 s).length with e | e
      · exact absurd (List.length_eq_zero_iff.1 e) hn
      · exact e
    have hple : ∀ (k : Nat) (p : Str), (cutV 46 s)[k]? = some p → p.length < 4611686018427387904 := fun k p hp => by have := part_le 46 s k p hp; omega
    refine ⟨_, .refl _, ?_⟩
    by_cases hall : (cutV 46 s).all nameV = true
    · have hname : ∀ (k : Nat) p, (cutV 46 s)[k]? = some p → nameV p = true := fun k p hp => List.all_eq_true.1 hall p (List.mem_of_getElem? hp)
      refine ⟨.normal, _, [⟨1, 4, 1, [[Bo false]], 0⟩], fun l r h1 h2 h3 h4 h5 => ⟨_, _, r, parts1_sound l s 46 hs (fun _ => ⟨1, 4, 1, [[Bo false]], 0⟩) (fun _ => [obR l r _]) ((cutV 46 s).length - 1) true (by omega) (.inr (by omega)) (fun k p hk hp => ?_) (fun p hp => ?_),
        rfl, by rw [h1]; decide, rfl, Nat.zero_le _, by rw [h2]; trivial, Weak.low 1 _ _ rfl rfl rfl⟩, ?_⟩
      · refine YieldS.of_wpA (id := 3) rfl h1 h2 h3 h4 h5 rfl rfl rfl ?_
        conv => whnf
        refine ⟨rfl, rfl, ?_⟩
        conv => whnf
        refine ⟨_, _, (name_sound p (hple _ _ hp)).frame rfl _, ?_⟩; (conv => whnf); (try (refine ⟨(rfl : (_ : Heap) = _), ?_⟩; (conv => whnf)))
        refine ⟨fun _ => ?_, fun h => absurd ((hname _ _ hp).symm.trans h : true = false) (by decide)⟩; (conv => whnf); (try (refine ⟨(rfl : (_ : Heap) = _), ?_⟩; (conv => whnf)))
        exact ⟨_, _, .refl _, rfl, .inl ⟨rfl, rfl, rfl⟩⟩
      · refine YieldS.of_wpA (id := 3) rfl h1 h2 h3 h4 h5 rfl rfl rfl ?_
        conv => whnf
        refine ⟨rfl, rfl, ?_⟩
        conv => whnf
        refine ⟨_, _, (name_sound p (hple _ _ hp)).frame rfl _, ?_⟩; (conv => whnf); (try (refine ⟨(rfl : (_ : Heap) = _), ?_⟩; (conv => whnf)))
        refine ⟨fun _ => ?_, fun h => absurd ((hname _ _ hp).symm.trans h : true = false) (by decide)⟩; (conv => whnf); (try (refine ⟨(rfl : (_ : Heap) = _), ?_⟩; (conv => whnf)))
        exact ⟨_, _, .refl _, rfl, .inl ⟨rfl, rfl, rfl⟩⟩
      · conv => whnf
        (exact ⟨.inl rfl, _, .refl _, congrArg (fun b => some (C.v (Value.bool b))) (by simp [hostV, hall]; simp at h; omega)⟩)
    · obtain ⟨j, hj⟩ : ∃ j, (cutV 46 s).findIdx? (fun p => !nameV p) = some j := by
        cases e : (cutV 46 s).findIdx? (fun p => !nameV p) with
        | some j => exact ⟨j, rfl⟩
        | none =>
          exfalso
          rw [List.findIdx?_eq_none_iff] at e
          exact hall (List.all_eq_true.2 fun x hx => by simpa using e x hx)
      rw [List.findIdx?_eq_some_iff_getElem] at hj
      obtain ⟨hjl, hj1, hj2⟩ := hj
      have hall : (cutV 46 s).all nameV = false := by simpa using hall
      refine ⟨.ret, _, [⟨1, 4, 1, [[Bo false]], 0⟩], fun l r h1 h2 h3 h4 h5 => ⟨_, _, left r .ret, parts1_sound l s 46 hs (fun _ => ⟨1, 4, 1, [[Bo false]], 0⟩) (fun k => [obR l (if k < j + 1 then r else left r .ret) _]) j false hjl (.inl rfl) (fun k p hk hp => ?_) (fun p hp => ?_),
        congrArg (fun x => some (obR l x _)) (if_neg (Nat.lt_irrefl (j + 1))), by simp, rfl, Nat.zero_le _, trivial, Weak.low 1 _ _ rfl rfl rfl⟩, ?_⟩
      · have e1 : k < j + 1 := by omega
        have e2 : k + 1 < j + 1 := by omega
        simp only [if_pos e1, if_pos e2]
        refine YieldS.of_wpA (id := 3) rfl h1 h2 h3 h4 h5 rfl rfl rfl ?_
        conv => whnf
        refine ⟨rfl, rfl, ?_⟩
        conv => whnf
        refine ⟨_, _, (name_sound p (hple _ _ hp)).frame rfl _, ?_⟩; (conv => whnf); (try (refine ⟨(rfl : (_ : Heap) = _), ?_⟩; (conv => whnf)))
        have hname : nameV p = true := by
          have h6 := hj2 k hk
          rw [List.getElem?_eq_getElem (by omega)] at hp
          cases hp
          simpa using h6
        refine ⟨fun _ => ?_, fun h => absurd ((hname).symm.trans h : true = false) (by decide)⟩; (conv => whnf); (try (refine ⟨(rfl : (_ : Heap) = _), ?_⟩; (conv => whnf)))
        exact ⟨_, _, .refl _, rfl, .inl ⟨rfl, rfl, rfl⟩⟩
      · simp only [if_pos (Nat.lt_succ_self j), if_neg (Nat.lt_irrefl (j + 1))]
        refine YieldS.of_wpA (id := 3) rfl h1 h2 h3 h4 h5 rfl rfl rfl ?_
        conv => whnf
        refine ⟨rfl, rfl, ?_⟩
        conv => whnf
        refine ⟨_, _, (name_sound p (hple _ _ hp)).frame rfl _, ?_⟩; (conv => whnf); (try (refine ⟨(rfl : (_ : Heap) = _), ?_⟩; (conv => whnf)))
        have hname : nameV p = false := by
          rw [List.getElem?_eq_getElem hjl] at hp
          cases hp
          simpa using hj1
        refine ⟨fun h => absurd ((hname).symm.trans h : false = true) (by decide), fun _ => ?_⟩; (conv => whnf); (try (refine ⟨(rfl : (_ : Heap) = _), ?_⟩; (conv => whnf)))
        exact ⟨_, _, .refl _, rfl, .inr ⟨rfl, .inl ⟨rfl, rfl⟩⟩⟩
      · conv => whnf
        (exact ⟨.inl rfl, _, .refl _, congrArg (fun b => some (C.v (Value.bool b))) (by simp [hostV, hall])⟩)

abbrev pk (b : UInt8) (s : Str) (k : Nat) : List (List C) := ((cutV b s).take k).map encT
theorem pk_succ {b : UInt8} {s : Str} {k : Nat} {p : Str} (h : (cutV b s)[k]? = some p) : pk b s (k + 1) = pk b s k ++ [[Tx p]] := by
  unfold pk
  rw [List.take_add_one, h]
  simp [encT]

theorem parts_all (s : Str) (b : UInt8) (hs : s.length < 8000000000000) : SoundAt Try.prog 27 [] [Tx s, By (bI b)] (lT (cutV b s)) [] := by
  refine SoundAt.of_wpA1 (fn := Try.f27) Try.func27 rfl ?_
  conv => whnf
  refine ⟨_, _, parts_sound _ s b, ?_⟩
  conv => whnf
  have hn := cutV_ne b s
  have hlen : 0 < (cutV b s).length := by
    rcases Nat.eq_zero_or_pos (cutV b s).length with e | e
    · exact absurd (List.length_eq_zero_iff.1 e) hn
    · exact e
  have hle := cut_len b s
  refine ⟨_, Weak.growH 0 0 9 1 rfl rfl (.inl rfl) rfl rfl, ?_⟩
  refine ⟨.normal, _, [⟨1, 30, 1, [[.gl 3 1 (pk b s ((cutV b s).length - 1 + 1))]], 0⟩, ⟨1, 9, 1, [[Tx (restV b s ((cutV b s).length - 1))]], 0⟩, ⟨1, 5, 1, [[By (bI b)]], 0⟩, ⟨4, 9, 1, pk b s ((cutV b s).length - 1 + 1), 0⟩],
    fun l r h1 h2 h3 h4 h5 => ⟨_, _, r, parts1_sound l s b (by omega) (fun k => ⟨1, 30, 1, [[.gl 3 1 (pk b s k)]], 0⟩) (fun k => [⟨4, 9, 1, pk b s k, 0⟩, obR l r _]) ((cutV b s).length - 1) true (by omega) (.inr (by omega)) (fun k p hk hp => ?_) (fun p hp => ?_),
    rfl, by rw [h1]; decide, rfl, Nat.zero_le _, by rw [h2]; trivial, Weak.low 4 _ _ rfl rfl rfl⟩, ?_⟩
  · refine YieldS.of_wpA (id := 4) rfl h1 h2 h3 h4 h5 rfl rfl rfl ?_
    conv => whnf
    refine ⟨rfl, rfl, ?_⟩
    conv => whnf
    have hpk : (pk b s k).length ≤ s.length + 1 := by simp [pk]; omega
    refine ⟨rfl, .inr rfl, by simp [maxLen]; omega, by show _ * 16 ≤ _; simp; omega, ?_⟩
    conv => whnf
    rw [← pk_succ hp]
    exact ⟨_, _, .refl _, rfl, .inl ⟨rfl, rfl, rfl⟩⟩
  · refine YieldS.of_wpA (id := 4) rfl h1 h2 h3 h4 h5 rfl rfl rfl ?_
    conv => whnf
    refine ⟨rfl, rfl, ?_⟩
    conv => whnf
    have hpk : (pk b s ((cutV b s).length - 1)).length ≤ s.length + 1 := by simp [pk]; omega
    refine ⟨rfl, .inr rfl, by simp [maxLen]; omega, by show _ * 16 ≤ _; simp; omega, ?_⟩
    conv => whnf
    rw [← pk_succ hp]
    exact ⟨_, _, .refl _, rfl, .inl ⟨rfl, rfl, rfl⟩⟩
  · conv => whnf
    have e : pk b s ((cutV b s).length - 1 + 1) = (cutV b s).map encT := by
      unfold pk
      rw [List.take_of_length_le (by omega)]
    rw [e]
    exact ⟨.inl rfl, _, .refl _, rfl⟩

end Go.Nam
