/- Joined: LinB LinC LinD LinE. -/
import Derived.Test.YtbndjpkncgfpiaaGreatQF
import Derived.Test.YtbndjpkncgfpiaaGreatQC
/- Layer 29 (linear): a mesh's answers, walked. -/
namespace Go.Lin
open Go.Ab Go.Proofs Go.Hy Go.Gat Go.Nam Go.Hos Go.Con Go.Sna
set_option linter.unusedVariables false
set_option linter.unusedSimpArgs false
set_option maxRecDepth 100000
set_option maxHeartbeats 4000000

theorem found_good {s : Sna} {n h p : Str} (hs : GoodS s) (h0 : (foundV s n h p).2 = 0) : ∃ c, s.clusters[(foundV s n h p).1.toNat]? = some c ∧ c ∈ s.clusters ∧ 0 ≤ (foundV s n h p).1 := by
  have hb := bst_lt s.rules (idxT s.listens n) h p s.rules.length
  unfold foundV at h0 ⊢
  split at h0
  · cases h0
  · rename_i h1
    rw [if_neg h1]
    split at h0
    · rename_i h2; exact absurd h0 h2
    · rename_i h2
      rw [if_neg h2]
      have h2 : (bestV s.rules (idxT s.listens n) h p).2 = 0 := by simpa using h2
      have hb2 : (bestV s.rules (idxT s.listens n) h p).1.toNat < s.rules.length := by
        unfold bestV at h2 ⊢
        split at h2
        · cases h2
        · rename_i h3
          rw [if_neg h3]
          simp only
          omega
      rw [List.getElem?_eq_getElem hb2]
      obtain ⟨h4, h5⟩ := hs.rules _ (List.getElem_mem hb2)
      exact ⟨_, List.getElem?_eq_getElem h5, List.getElem_mem h5, h4⟩

def idxI (l : List Int) (s : Int) : Int := match l.findIdx? (fun x => x == s) with | some i => (i : Int) | none => -1
theorem idxI_sound (l : List Int) (s : Int) (hl : l.length < 4611686018427387904) : SoundAt Tryz.prog 58 [] [lI l, I s] (I (idxI l s)) [] := by
  have hlm : (l.map encI).length = l.length := List.length_map ..
  refine SoundAt.of_wpA1 (fn := Tryz.f58) Tryz.func58 rfl ?_
  conv => whnf
  rw [hlm]
  refine Loops.seq l.length (fun k => [lI l, I s, .junk, .junk, I 0, .junk, .junk, I l.length, I k, .junk, .junk, .junk, .junk, .junk, .junk, .junk, .junk, .junk, .junk]) (fun k => []) (fun k => ∀ j, (h : j < l.length) → j < k → (l[j] == s) = false) ?_ (by simp) (fun k hk hr => ?_) (fun hr => ?_)
  · exact Weak.cov (by (conv => whnf); (repeat (refine ⟨rfl, ?_⟩; (conv => whnf))); exact trivial)
  · have hg : (l.map encI)[k]? = some (encI l[k]) := by rw [List.getElem?_map, List.getElem?_eq_getElem hk]; rfl
    conv => whnf
    (refine ⟨fun _ => ?_, fun h => absurd h (by simp; omega)⟩); (conv => whnf); (try (refine ⟨(rfl : (_ : Heap) = _), ?_⟩; (conv => whnf)))
    (refine ⟨by omega, _, by rw [toNat_cast]; exact hg, ?_⟩); (conv => whnf); (try (refine ⟨(rfl : (_ : Heap) = _), ?_⟩; (conv => whnf)))
    refine ⟨fun h2 => ?_, fun h2 => ?_⟩
    · (conv => whnf); (try (refine ⟨(rfl : (_ : Heap) = _), ?_⟩; (conv => whnf)))
      (refine .inr ⟨by simp, ?_⟩); (conv => whnf)
      have e : idxI l s = k := by
        unfold idxI
        have : l.findIdx? (fun x => x == s) = some k := by
          rw [List.findIdx?_eq_some_iff_getElem]
          refine ⟨hk, ?_, fun j hj => by simp only [hr j (by omega) hj]; decide⟩
          simp at h2; simp [h2]
        rw [this]
      rw [e]
      exact ⟨.inl rfl, _, .refl _, rfl⟩
    · (conv => whnf); (try (refine ⟨(rfl : (_ : Heap) = _), ?_⟩; (conv => whnf)))
      refine .inl ⟨rfl, ?_, fun j hj hjk => ?_⟩
      · rw [i64_nat (by omega)]
        exact Weak.covD 0 (by (conv => whnf); (repeat (refine ⟨rfl, ?_⟩; (conv => whnf))); exact trivial) rfl rfl rfl rfl rfl
      · by_cases e : j = k
        · subst e; simp at h2 ⊢; exact fun h => h2 h.symm
        · exact hr j hj (by omega)
  · (conv => whnf); (refine ⟨fun h => absurd h (by simp), fun _ => ?_⟩); (conv => whnf); (try (refine ⟨(rfl : (_ : Heap) = _), ?_⟩; (conv => whnf))); (refine ⟨by simp, ?_⟩); (conv => whnf)
    have e : idxI l s = -1 := by
      unfold idxI
      have : l.findIdx? (fun x => x == s) = none := by
        rw [List.findIdx?_eq_none_iff]
        intro x hx
        obtain ⟨j, hj, rfl⟩ := List.mem_iff_getElem.1 hx
        exact hr j hj hj
      rw [this]
    rw [e]
    exact ⟨.inl rfl, _, .refl _, rfl⟩
theorem conI_sound (l : List Int) (s : Int) (hl : l.length < 4611686018427387904) : SoundAt Tryz.prog 40 [] [lI l, I s] (Bo (l.any fun x => x == s)) [] := by
  refine SoundAt.of_wpA1 (fn := Tryz.f40) Tryz.func40 rfl ?_
  conv => whnf
  refine ⟨_, _, (idxI_sound l s hl).frame rfl _, ?_⟩; (conv => whnf); (try (refine ⟨(rfl : (_ : Heap) = _), ?_⟩; (conv => whnf)))
  rw [show decide (idxI l s ≥ 0) = l.any (fun x => x == s) from idx_any l _]
  refine ⟨fun h => ?_, fun h => ?_⟩
  · (conv => whnf); (try (refine ⟨(rfl : (_ : Heap) = _), ?_⟩; (conv => whnf)))
    (exact ⟨.inl rfl, _, .refl _, congrArg (fun b => some (C.v (Value.bool b))) (by exact h.symm)⟩)
  · (conv => whnf); (try (refine ⟨(rfl : (_ : Heap) = _), ?_⟩; (conv => whnf)))
    (exact ⟨.inl rfl, _, .refl _, congrArg (fun b => some (C.v (Value.bool b))) (by exact h.symm)⟩)


theorem handle_sound (b : Nat) (m : Msh) (hm : GoodM m) (o : Opn) (a : Ans) (ho : SmallP o) : SoundAt Tryz.prog 28 [(obM b (entE encSt (kvV m.dr)) (kvV m.dr).length), ⟨1, 86, 3, [[.gl 2 3 (m.snaps.map encS), I m.now, .v (.map (some b))]], 0⟩, ⟨4, 80, 3, m.snaps.map encS, 0⟩] [.ref 1 [] 3 0 0, Cp o, Ca a] (Bo (handleV m o a)) [(obM b (entE encSt (kvV m.dr)) (kvV m.dr).length), ⟨1, 86, 3, [[.gl 2 3 (m.snaps.map encS), I m.now, .v (.map (some b))]], 0⟩, ⟨4, 80, 3, m.snaps.map encS, 0⟩] := by
  obtain ⟨s, hs, hsg⟩ := hm.cur
  have hg : (m.snaps.map encS)[m.now.toNat]? = some (encS s) := by rw [List.getElem?_map, hs]; rfl
  refine SoundAt.of_wpA (fn := Tryz.f28) Tryz.func28 rfl ?_
  conv => whnf
  refine ⟨⟨false, [], [], []⟩, by kernel_rfl, ?_⟩; (conv => whnf)
  by_cases hd : o.listen ∈ m.dr
  · refine ⟨_, _, OpV.lookup (id := 0) _ _ _ rfl Tryz.underlying84 (KeyT.str Tryz.underlying9) rfl rfl o.listen (fun E u h => val_v h) (c := Bo true) rfl rfl (fun E => by rw [kv_get, if_pos hd]; exact .v _ rfl), ?_⟩
    (conv => whnf); (try (refine ⟨(rfl : (_ : Heap) = _), ?_⟩; (conv => whnf)))
    refine ⟨fun h1 => ?_, fun h1 => ?_⟩
    · have e : handleV m o a = true := by unfold handleV; rw [if_pos hd]; exact h1
      rw [e]
      (conv => whnf); (try (refine ⟨(rfl : (_ : Heap) = _), ?_⟩; (conv => whnf)))
      exact ⟨.inl rfl, ⟨[.junk, .junk, .junk, .junk, .junk, .junk, Bo true, .junk, .junk, .junk, .junk, .junk, .junk, .junk, .junk, .junk, .junk, .junk, .junk, .junk, .junk, .junk, .junk, .junk, .junk, .junk, .junk, .junk, .junk, .junk, .junk, .junk, .junk, .junk, .junk, .junk, .junk, .junk, .junk, .junk, .junk, .junk, .junk, .junk, .junk, .junk, .junk, .junk, .junk, .junk, .junk, .junk, .junk, .junk, .junk, .junk, .junk, .junk, .junk, .junk, .junk, .junk, .junk, .junk, .junk, .junk, .junk, .junk, .junk, .junk, .junk, .junk, .junk, .junk, .junk, .junk, .junk, .junk, .junk, .junk, .junk, .junk, .junk, .junk, .junk, .junk, .junk, .junk], _⟩, Weak.covD 3 (by (conv => whnf); (repeat (refine ⟨rfl, ?_⟩; (conv => whnf))); exact trivial) rfl rfl rfl rfl rfl, rfl, rfl⟩
    · have e : handleV m o a = false := by unfold handleV; rw [if_pos hd]; exact h1
      rw [e]
      (conv => whnf); (try (refine ⟨(rfl : (_ : Heap) = _), ?_⟩; (conv => whnf)))
      exact ⟨.inl rfl, ⟨[.junk, .junk, .junk, .junk, .junk, .junk, Bo false, .junk, .junk, .junk, .junk, .junk, .junk, .junk, .junk, .junk, .junk, .junk, .junk, .junk, .junk, .junk, .junk, .junk, .junk, .junk, .junk, .junk, .junk, .junk, .junk, .junk, .junk, .junk, .junk, .junk, .junk, .junk, .junk, .junk, .junk, .junk, .junk, .junk, .junk, .junk, .junk, .junk, .junk, .junk, .junk, .junk, .junk, .junk, .junk, .junk, .junk, .junk, .junk, .junk, .junk, .junk, .junk, .junk, .junk, .junk, .junk, .junk, .junk, .junk, .junk, .junk, .junk, .junk, .junk, .junk, .junk, .junk, .junk, .junk, .junk, .junk, .junk, .junk, .junk, .junk, .junk, .junk], _⟩, Weak.covD 3 (by (conv => whnf); (repeat (refine ⟨rfl, ?_⟩; (conv => whnf))); exact trivial) rfl rfl rfl rfl rfl, rfl, rfl⟩
  refine ⟨_, _, OpV.lookup (id := 0) _ _ _ rfl Tryz.underlying84 (KeyT.str Tryz.underlying9) rfl rfl o.listen (fun E u h => val_v h) (c := Bo false) rfl rfl (fun E => by rw [kv_get, if_neg hd]; exact .v _ rfl), ?_⟩
  (conv => whnf); (try (refine ⟨(rfl : (_ : Heap) = _), ?_⟩; (conv => whnf)))
  refine ⟨⟨false, [3, 7, 9], [1], []⟩, by kernel_rfl, ?_⟩; (conv => whnf)
  refine ⟨hm.now0, _, hg, ?_⟩
  (conv => whnf); (try (refine ⟨(rfl : (_ : Heap) = _), ?_⟩; (conv => whnf)))
  refine ⟨rfl, ?_⟩
  (conv => whnf); (try (refine ⟨(rfl : (_ : Heap) = _), ?_⟩; (conv => whnf)))
  refine ⟨rfl, ?_⟩
  (conv => whnf); (try (refine ⟨(rfl : (_ : Heap) = _), ?_⟩; (conv => whnf)))
  have e0 : handleV m o a = if (foundV s o.listen o.host o.path).2 ≠ 0 then a.kind == 2 else match s.clusters[(foundV s o.listen o.host o.path).1.toNat]? with
    | none => false
    | some c => if healthyL c = [] then a.kind == 3 else if a.kind = 4 then true else a.kind == 1 && a.version == m.now && a.cluster == (foundV s o.listen o.host o.path).1 && (healthyL c).any fun x => x == a.end_ := by
    unfold handleV; rw [if_neg hd, hs]; rfl
  refine ⟨_, _, (find_sound s o.listen o.host o.path hsg.small ho.host ho.path).frame rfl _, ?_⟩; (conv => whnf); (try (refine ⟨(rfl : (_ : Heap) = _), ?_⟩; (conv => whnf)))
  refine ⟨fun h2 => ?_, fun h2 => ?_⟩
  · rw [if_pos (by simpa using h2)] at e0
    (conv => whnf); (try (refine ⟨(rfl : (_ : Heap) = _), ?_⟩; (conv => whnf)))
    refine ⟨fun h1 => ?_, fun h1 => ?_⟩ <;> (rw [e0, h1]; (conv => whnf); (try (refine ⟨(rfl : (_ : Heap) = _), ?_⟩; (conv => whnf))); exact ⟨.inl rfl, ⟨[.junk, .junk, .junk, .junk, .junk, .junk, Bo _, .junk, .junk, .junk, .junk, .junk, .junk, .junk, .junk, .junk, .junk, .junk, .junk, .junk, .junk, .junk, .junk, .junk, .junk, .junk, .junk, .junk, .junk, .junk, .junk, .junk, .junk, .junk, .junk, .junk, .junk, .junk, .junk, .junk, .junk, .junk, .junk, .junk, .junk, .junk, .junk, .junk, .junk, .junk, .junk, .junk, .junk, .junk, .junk, .junk, .junk, .junk, .junk, .junk, .junk, .junk, .junk, .junk, .junk, .junk, .junk, .junk, .junk, .junk, .junk, .junk, .junk, .junk, .junk, .junk, .junk, .junk, .junk, .junk, .junk, .junk, .junk, .junk, .junk, .junk, .junk, .junk], _⟩, Weak.covD 3 (by (conv => whnf); (repeat (refine ⟨rfl, ?_⟩; (conv => whnf))); exact trivial) rfl rfl rfl rfl rfl, rfl, rfl⟩)
  have h2 : (foundV s o.listen o.host o.path).2 = 0 := by simpa using h2
  rw [if_neg (by simp [h2])] at e0
  obtain ⟨c, hc, hcm, hc0⟩ := found_good hsg h2
  have hgc : (s.clusters.map encC)[(foundV s o.listen o.host o.path).1.toNat]? = some (encC c) := by rw [List.getElem?_map, hc]; rfl
  have hch := hsg.clusters c hcm
  have ml : ((healthyL c).map encI).length = (healthyL c).length := List.length_map ..
  rw [hc] at e0
  simp only at e0
  (conv => whnf); (try (refine ⟨(rfl : (_ : Heap) = _), ?_⟩; (conv => whnf)))
  refine ⟨hc0, _, hgc, ?_⟩
  (conv => whnf); (try (refine ⟨(rfl : (_ : Heap) = _), ?_⟩; (conv => whnf)))
  refine ⟨_, _, (healthyAll_sound c hch).frame rfl _, ?_⟩; (conv => whnf); (try (refine ⟨(rfl : (_ : Heap) = _), ?_⟩; (conv => whnf)))
  rw [ml]
  refine ⟨fun h3 => ?_, fun h3 => ?_⟩
  · have h3 : healthyL c = [] := by simpa using h3
    rw [if_pos h3] at e0
    (conv => whnf); (try (refine ⟨(rfl : (_ : Heap) = _), ?_⟩; (conv => whnf)))
    refine ⟨fun h1 => ?_, fun h1 => ?_⟩ <;> (rw [e0, h1]; (conv => whnf); (try (refine ⟨(rfl : (_ : Heap) = _), ?_⟩; (conv => whnf))); exact ⟨.inl rfl, ⟨[.junk, .junk, .junk, .junk, .junk, .junk, Bo _, .junk, .junk, .junk, .junk, .junk, .junk, .junk, .junk, .junk, .junk, .junk, .junk, .junk, .junk, .junk, .junk, .junk, .junk, .junk, .junk, .junk, .junk, .junk, .junk, .junk, .junk, .junk, .junk, .junk, .junk, .junk, .junk, .junk, .junk, .junk, .junk, .junk, .junk, .junk, .junk, .junk, .junk, .junk, .junk, .junk, .junk, .junk, .junk, .junk, .junk, .junk, .junk, .junk, .junk, .junk, .junk, .junk, .junk, .junk, .junk, .junk, .junk, .junk, .junk, .junk, .junk, .junk, .junk, .junk, .junk, .junk, .junk, .junk, .junk, .junk, .junk, .junk, .junk, .junk, .junk, .junk], _⟩, Weak.covD 3 (by (conv => whnf); (repeat (refine ⟨rfl, ?_⟩; (conv => whnf))); exact trivial) rfl rfl rfl rfl rfl, rfl, rfl⟩)
  rw [if_neg (fun h => by rw [h] at h3; simp at h3)] at e0
  (conv => whnf); (try (refine ⟨(rfl : (_ : Heap) = _), ?_⟩; (conv => whnf)))
  refine ⟨fun h4 => ?_, fun h4 => ?_⟩
  · rw [if_pos (by simpa using h4)] at e0
    rw [e0]
    (conv => whnf); (try (refine ⟨(rfl : (_ : Heap) = _), ?_⟩; (conv => whnf)))
    exact ⟨.inl rfl, ⟨[.junk, .junk, .junk, .junk, .junk, .junk, Bo true, .junk, .junk, .junk, .junk, .junk, .junk, .junk, .junk, .junk, .junk, .junk, .junk, .junk, .junk, .junk, .junk, .junk, .junk, .junk, .junk, .junk, .junk, .junk, .junk, .junk, .junk, .junk, .junk, .junk, .junk, .junk, .junk, .junk, .junk, .junk, .junk, .junk, .junk, .junk, .junk, .junk, .junk, .junk, .junk, .junk, .junk, .junk, .junk, .junk, .junk, .junk, .junk, .junk, .junk, .junk, .junk, .junk, .junk, .junk, .junk, .junk, .junk, .junk, .junk, .junk, .junk, .junk, .junk, .junk, .junk, .junk, .junk, .junk, .junk, .junk, .junk, .junk, .junk, .junk, .junk, .junk], _⟩, Weak.covD 3 (by (conv => whnf); (repeat (refine ⟨rfl, ?_⟩; (conv => whnf))); exact trivial) rfl rfl rfl rfl rfl, rfl, rfl⟩
  rw [if_neg (by simpa using h4)] at e0
  (conv => whnf); (try (refine ⟨(rfl : (_ : Heap) = _), ?_⟩; (conv => whnf)))
  refine ⟨⟨false, [], [], []⟩, by kernel_rfl, ?_⟩; (conv => whnf)
  refine ⟨fun h5 => ?_, fun h5 => ?_⟩
  rotate_left
  · rw [e0, h5, Bool.false_and, Bool.false_and, Bool.false_and]
    (conv => whnf); (try (refine ⟨(rfl : (_ : Heap) = _), ?_⟩; (conv => whnf)))
    exact ⟨.inl rfl, ⟨[.junk, .junk, .junk, .junk, .junk, .junk, Bo false, .junk, .junk, .junk, .junk, .junk, .junk, .junk, .junk, .junk, .junk, .junk, .junk, .junk, .junk, .junk, .junk, .junk, .junk, .junk, .junk, .junk, .junk, .junk, .junk, .junk, .junk, .junk, .junk, .junk, .junk, .junk, .junk, .junk, .junk, .junk, .junk, .junk, .junk, .junk, .junk, .junk, .junk, .junk, .junk, .junk, .junk, .junk, .junk, .junk, .junk, .junk, .junk, .junk, .junk, .junk, .junk, .junk, .junk, .junk, .junk, .junk, .junk, .junk, .junk, .junk, .junk, .junk, .junk, .junk, .junk, .junk, .junk, .junk, .junk, .junk, .junk, .junk, .junk, .junk, .junk, .junk], _⟩, Weak.covD 3 (by (conv => whnf); (repeat (refine ⟨rfl, ?_⟩; (conv => whnf))); exact trivial) rfl rfl rfl rfl rfl, rfl, rfl⟩
  rw [h5, Bool.true_and] at e0
  (conv => whnf); (try (refine ⟨(rfl : (_ : Heap) = _), ?_⟩; (conv => whnf)))
  refine ⟨fun h6 => ?_, fun h6 => ?_⟩
  rotate_left
  · rw [e0, h6, Bool.false_and, Bool.false_and]
    (conv => whnf); (try (refine ⟨(rfl : (_ : Heap) = _), ?_⟩; (conv => whnf)))
    exact ⟨.inl rfl, ⟨[.junk, .junk, .junk, .junk, .junk, .junk, Bo false, .junk, .junk, .junk, .junk, .junk, .junk, .junk, .junk, .junk, .junk, .junk, .junk, .junk, .junk, .junk, .junk, .junk, .junk, .junk, .junk, .junk, .junk, .junk, .junk, .junk, .junk, .junk, .junk, .junk, .junk, .junk, .junk, .junk, .junk, .junk, .junk, .junk, .junk, .junk, .junk, .junk, .junk, .junk, .junk, .junk, .junk, .junk, .junk, .junk, .junk, .junk, .junk, .junk, .junk, .junk, .junk, .junk, .junk, .junk, .junk, .junk, .junk, .junk, .junk, .junk, .junk, .junk, .junk, .junk, .junk, .junk, .junk, .junk, .junk, .junk, .junk, .junk, .junk, .junk, .junk, .junk], _⟩, Weak.covD 3 (by (conv => whnf); (repeat (refine ⟨rfl, ?_⟩; (conv => whnf))); exact trivial) rfl rfl rfl rfl rfl, rfl, rfl⟩
  rw [h6, Bool.true_and] at e0
  (conv => whnf); (try (refine ⟨(rfl : (_ : Heap) = _), ?_⟩; (conv => whnf)))
  refine ⟨fun h7 => ?_, fun h7 => ?_⟩
  rotate_left
  · rw [e0, h7, Bool.false_and]
    (conv => whnf); (try (refine ⟨(rfl : (_ : Heap) = _), ?_⟩; (conv => whnf)))
    exact ⟨.inl rfl, ⟨[.junk, .junk, .junk, .junk, .junk, .junk, Bo false, .junk, .junk, .junk, .junk, .junk, .junk, .junk, .junk, .junk, .junk, .junk, .junk, .junk, .junk, .junk, .junk, .junk, .junk, .junk, .junk, .junk, .junk, .junk, .junk, .junk, .junk, .junk, .junk, .junk, .junk, .junk, .junk, .junk, .junk, .junk, .junk, .junk, .junk, .junk, .junk, .junk, .junk, .junk, .junk, .junk, .junk, .junk, .junk, .junk, .junk, .junk, .junk, .junk, .junk, .junk, .junk, .junk, .junk, .junk, .junk, .junk, .junk, .junk, .junk, .junk, .junk, .junk, .junk, .junk, .junk, .junk, .junk, .junk, .junk, .junk, .junk, .junk, .junk, .junk, .junk, .junk], _⟩, Weak.covD 3 (by (conv => whnf); (repeat (refine ⟨rfl, ?_⟩; (conv => whnf))); exact trivial) rfl rfl rfl rfl rfl, rfl, rfl⟩
  rw [h7, Bool.true_and] at e0
  (conv => whnf); (try (refine ⟨(rfl : (_ : Heap) = _), ?_⟩; (conv => whnf)))
  refine ⟨_, _, (conI_sound (healthyL c) a.end_ (by have := idxB_len c.health c.health.length; show (idxB c.health c.health.length).length < _; omega)).frame rfl _, ?_⟩; (conv => whnf); (try (refine ⟨(rfl : (_ : Heap) = _), ?_⟩; (conv => whnf)))
  refine ⟨fun h8 => ?_, fun h8 => ?_⟩ <;> (rw [e0, h8]; (conv => whnf); (try (refine ⟨(rfl : (_ : Heap) = _), ?_⟩; (conv => whnf))); exact ⟨.inl rfl, ⟨[.junk, .junk, .junk, .junk, .junk, .junk, Bo _, .junk, .junk, .junk, .junk, .junk, .junk, .junk, .junk, .junk, .junk, .junk, .junk, .junk, .junk, .junk, .junk, .junk, .junk, .junk, .junk, .junk, .junk, .junk, .junk, .junk, .junk, .junk, .junk, .junk, .junk, .junk, .junk, .junk, .junk, .junk, .junk, .junk, .junk, .junk, .junk, .junk, .junk, .junk, .junk, .junk, .junk, .junk, .junk, .junk, .junk, .junk, .junk, .junk, .junk, .junk, .junk, .junk, .junk, .junk, .junk, .junk, .junk, .junk, .junk, .junk, .junk, .junk, .junk, .junk, .junk, .junk, .junk, .junk, .junk, .junk, .junk, .junk, .junk, .junk, .junk, .junk], _⟩, Weak.covD 3 (by (conv => whnf); (repeat (refine ⟨rfl, ?_⟩; (conv => whnf))); exact trivial) rfl rfl rfl rfl rfl, rfl, rfl⟩)

theorem swapNo_sound (b : Nat) (m : Msh) (hm : GoodM m) (o : Opn) (a : Ans) (ho : SmallP o) (h0 : (swapV m o a).2 = m) (hno : (buildV o.config).2.1 ≠ 0 ∨ a.kind ≠ 8 ∨ a.version ≠ (m.snaps.length : Int)) :
    SoundAt Tryz.prog 29 [(obM b (entE encSt (kvV m.dr)) (kvV m.dr).length), ⟨1, 86, 3, [[.gl 2 3 (m.snaps.map encS), I m.now, .v (.map (some b))]], 0⟩, ⟨4, 80, 3, m.snaps.map encS, 0⟩] [.ref 1 [] 3 0 0, Cp o, Ca a] (Bo (swapV m o a).1) [(obM b (entE encSt (kvV m.dr)) (kvV m.dr).length), ⟨1, 86, 3, [[.gl 2 3 (m.snaps.map encS), I m.now, .v (.map (some b))]], 0⟩, ⟨4, 80, 3, m.snaps.map encS, 0⟩] := by
  have ml : (m.snaps.map encS).length = m.snaps.length := List.length_map ..
  refine SoundAt.of_wpA (fn := Tryz.f29) Tryz.func29 rfl ?_
  conv => whnf
  refine ⟨_, _, (build_sound o.config ho.config).frame rfl _, ?_⟩; (conv => whnf); (try (refine ⟨(rfl : (_ : Heap) = _), ?_⟩; (conv => whnf)))
  refine ⟨fun h1 => ?_, fun h1 => ?_⟩
  · have e : (swapV m o a).1 = (a.kind == 9 && a.n == (buildV o.config).2.1) := by unfold swapV; rw [if_pos (by simpa using h1)]
    (conv => whnf); (try (refine ⟨(rfl : (_ : Heap) = _), ?_⟩; (conv => whnf)))
    refine ⟨fun h2 => ?_, fun h2 => ?_⟩
    · rw [e, h2, Bool.true_and]
      (conv => whnf); (try (refine ⟨(rfl : (_ : Heap) = _), ?_⟩; (conv => whnf)))
      refine ⟨fun h3 => ?_, fun h3 => ?_⟩ <;> (rw [h3]; (conv => whnf); (try (refine ⟨(rfl : (_ : Heap) = _), ?_⟩; (conv => whnf))); exact ⟨.inl rfl, ⟨[.junk, .junk, .junk, .junk, .junk, .junk, Bo _, .junk, .junk, .junk, .junk, .junk, .junk, .junk, .junk, .junk, .junk, .junk, .junk, .junk, .junk, .junk, .junk, .junk, .junk, .junk, .junk, .junk, .junk, .junk, .junk, .junk, .junk, .junk, .junk, .junk, .junk, .junk, .junk, .junk, .junk, .junk, .junk, .junk, .junk, .junk, .junk, .junk, .junk, .junk, .junk, .junk, .junk, .junk, .junk, .junk, .junk, .junk, .junk, .junk, .junk], _⟩, Weak.covD 3 (by (conv => whnf); (repeat (refine ⟨rfl, ?_⟩; (conv => whnf))); exact trivial) rfl rfl rfl rfl rfl, rfl, rfl⟩)
    · rw [e, h2, Bool.false_and]
      (conv => whnf); (try (refine ⟨(rfl : (_ : Heap) = _), ?_⟩; (conv => whnf)))
      exact ⟨.inl rfl, ⟨[.junk, .junk, .junk, .junk, .junk, .junk, Bo false, .junk, .junk, .junk, .junk, .junk, .junk, .junk, .junk, .junk, .junk, .junk, .junk, .junk, .junk, .junk, .junk, .junk, .junk, .junk, .junk, .junk, .junk, .junk, .junk, .junk, .junk, .junk, .junk, .junk, .junk, .junk, .junk, .junk, .junk, .junk, .junk, .junk, .junk, .junk, .junk, .junk, .junk, .junk, .junk, .junk, .junk, .junk, .junk, .junk, .junk, .junk, .junk, .junk, .junk], _⟩, Weak.covD 3 (by (conv => whnf); (repeat (refine ⟨rfl, ?_⟩; (conv => whnf))); exact trivial) rfl rfl rfl rfl rfl, rfl, rfl⟩
  have h1 : (buildV o.config).2.1 = 0 := by simpa using h1
  have e : (swapV m o a).1 = false := by
    unfold swapV
    rw [if_neg (by simp [h1]), if_pos]
    rcases hno with h | h
    · exact absurd h1 h
    · exact h
  rw [e]
  (conv => whnf); (try (refine ⟨(rfl : (_ : Heap) = _), ?_⟩; (conv => whnf)))
  refine ⟨⟨false, [], [], []⟩, by kernel_rfl, ?_⟩; (conv => whnf)
  refine ⟨fun h2 => ?_, fun h2 => ?_⟩
  · (conv => whnf); (try (refine ⟨(rfl : (_ : Heap) = _), ?_⟩; (conv => whnf)))
    (repeat (first | (refine ⟨fun _ => ?_, fun h => absurd h (by decide)⟩; (conv => whnf); (try (refine ⟨(rfl : (_ : Heap) = _), ?_⟩; (conv => whnf)))) | (refine ⟨fun h => absurd h (by decide), fun _ => ?_⟩; (conv => whnf); (try (refine ⟨(rfl : (_ : Heap) = _), ?_⟩; (conv => whnf))))))
    exact ⟨.inl rfl, ⟨[.junk, .junk, .junk, .junk, .junk, .junk, Bo false, .junk, .junk, .junk, .junk, .junk, .junk, .junk, .junk, .junk, .junk, .junk, .junk, .junk, .junk, .junk, .junk, .junk, .junk, .junk, .junk, .junk, .junk, .junk, .junk, .junk, .junk, .junk, .junk, .junk, .junk, .junk, .junk, .junk, .junk, .junk, .junk, .junk, .junk, .junk, .junk, .junk, .junk, .junk, .junk, .junk, .junk, .junk, .junk, .junk, .junk, .junk, .junk, .junk, .junk], _⟩, Weak.covD 3 (by (conv => whnf); (repeat (refine ⟨rfl, ?_⟩; (conv => whnf))); exact trivial) rfl rfl rfl rfl rfl, rfl, rfl⟩
  · (conv => whnf); (try (refine ⟨(rfl : (_ : Heap) = _), ?_⟩; (conv => whnf)))
    rw [ml]
    refine ⟨fun _ => ?_, fun h => ?_⟩
    rotate_left
    · exfalso
      simp at h2 h
      rcases hno with h3 | h3 | h3
      · exact h3 h1
      · exact h3 h2
      · exact h3 h
    (conv => whnf); (try (refine ⟨(rfl : (_ : Heap) = _), ?_⟩; (conv => whnf)))
    exact ⟨.inl rfl, ⟨[.junk, .junk, .junk, .junk, .junk, .junk, Bo false, .junk, .junk, .junk, .junk, .junk, .junk, .junk, .junk, .junk, .junk, .junk, .junk, .junk, .junk, .junk, .junk, .junk, .junk, .junk, .junk, .junk, .junk, .junk, .junk, .junk, .junk, .junk, .junk, .junk, .junk, .junk, .junk, .junk, .junk, .junk, .junk, .junk, .junk, .junk, .junk, .junk, .junk, .junk, .junk, .junk, .junk, .junk, .junk, .junk, .junk, .junk, .junk, .junk, .junk], _⟩, Weak.covD 3 (by (conv => whnf); (repeat (refine ⟨rfl, ?_⟩; (conv => whnf))); exact trivial) rfl rfl rfl rfl rfl, rfl, rfl⟩
theorem swapYes_sound (b : Nat) (m : Msh) (hm : GoodM m) (o : Opn) (a : Ans) (ho : SmallP o) (h1 : (buildV o.config).2.1 = 0) (h2 : a.kind = 8) (h3 : a.version = (m.snaps.length : Int)) :
    SoundAt Tryz.prog 29 [(obM b (entE encSt (kvV m.dr)) (kvV m.dr).length), ⟨1, 86, 3, [[.gl 2 3 (m.snaps.map encS), I m.now, .v (.map (some b))]], 0⟩, ⟨4, 80, 3, m.snaps.map encS, 0⟩] [.ref 1 [] 3 0 0, Cp o, Ca a] (Bo true) [(obM b (entE encSt (kvV m.dr)) (kvV m.dr).length), ⟨1, 86, 3, [[.gl 2 3 ((m.snaps ++ [(buildV o.config).1]).map encS), I m.snaps.length, .v (.map (some b))]], 0⟩, ⟨4, 80, 3, (m.snaps ++ [(buildV o.config).1]).map encS, 0⟩] := by
  have ml : (m.snaps.map encS).length = m.snaps.length := List.length_map ..
  have hml := hm.len
  have em : (m.snaps ++ [(buildV o.config).1]).map encS = m.snaps.map encS ++ [encS (buildV o.config).1] := by simp
  rw [em]
  refine SoundAt.of_wpA (fn := Tryz.f29) Tryz.func29 rfl ?_
  conv => whnf
  refine ⟨_, _, (build_sound o.config ho.config).frame rfl _, ?_⟩; (conv => whnf); (try (refine ⟨(rfl : (_ : Heap) = _), ?_⟩; (conv => whnf)))
  refine ⟨fun h => absurd h (by simp [h1]), fun _ => ?_⟩
  (conv => whnf); (try (refine ⟨(rfl : (_ : Heap) = _), ?_⟩; (conv => whnf)))
  refine ⟨⟨false, [], [], []⟩, by kernel_rfl, ?_⟩; (conv => whnf)
  refine ⟨fun h => absurd h (by simp [h2]), fun _ => ?_⟩
  (conv => whnf); (try (refine ⟨(rfl : (_ : Heap) = _), ?_⟩; (conv => whnf)))
  rw [ml]
  refine ⟨fun h => absurd h (by simp [h3]), fun _ => ?_⟩
  (conv => whnf); (try (refine ⟨(rfl : (_ : Heap) = _), ?_⟩; (conv => whnf)))
  rw [ml]
  refine ⟨⟨false, [], [], []⟩, by kernel_rfl, ?_⟩; (conv => whnf)
  refine ⟨rfl, .inr rfl, by rw [ml]; simp [maxLen]; omega, by rw [ml]; show (m.snaps.length + 1) * 72 ≤ _; omega, ?_⟩
  (conv => whnf); (try (refine ⟨(rfl : (_ : Heap) = _), ?_⟩; (conv => whnf)))
  exact ⟨.inl rfl, ⟨[.junk, .junk, .junk, .junk, .junk, .junk, Bo true, .junk, .junk, .junk, .junk, .junk, .junk, .junk, .junk, .junk, .junk, .junk, .junk, .junk, .junk, .junk, .junk, .junk, .junk, .junk, .junk, .junk, .junk, .junk, .junk, .junk, .junk, .junk, .junk, .junk, .junk, .junk, .junk, .junk, .junk, .junk, .junk, .junk, .junk, .junk, .junk, .junk, .junk, .junk, .junk, .junk, .junk, .junk, .junk, .junk, .junk, .junk, .junk, .junk, .junk], _⟩, Weak.covD 3 (by (conv => whnf); (repeat (refine ⟨rfl, ?_⟩; (conv => whnf))); exact trivial) rfl rfl rfl rfl rfl, rfl, rfl⟩

theorem version_sound (b : Nat) (m : Msh) : SoundAt Tryz.prog 22 [(obM b (entE encSt (kvV (m).dr)) (kvV (m).dr).length), ⟨1, 86, 3, [[.gl 2 3 ((m).snaps.map encS), I (m).now, .v (.map (some b))]], 0⟩, ⟨4, 80, 3, (m).snaps.map encS, 0⟩] [.ref 1 [] 3 0 0] (I m.now) [(obM b (entE encSt (kvV (m).dr)) (kvV (m).dr).length), ⟨1, 86, 3, [[.gl 2 3 ((m).snaps.map encS), I (m).now, .v (.map (some b))]], 0⟩, ⟨4, 80, 3, (m).snaps.map encS, 0⟩] := by
  refine SoundAt.of_wpA (fn := Tryz.f22) Tryz.func22 rfl ?_
  conv => whnf
  (repeat (first | (refine ⟨fun _ => ?_, fun h => absurd h (by decide)⟩; (conv => whnf); (try (refine ⟨(rfl : (_ : Heap) = _), ?_⟩; (conv => whnf)))) | (refine ⟨fun h => absurd h (by decide), fun _ => ?_⟩; (conv => whnf); (try (refine ⟨(rfl : (_ : Heap) = _), ?_⟩; (conv => whnf))))))
  exact ⟨.inl rfl, _, .refl _, rfl, rfl⟩

theorem take_sound (b : Nat) (m : Msh) (hm : GoodM m) (o : Opn) (a : Ans) (ho : SmallP o) :
    SoundAt Tryz.prog 15 [(obM b (entE encSt (kvV (m).dr)) (kvV (m).dr).length), ⟨1, 86, 3, [[.gl 2 3 ((m).snaps.map encS), I (m).now, .v (.map (some b))]], 0⟩, ⟨4, 80, 3, (m).snaps.map encS, 0⟩] [.ref 1 [] 3 0 0, Cp o, Ca a] (Bo (takeV m o a).1) [(obM b (entE encSt (kvV ((takeV m o a).2).dr)) (kvV ((takeV m o a).2).dr).length), ⟨1, 86, 3, [[.gl 2 3 (((takeV m o a).2).snaps.map encS), I ((takeV m o a).2).now, .v (.map (some b))]], 0⟩, ⟨4, 80, 3, ((takeV m o a).2).snaps.map encS, 0⟩] := by
  refine SoundAt.of_wpA (fn := Tryz.f15) Tryz.func15 rfl ?_
  conv => whnf
  (repeat (first | (refine ⟨fun _ => ?_, fun h => absurd h (by decide)⟩; (conv => whnf); (try (refine ⟨(rfl : (_ : Heap) = _), ?_⟩; (conv => whnf)))) | (refine ⟨fun h => absurd h (by decide), fun _ => ?_⟩; (conv => whnf); (try (refine ⟨(rfl : (_ : Heap) = _), ?_⟩; (conv => whnf))))))
  refine ⟨fun k1 => ?_, fun k1 => ?_⟩
  · have k1 : o.kind = 1 := by simpa using k1
    have e : takeV m o a = (handleV m o a, m) := by unfold takeV; rw [if_pos k1]
    rw [e]
    (conv => whnf); (try (refine ⟨(rfl : (_ : Heap) = _), ?_⟩; (conv => whnf)))
    refine callPart [0, 1, 2] (handle_sound b m hm o a ho) rfl rfl rfl rfl rfl rfl ?_; (conv => whnf); (try (refine ⟨(rfl : (_ : Heap) = _), ?_⟩; (conv => whnf)))
    refine ⟨fun h1 => ?_, fun h1 => ?_⟩ <;> (rw [h1]; (conv => whnf); (try (refine ⟨(rfl : (_ : Heap) = _), ?_⟩; (conv => whnf))); exact ⟨.inl rfl, ⟨[.junk, .junk, .junk, .junk, .junk, .junk, Bo _, .junk, .junk, .junk, .junk, .junk, .junk, .junk, .junk, .junk, .junk, .junk, .junk, .junk, .junk, .junk, .junk, .junk, .junk, .junk, .junk, .junk, .junk, .junk, .junk, .junk, .junk, .junk, .junk, .junk, .junk, .junk, .junk, .junk, .junk, .junk], _⟩, Weak.covD 3 (by (conv => whnf); (repeat (refine ⟨rfl, ?_⟩; (conv => whnf))); exact trivial) rfl rfl rfl rfl rfl, rfl, rfl⟩)
  have k1 : o.kind ≠ 1 := by simpa using k1
  (conv => whnf); (try (refine ⟨(rfl : (_ : Heap) = _), ?_⟩; (conv => whnf)))
  refine ⟨fun k3 => ?_, fun k3 => ?_⟩
  · have k3 : o.kind = 3 := by simpa using k3
    have e : takeV m o a = swapV m o a := by unfold takeV; rw [if_neg k1, if_pos k3]
    rw [e]
    (conv => whnf); (try (refine ⟨(rfl : (_ : Heap) = _), ?_⟩; (conv => whnf)))
    by_cases hy : (buildV o.config).2.1 = 0 ∧ a.kind = 8 ∧ a.version = (m.snaps.length : Int)
    · have e : swapV m o a = (true, ⟨m.snaps ++ [(buildV o.config).1], (m.snaps.length : Int), m.dr⟩) := by
        unfold swapV; rw [if_neg (by simp [hy.1]), if_neg (by simp [hy.2.1, hy.2.2])]
      rw [e]
      refine callPart [0, 1, 2] (swapYes_sound b m hm o a ho hy.1 hy.2.1 hy.2.2) rfl rfl rfl rfl rfl rfl ?_; (conv => whnf); (try (refine ⟨(rfl : (_ : Heap) = _), ?_⟩; (conv => whnf)))
      (repeat (first | (refine ⟨fun _ => ?_, fun h => absurd h (by decide)⟩; (conv => whnf); (try (refine ⟨(rfl : (_ : Heap) = _), ?_⟩; (conv => whnf)))) | (refine ⟨fun h => absurd h (by decide), fun _ => ?_⟩; (conv => whnf); (try (refine ⟨(rfl : (_ : Heap) = _), ?_⟩; (conv => whnf))))))
      exact ⟨.inl rfl, ⟨[.junk, .junk, .junk, .junk, .junk, .junk, Bo true, .junk, .junk, .junk, .junk, .junk, .junk, .junk, .junk, .junk, .junk, .junk, .junk, .junk, .junk, .junk, .junk, .junk, .junk, .junk, .junk, .junk, .junk, .junk, .junk, .junk, .junk, .junk, .junk, .junk, .junk, .junk, .junk, .junk, .junk, .junk], _⟩, Weak.covD 3 (by (conv => whnf); (repeat (refine ⟨rfl, ?_⟩; (conv => whnf))); exact trivial) rfl rfl rfl rfl rfl, rfl, rfl⟩
    · have hno : (buildV o.config).2.1 ≠ 0 ∨ a.kind ≠ 8 ∨ a.version ≠ (m.snaps.length : Int) := by
        by_cases g1 : (buildV o.config).2.1 = 0
        · by_cases g2 : a.kind = 8
          · exact .inr (.inr fun g3 => hy ⟨g1, g2, g3⟩)
          · exact .inr (.inl g2)
        · exact .inl g1
      have e : (swapV m o a).2 = m := by
        unfold swapV
        split
        · rfl
        · rename_i g1
          rw [if_pos]
          rcases hno with g | g
          · exact absurd g g1
          · exact g
      rw [e]
      refine callPart [0, 1, 2] (swapNo_sound b m hm o a ho e hno) rfl rfl rfl rfl rfl rfl ?_; (conv => whnf); (try (refine ⟨(rfl : (_ : Heap) = _), ?_⟩; (conv => whnf)))
      refine ⟨fun h1 => ?_, fun h1 => ?_⟩ <;> (rw [h1]; (conv => whnf); (try (refine ⟨(rfl : (_ : Heap) = _), ?_⟩; (conv => whnf))); exact ⟨.inl rfl, ⟨[.junk, .junk, .junk, .junk, .junk, .junk, Bo _, .junk, .junk, .junk, .junk, .junk, .junk, .junk, .junk, .junk, .junk, .junk, .junk, .junk, .junk, .junk, .junk, .junk, .junk, .junk, .junk, .junk, .junk, .junk, .junk, .junk, .junk, .junk, .junk, .junk, .junk, .junk, .junk, .junk, .junk, .junk], _⟩, Weak.covD 3 (by (conv => whnf); (repeat (refine ⟨rfl, ?_⟩; (conv => whnf))); exact trivial) rfl rfl rfl rfl rfl, rfl, rfl⟩)
  have k3 : o.kind ≠ 3 := by simpa using k3
  (conv => whnf); (try (refine ⟨(rfl : (_ : Heap) = _), ?_⟩; (conv => whnf)))
  refine ⟨fun k4 => ?_, fun k4 => ?_⟩
  rotate_left
  · have e : takeV m o a = (true, m) := by unfold takeV; rw [if_neg k1, if_neg k3, if_neg (by simpa using k4)]
    rw [e]
    (conv => whnf); (try (refine ⟨(rfl : (_ : Heap) = _), ?_⟩; (conv => whnf)))
    exact ⟨.inl rfl, ⟨[.junk, .junk, .junk, .junk, .junk, .junk, Bo true, .junk, .junk, .junk, .junk, .junk, .junk, .junk, .junk, .junk, .junk, .junk, .junk, .junk, .junk, .junk, .junk, .junk, .junk, .junk, .junk, .junk, .junk, .junk, .junk, .junk, .junk, .junk, .junk, .junk, .junk, .junk, .junk, .junk, .junk, .junk], _⟩, Weak.covD 3 (by (conv => whnf); (repeat (refine ⟨rfl, ?_⟩; (conv => whnf))); exact trivial) rfl rfl rfl rfl rfl, rfl, rfl⟩
  have k4 : o.kind = 4 := by simpa using k4
  (conv => whnf); (try (refine ⟨(rfl : (_ : Heap) = _), ?_⟩; (conv => whnf)))
  refine ⟨fun k5 => ?_, fun k5 => ?_⟩
  · have k5 : a.kind = 10 := by simpa using k5
    have e : takeV m o a = (true, ⟨m.snaps, m.now, m.dr ++ [o.listen]⟩) := by unfold takeV; rw [if_neg k1, if_neg k3, if_pos k4, if_pos k5, k5]; rfl
    rw [e]
    (conv => whnf); (try (refine ⟨(rfl : (_ : Heap) = _), ?_⟩; (conv => whnf)))
    refine ⟨⟨false, [], [], []⟩, by kernel_rfl, ?_⟩; (conv => whnf)
    refine ⟨_, _, OpV.mapUpdate (id := 0) _ _ _ _ (.inl rfl) Tryz.underlying84 (KeyT.str Tryz.underlying9) rfl rfl o.listen (fun E u h => val_v h) (.bool true) (fun E u h => val_v h), ?_⟩
    (conv => whnf); (try (refine ⟨(rfl : (_ : Heap) = _), ?_⟩; (conv => whnf)))
    rw [kv_put]
    refine ⟨fun h1 => ?_, fun h1 => ?_⟩
    · (conv => whnf); (try (refine ⟨(rfl : (_ : Heap) = _), ?_⟩; (conv => whnf)))
      (repeat (first | (refine ⟨fun _ => ?_, fun h => absurd h (by decide)⟩; (conv => whnf); (try (refine ⟨(rfl : (_ : Heap) = _), ?_⟩; (conv => whnf)))) | (refine ⟨fun h => absurd h (by decide), fun _ => ?_⟩; (conv => whnf); (try (refine ⟨(rfl : (_ : Heap) = _), ?_⟩; (conv => whnf))))))
      exact ⟨.inl rfl, ⟨[.junk, .junk, .junk, .junk, .junk, .junk, Bo true, .junk, .junk, .junk, .junk, .junk, .junk, .junk, .junk, .junk, .junk, .junk, .junk, .junk, .junk, .junk, .junk, .junk, .junk, .junk, .junk, .junk, .junk, .junk, .junk, .junk, .junk, .junk, .junk, .junk, .junk, .junk, .junk, .junk, .junk, .junk], _⟩, Weak.covD 3 (by (conv => whnf); (repeat (refine ⟨rfl, ?_⟩; (conv => whnf))); exact trivial) rfl rfl rfl rfl rfl, rfl, rfl⟩
    · exact absurd h1 (by simp [k5])
  · have k5 : a.kind ≠ 10 := by simpa using k5
    have e : takeV m o a = (a.kind == 7, m) := by unfold takeV; rw [if_neg k1, if_neg k3, if_pos k4, if_neg k5]; simp [k5]
    rw [e]
    (conv => whnf); (try (refine ⟨(rfl : (_ : Heap) = _), ?_⟩; (conv => whnf)))
    refine ⟨fun h => absurd h (by simp [k5]), fun _ => ?_⟩
    (conv => whnf); (try (refine ⟨(rfl : (_ : Heap) = _), ?_⟩; (conv => whnf)))
    refine ⟨fun h1 => ?_, fun h1 => ?_⟩ <;> (rw [h1]; (conv => whnf); (try (refine ⟨(rfl : (_ : Heap) = _), ?_⟩; (conv => whnf))); exact ⟨.inl rfl, ⟨[.junk, .junk, .junk, .junk, .junk, .junk, Bo _, .junk, .junk, .junk, .junk, .junk, .junk, .junk, .junk, .junk, .junk, .junk, .junk, .junk, .junk, .junk, .junk, .junk, .junk, .junk, .junk, .junk, .junk, .junk, .junk, .junk, .junk, .junk, .junk, .junk, .junk, .junk, .junk, .junk, .junk, .junk], _⟩, Weak.covD 3 (by (conv => whnf); (repeat (refine ⟨rfl, ?_⟩; (conv => whnf))); exact trivial) rfl rfl rfl rfl rfl, rfl, rfl⟩)

end Go.Lin

/- Layer 29 (linear): a new mesh, walked. -/
namespace Go.Lin
open Go.Ab Go.Proofs Go.Hy Go.Gat Go.Nam Go.Hos Go.Con Go.Sna
set_option linter.unusedVariables false
set_option linter.unusedSimpArgs false
set_option maxRecDepth 100000
set_option maxHeartbeats 4000000

abbrev mapO (b : Nat) (m : Msh) : Ob := obM b (entE encSt (kvV m.dr)) (kvV m.dr).length
abbrev meshO (b : Nat) (m : Msh) : Ob := ⟨1, 86, 3, [[.gl 2 3 (m.snaps.map encS), I m.now, .v (.map (some b))]], 0⟩
abbrev rowO (m : Msh) : Ob := ⟨4, 80, 3, m.snaps.map encS, 0⟩
abbrev firstM (c : Cfg) : Msh := ⟨[(buildV c).1], 0, []⟩
def NewR (c : Cfg) (r : C) (H' : Heap) : Prop := ∃ b, r = .tup [.ref 1 [] 3 0 0, I 0] ∧ H' = [mapO b (firstM c), meshO b (firstM c), rowO (firstM c)]
theorem newNo_sound (c : Cfg) (hc : SmallC c) (h : (buildV c).2.1 ≠ 0) : SoundAt Tryz.prog 10 [] [Cf c] (.tup [.v (.pointer none), I (buildV c).2.1]) [] := by
  refine SoundAt.of_wpA1 (fn := Tryz.f10) Tryz.func10 rfl ?_
  conv => whnf
  refine ⟨_, _, (build_sound c hc).frame rfl _, ?_⟩; (conv => whnf); (try (refine ⟨(rfl : (_ : Heap) = _), ?_⟩; (conv => whnf)))
  refine ⟨fun _ => ?_, fun h2 => absurd h2 (by simp [h])⟩
  (conv => whnf); (try (refine ⟨(rfl : (_ : Heap) = _), ?_⟩; (conv => whnf)))
  exact ⟨.inl rfl, _, .refl _, rfl⟩
theorem newYes_sound (c : Cfg) (hc : SmallC c) (h : (buildV c).2.1 = 0) : SoundR Tryz.prog 10 [] [Cf c] (NewR c) := by
  refine SoundR.of_wpA (fn := Tryz.f10) Tryz.func10 rfl ?_
  conv => whnf
  refine ⟨_, _, (build_sound c hc).frame rfl _, ?_⟩; (conv => whnf); (try (refine ⟨(rfl : (_ : Heap) = _), ?_⟩; (conv => whnf)))
  refine ⟨fun h2 => absurd h2 (by simp [h]), fun _ => ?_⟩
  (conv => whnf); (try (refine ⟨(rfl : (_ : Heap) = _), ?_⟩; (conv => whnf)))
  intro b
  (conv => whnf); (try (refine ⟨(rfl : (_ : Heap) = _), ?_⟩; (conv => whnf)))
  exact ⟨.inl rfl, _, .tup [.ref 1 [] 3 0 0, I 0], (Weak.growH 3 0 80 3 rfl rfl (.inr rfl) rfl rfl).trans (Weak.ren [2, 3, 4] [2, 3] _ _ rfl rfl rfl rfl), rfl, b, rfl, rfl⟩
end Go.Lin

/- Layer 29 (linear): the reference's mesh, walked. -/
namespace Go.Lin
open Go.Ab Go.Proofs Go.Hy Go.Gat Go.Nam Go.Hos Go.Con Go.Sna
set_option linter.unusedVariables false
set_option linter.unusedSimpArgs false
set_option maxRecDepth 100000
set_option maxHeartbeats 4000000

theorem idxT_in (l : List Str) (s : Str) : decide (idxT l s ≥ 0) = decide (s ∈ l) := by
  rw [idxT_any, Bool.eq_iff_iff]
  simp
theorem rhandle_sound (m : Msh) (hm : GoodM m) (o : Opn) (a : Ans) (ho : SmallP o) : SoundAt Tryz.prog 33 [⟨1, 93, 3, [[.gl 1 3 ((m).snaps.map encS), I (m).now, .gl 2 1 ((m).dr.map encT)]], 0⟩, ⟨4, 80, 3, (m).snaps.map encS, 0⟩, ⟨4, 9, 1, (m).dr.map encT, 0⟩] [.ref 0 [] 3 0 0, Cp o, Ca a] (Bo (handleV m o a)) [⟨1, 93, 3, [[.gl 1 3 ((m).snaps.map encS), I (m).now, .gl 2 1 ((m).dr.map encT)]], 0⟩, ⟨4, 80, 3, (m).snaps.map encS, 0⟩, ⟨4, 9, 1, (m).dr.map encT, 0⟩] := by
  obtain ⟨s, hs, hsg⟩ := hm.cur
  have hg : (m.snaps.map encS)[m.now.toNat]? = some (encS s) := by rw [List.getElem?_map, hs]; rfl
  refine SoundAt.of_wpA (fn := Tryz.f33) Tryz.func33 rfl ?_
  conv => whnf
  refine ⟨⟨true, [3, 6], [0], [6]⟩, by kernel_rfl, ?_⟩; (conv => whnf)
  have hL := rlisten_sound m.dr o.listen (by have := hm.dr; omega)
  refine ⟨_, fun H2 => (hL).frame rfl H2, ?_⟩; (conv => whnf); (try (refine ⟨(rfl : (_ : Heap) = _), ?_⟩; (conv => whnf)))
  rw [show decide (idxT m.dr o.listen ≥ 0) = decide (o.listen ∈ m.dr) from idxT_in m.dr o.listen]
  by_cases hd : o.listen ∈ m.dr
  · have e : handleV m o a = (a.kind == 5) := by unfold handleV; rw [if_pos hd]
    refine ⟨fun _ => ?_, fun h => absurd h (by simp [hd])⟩
    (conv => whnf); (try (refine ⟨(rfl : (_ : Heap) = _), ?_⟩; (conv => whnf)))
    refine ⟨fun h1 => ?_, fun h1 => ?_⟩ <;> (rw [e, h1]; (conv => whnf); (try (refine ⟨(rfl : (_ : Heap) = _), ?_⟩; (conv => whnf))); exact ⟨.inl rfl, ⟨[.junk, .junk, .junk, .junk, .junk, .junk, Bo _, .junk, .junk, .junk, .junk, .junk, .junk, .junk, .junk, .junk, .junk, .junk, .junk, .junk, .junk, .junk, .junk, .junk, .junk, .junk, .junk, .junk, .junk, .junk, .junk, .junk, .junk, .junk, .junk, .junk, .junk, .junk, .junk, .junk, .junk, .junk, .junk, .junk, .junk, .junk, .junk, .junk, .junk, .junk, .junk, .junk, .junk, .junk, .junk, .junk, .junk, .junk, .junk, .junk, .junk, .junk, .junk, .junk, .junk, .junk, .junk, .junk, .junk, .junk, .junk, .junk, .junk, .junk, .junk, .junk, .junk, .junk, .junk, .junk, .junk, .junk, .junk, .junk, .junk, .junk, .junk, .junk, .junk, .junk, .junk, .junk, .junk, .junk, .junk, .junk, .junk, .junk, .junk, .junk, .junk, .junk], _⟩, Weak.covD 3 (by (conv => whnf); (repeat (refine ⟨rfl, ?_⟩; (conv => whnf))); exact trivial) rfl rfl rfl rfl rfl, rfl, rfl⟩)
  refine ⟨fun h => absurd h (by simp [hd]), fun _ => ?_⟩
  have e0 : handleV m o a = if (foundV s o.listen o.host o.path).2 ≠ 0 then a.kind == 2 else match s.clusters[(foundV s o.listen o.host o.path).1.toNat]? with
    | none => false
    | some c => if healthyL c = [] then a.kind == 3 else if a.kind = 4 then true else a.kind == 1 && a.version == m.now && a.cluster == (foundV s o.listen o.host o.path).1 && (healthyL c).any fun x => x == a.end_ := by
    unfold handleV; rw [if_neg hd, hs]; rfl
  (conv => whnf); (try (refine ⟨(rfl : (_ : Heap) = _), ?_⟩; (conv => whnf)))
  refine ⟨⟨false, [3, 7, 9], [0], []⟩, by kernel_rfl, ?_⟩; (conv => whnf)
  refine ⟨hm.now0, _, hg, ?_⟩
  (conv => whnf); (try (refine ⟨(rfl : (_ : Heap) = _), ?_⟩; (conv => whnf)))
  refine ⟨rfl, ?_⟩
  (conv => whnf); (try (refine ⟨(rfl : (_ : Heap) = _), ?_⟩; (conv => whnf)))
  refine ⟨rfl, ?_⟩
  (conv => whnf); (try (refine ⟨(rfl : (_ : Heap) = _), ?_⟩; (conv => whnf)))
  refine ⟨_, _, (rfind_sound s o.listen o.host o.path hsg.small ho.host ho.path).frame rfl _, ?_⟩; (conv => whnf); (try (refine ⟨(rfl : (_ : Heap) = _), ?_⟩; (conv => whnf)))
  refine ⟨fun h2 => ?_, fun h2 => ?_⟩
  · rw [if_pos (by simpa using h2)] at e0
    (conv => whnf); (try (refine ⟨(rfl : (_ : Heap) = _), ?_⟩; (conv => whnf)))
    refine ⟨fun h1 => ?_, fun h1 => ?_⟩ <;> (rw [e0, h1]; (conv => whnf); (try (refine ⟨(rfl : (_ : Heap) = _), ?_⟩; (conv => whnf))); exact ⟨.inl rfl, ⟨[.junk, .junk, .junk, .junk, .junk, .junk, Bo _, .junk, .junk, .junk, .junk, .junk, .junk, .junk, .junk, .junk, .junk, .junk, .junk, .junk, .junk, .junk, .junk, .junk, .junk, .junk, .junk, .junk, .junk, .junk, .junk, .junk, .junk, .junk, .junk, .junk, .junk, .junk, .junk, .junk, .junk, .junk, .junk, .junk, .junk, .junk, .junk, .junk, .junk, .junk, .junk, .junk, .junk, .junk, .junk, .junk, .junk, .junk, .junk, .junk, .junk, .junk, .junk, .junk, .junk, .junk, .junk, .junk, .junk, .junk, .junk, .junk, .junk, .junk, .junk, .junk, .junk, .junk, .junk, .junk, .junk, .junk, .junk, .junk, .junk, .junk, .junk, .junk, .junk, .junk, .junk, .junk, .junk, .junk, .junk, .junk, .junk, .junk, .junk, .junk, .junk, .junk], _⟩, Weak.covD 3 (by (conv => whnf); (repeat (refine ⟨rfl, ?_⟩; (conv => whnf))); exact trivial) rfl rfl rfl rfl rfl, rfl, rfl⟩)
  have h2 : (foundV s o.listen o.host o.path).2 = 0 := by simpa using h2
  rw [if_neg (by simp [h2])] at e0
  obtain ⟨c, hc, hcm, hc0⟩ := found_good hsg h2
  have hgc : (s.clusters.map encC)[(foundV s o.listen o.host o.path).1.toNat]? = some (encC c) := by rw [List.getElem?_map, hc]; rfl
  have hch := hsg.clusters c hcm
  have ml : ((healthyL c).map encI).length = (healthyL c).length := List.length_map ..
  rw [hc] at e0
  simp only at e0
  (conv => whnf); (try (refine ⟨(rfl : (_ : Heap) = _), ?_⟩; (conv => whnf)))
  refine ⟨hc0, _, hgc, ?_⟩
  (conv => whnf); (try (refine ⟨(rfl : (_ : Heap) = _), ?_⟩; (conv => whnf)))
  refine ⟨_, _, (rhealthy_sound c hch).frame rfl _, ?_⟩; (conv => whnf); (try (refine ⟨(rfl : (_ : Heap) = _), ?_⟩; (conv => whnf)))
  rw [ml]
  refine ⟨fun h3 => ?_, fun h3 => ?_⟩
  · have h3 : healthyL c = [] := by simpa using h3
    rw [if_pos h3] at e0
    (conv => whnf); (try (refine ⟨(rfl : (_ : Heap) = _), ?_⟩; (conv => whnf)))
    refine ⟨fun h1 => ?_, fun h1 => ?_⟩ <;> (rw [e0, h1]; (conv => whnf); (try (refine ⟨(rfl : (_ : Heap) = _), ?_⟩; (conv => whnf))); exact ⟨.inl rfl, ⟨[.junk, .junk, .junk, .junk, .junk, .junk, Bo _, .junk, .junk, .junk, .junk, .junk, .junk, .junk, .junk, .junk, .junk, .junk, .junk, .junk, .junk, .junk, .junk, .junk, .junk, .junk, .junk, .junk, .junk, .junk, .junk, .junk, .junk, .junk, .junk, .junk, .junk, .junk, .junk, .junk, .junk, .junk, .junk, .junk, .junk, .junk, .junk, .junk, .junk, .junk, .junk, .junk, .junk, .junk, .junk, .junk, .junk, .junk, .junk, .junk, .junk, .junk, .junk, .junk, .junk, .junk, .junk, .junk, .junk, .junk, .junk, .junk, .junk, .junk, .junk, .junk, .junk, .junk, .junk, .junk, .junk, .junk, .junk, .junk, .junk, .junk, .junk, .junk, .junk, .junk, .junk, .junk, .junk, .junk, .junk, .junk, .junk, .junk, .junk, .junk, .junk, .junk], _⟩, Weak.covD 3 (by (conv => whnf); (repeat (refine ⟨rfl, ?_⟩; (conv => whnf))); exact trivial) rfl rfl rfl rfl rfl, rfl, rfl⟩)
  rw [if_neg (fun h => by rw [h] at h3; simp at h3)] at e0
  (conv => whnf); (try (refine ⟨(rfl : (_ : Heap) = _), ?_⟩; (conv => whnf)))
  refine ⟨fun h4 => ?_, fun h4 => ?_⟩
  · rw [if_pos (by simpa using h4)] at e0
    rw [e0]
    (conv => whnf); (try (refine ⟨(rfl : (_ : Heap) = _), ?_⟩; (conv => whnf)))
    exact ⟨.inl rfl, ⟨[.junk, .junk, .junk, .junk, .junk, .junk, Bo true, .junk, .junk, .junk, .junk, .junk, .junk, .junk, .junk, .junk, .junk, .junk, .junk, .junk, .junk, .junk, .junk, .junk, .junk, .junk, .junk, .junk, .junk, .junk, .junk, .junk, .junk, .junk, .junk, .junk, .junk, .junk, .junk, .junk, .junk, .junk, .junk, .junk, .junk, .junk, .junk, .junk, .junk, .junk, .junk, .junk, .junk, .junk, .junk, .junk, .junk, .junk, .junk, .junk, .junk, .junk, .junk, .junk, .junk, .junk, .junk, .junk, .junk, .junk, .junk, .junk, .junk, .junk, .junk, .junk, .junk, .junk, .junk, .junk, .junk, .junk, .junk, .junk, .junk, .junk, .junk, .junk, .junk, .junk, .junk, .junk, .junk, .junk, .junk, .junk, .junk, .junk, .junk, .junk, .junk, .junk], _⟩, Weak.covD 3 (by (conv => whnf); (repeat (refine ⟨rfl, ?_⟩; (conv => whnf))); exact trivial) rfl rfl rfl rfl rfl, rfl, rfl⟩
  rw [if_neg (by simpa using h4)] at e0
  (conv => whnf); (try (refine ⟨(rfl : (_ : Heap) = _), ?_⟩; (conv => whnf)))
  have hll : (healthyL c).length < 4611686018427387904 := by have := idxB_len c.health c.health.length; show (idxB c.health c.health.length).length < _; omega
  refine Loops.seq (healthyL c).length (fun k => [.ref 0 [] 3 0 0, .junk, .junk, .junk, .ref 3 [] 10 0 0, .ref 4 [] 13 0 0, Bo false, .ref 5 [] 3 0 0, I (foundV s o.listen o.host o.path).1, .junk, lI (healthyL c), Bo (((healthyL c).take k).any fun x => x == a.end_), I k, .junk, .junk, .junk, .junk, .junk, .junk, .junk, .junk, .junk, .junk, .junk, .junk, .junk, .junk, .junk, .junk, .junk, .junk, .junk, .junk, .junk, .junk, .junk, .junk, .junk, .junk, .junk, .junk, .junk, .junk, .junk, .junk, .junk, .junk, .junk, .junk, .junk, .junk, .junk, .junk, .junk, .junk, .junk, .junk, .junk, .junk, .junk, .junk, .junk, .junk, .junk, .junk, .junk, .junk, .junk, .junk, .junk, .junk, .junk, .junk, .junk, .junk, .junk, .junk, .junk, .junk, .junk, .junk, .junk, .junk, .junk, .junk, .junk, .junk, .junk, .junk, .junk, .junk, .junk, .junk, .junk, .junk, .junk, .junk, .junk, .junk, .junk, .junk, .junk]) (fun k => [⟨1, 93, 3, [[.gl 1 3 (m.snaps.map encS), I m.now, .gl 2 1 (m.dr.map encT)]], 0⟩, ⟨4, 80, 3, m.snaps.map encS, 0⟩, ⟨4, 9, 1, m.dr.map encT, 0⟩, ⟨1, 40, 10, [encP o], 0⟩, ⟨1, 52, 13, [encA a], 0⟩, ⟨1, 80, 3, [encS s], 0⟩]) (fun k => True) ?_ trivial (fun k hk _ => ?_) (fun _ => ?_)
  · exact Weak.cov (by (conv => whnf); (repeat (refine ⟨rfl, ?_⟩; (conv => whnf))); exact trivial)
  · have hg : ((healthyL c).map encI)[k]? = some (encI (healthyL c)[k]) := by rw [List.getElem?_map, List.getElem?_eq_getElem hk]; rfl
    have et : ((healthyL c).take (k + 1)).any (fun x => x == a.end_) = (((healthyL c).take k).any (fun x => x == a.end_) || ((healthyL c)[k] == a.end_)) := by
      rw [List.take_add_one, List.getElem?_eq_getElem hk, List.any_append]; simp
    by_cases hb : ((healthyL c).take k).any (fun x => x == a.end_) = true
    · rw [hb]
      conv => whnf
      rw [ml]
      (refine ⟨fun _ => ?_, fun h => absurd h (by simp; omega)⟩); (conv => whnf); (try (refine ⟨(rfl : (_ : Heap) = _), ?_⟩; (conv => whnf)))
      refine ⟨⟨false, [5], [], []⟩, by kernel_rfl, ?_⟩; (conv => whnf)
      refine .inl ⟨rfl, ?_, trivial⟩
      rw [et, hb, Bool.true_or, i64_nat (by omega)]
      exact Weak.covD 6 (by (conv => whnf); (repeat (refine ⟨rfl, ?_⟩; (conv => whnf))); exact trivial) rfl rfl rfl rfl rfl
    · have hb : ((healthyL c).take k).any (fun x => x == a.end_) = false := Bool.eq_false_iff.2 hb
      rw [hb]
      conv => whnf
      rw [ml]
      (refine ⟨fun _ => ?_, fun h => absurd h (by simp; omega)⟩); (conv => whnf); (try (refine ⟨(rfl : (_ : Heap) = _), ?_⟩; (conv => whnf)))
      refine ⟨⟨false, [5], [], []⟩, by kernel_rfl, ?_⟩; (conv => whnf)
      refine ⟨by omega, _, by rw [toNat_cast]; exact hg, ?_⟩
      (conv => whnf); (try (refine ⟨(rfl : (_ : Heap) = _), ?_⟩; (conv => whnf)))
      refine ⟨fun h5 => ?_, fun h5 => ?_⟩
      · (conv => whnf); (try (refine ⟨(rfl : (_ : Heap) = _), ?_⟩; (conv => whnf)))
        refine .inl ⟨rfl, ?_, trivial⟩
        rw [et, hb, Bool.false_or, h5, i64_nat (by omega)]
        exact Weak.covD 6 (by (conv => whnf); (repeat (refine ⟨rfl, ?_⟩; (conv => whnf))); exact trivial) rfl rfl rfl rfl rfl
      · (conv => whnf); (try (refine ⟨(rfl : (_ : Heap) = _), ?_⟩; (conv => whnf)))
        refine .inl ⟨rfl, ?_, trivial⟩
        rw [et, hb, Bool.false_or, h5, i64_nat (by omega)]
        exact Weak.covD 6 (by (conv => whnf); (repeat (refine ⟨rfl, ?_⟩; (conv => whnf))); exact trivial) rfl rfl rfl rfl rfl
  · rw [List.take_length]
    conv => whnf
    rw [ml]
    (conv => whnf); (refine ⟨fun h => absurd h (by simp), fun _ => ?_⟩); (conv => whnf); (try (refine ⟨(rfl : (_ : Heap) = _), ?_⟩; (conv => whnf))); (refine ⟨by simp, ?_⟩); (conv => whnf)
    refine ⟨⟨false, [9], [0], []⟩, by kernel_rfl, ?_⟩; (conv => whnf)
    refine ⟨fun h5 => ?_, fun h5 => ?_⟩
    rotate_left
    · rw [e0, h5, Bool.false_and, Bool.false_and, Bool.false_and]
      (conv => whnf); (try (refine ⟨(rfl : (_ : Heap) = _), ?_⟩; (conv => whnf)))
      exact ⟨.inl rfl, ⟨[.junk, .junk, .junk, .junk, .junk, .junk, Bo false, .junk, .junk, .junk, .junk, .junk, .junk, .junk, .junk, .junk, .junk, .junk, .junk, .junk, .junk, .junk, .junk, .junk, .junk, .junk, .junk, .junk, .junk, .junk, .junk, .junk, .junk, .junk, .junk, .junk, .junk, .junk, .junk, .junk, .junk, .junk, .junk, .junk, .junk, .junk, .junk, .junk, .junk, .junk, .junk, .junk, .junk, .junk, .junk, .junk, .junk, .junk, .junk, .junk, .junk, .junk, .junk, .junk, .junk, .junk, .junk, .junk, .junk, .junk, .junk, .junk, .junk, .junk, .junk, .junk, .junk, .junk, .junk, .junk, .junk, .junk, .junk, .junk, .junk, .junk, .junk, .junk, .junk, .junk, .junk, .junk, .junk, .junk, .junk, .junk, .junk, .junk, .junk, .junk, .junk, .junk], _⟩, Weak.covD 3 (by (conv => whnf); (repeat (refine ⟨rfl, ?_⟩; (conv => whnf))); exact trivial) rfl rfl rfl rfl rfl, rfl, rfl⟩
    rw [h5, Bool.true_and] at e0
    (conv => whnf); (try (refine ⟨(rfl : (_ : Heap) = _), ?_⟩; (conv => whnf)))
    refine ⟨fun h6 => ?_, fun h6 => ?_⟩
    rotate_left
    · rw [e0, h6, Bool.false_and, Bool.false_and]
      (conv => whnf); (try (refine ⟨(rfl : (_ : Heap) = _), ?_⟩; (conv => whnf)))
      exact ⟨.inl rfl, ⟨[.junk, .junk, .junk, .junk, .junk, .junk, Bo false, .junk, .junk, .junk, .junk, .junk, .junk, .junk, .junk, .junk, .junk, .junk, .junk, .junk, .junk, .junk, .junk, .junk, .junk, .junk, .junk, .junk, .junk, .junk, .junk, .junk, .junk, .junk, .junk, .junk, .junk, .junk, .junk, .junk, .junk, .junk, .junk, .junk, .junk, .junk, .junk, .junk, .junk, .junk, .junk, .junk, .junk, .junk, .junk, .junk, .junk, .junk, .junk, .junk, .junk, .junk, .junk, .junk, .junk, .junk, .junk, .junk, .junk, .junk, .junk, .junk, .junk, .junk, .junk, .junk, .junk, .junk, .junk, .junk, .junk, .junk, .junk, .junk, .junk, .junk, .junk, .junk, .junk, .junk, .junk, .junk, .junk, .junk, .junk, .junk, .junk, .junk, .junk, .junk, .junk, .junk], _⟩, Weak.covD 3 (by (conv => whnf); (repeat (refine ⟨rfl, ?_⟩; (conv => whnf))); exact trivial) rfl rfl rfl rfl rfl, rfl, rfl⟩
    rw [h6, Bool.true_and] at e0
    (conv => whnf); (try (refine ⟨(rfl : (_ : Heap) = _), ?_⟩; (conv => whnf)))
    refine ⟨fun h7 => ?_, fun h7 => ?_⟩
    rotate_left
    · rw [e0, h7, Bool.false_and]
      (conv => whnf); (try (refine ⟨(rfl : (_ : Heap) = _), ?_⟩; (conv => whnf)))
      exact ⟨.inl rfl, ⟨[.junk, .junk, .junk, .junk, .junk, .junk, Bo false, .junk, .junk, .junk, .junk, .junk, .junk, .junk, .junk, .junk, .junk, .junk, .junk, .junk, .junk, .junk, .junk, .junk, .junk, .junk, .junk, .junk, .junk, .junk, .junk, .junk, .junk, .junk, .junk, .junk, .junk, .junk, .junk, .junk, .junk, .junk, .junk, .junk, .junk, .junk, .junk, .junk, .junk, .junk, .junk, .junk, .junk, .junk, .junk, .junk, .junk, .junk, .junk, .junk, .junk, .junk, .junk, .junk, .junk, .junk, .junk, .junk, .junk, .junk, .junk, .junk, .junk, .junk, .junk, .junk, .junk, .junk, .junk, .junk, .junk, .junk, .junk, .junk, .junk, .junk, .junk, .junk, .junk, .junk, .junk, .junk, .junk, .junk, .junk, .junk, .junk, .junk, .junk, .junk, .junk, .junk], _⟩, Weak.covD 3 (by (conv => whnf); (repeat (refine ⟨rfl, ?_⟩; (conv => whnf))); exact trivial) rfl rfl rfl rfl rfl, rfl, rfl⟩
    rw [h7, Bool.true_and] at e0
    (conv => whnf); (try (refine ⟨(rfl : (_ : Heap) = _), ?_⟩; (conv => whnf)))
    rw [e0]
    exact ⟨.inl rfl, ⟨[.junk, .junk, .junk, .junk, .junk, .junk, Bo _, .junk, .junk, .junk, .junk, .junk, .junk, .junk, .junk, .junk, .junk, .junk, .junk, .junk, .junk, .junk, .junk, .junk, .junk, .junk, .junk, .junk, .junk, .junk, .junk, .junk, .junk, .junk, .junk, .junk, .junk, .junk, .junk, .junk, .junk, .junk, .junk, .junk, .junk, .junk, .junk, .junk, .junk, .junk, .junk, .junk, .junk, .junk, .junk, .junk, .junk, .junk, .junk, .junk, .junk, .junk, .junk, .junk, .junk, .junk, .junk, .junk, .junk, .junk, .junk, .junk, .junk, .junk, .junk, .junk, .junk, .junk, .junk, .junk, .junk, .junk, .junk, .junk, .junk, .junk, .junk, .junk, .junk, .junk, .junk, .junk, .junk, .junk, .junk, .junk, .junk, .junk, .junk, .junk, .junk, .junk], _⟩, Weak.covD 3 (by (conv => whnf); (repeat (refine ⟨rfl, ?_⟩; (conv => whnf))); exact trivial) rfl rfl rfl rfl rfl, rfl, rfl⟩
end Go.Lin

/- Layer 29 (linear): the reference's New and Take, walked. -/
namespace Go.Lin
open Go.Ab Go.Proofs Go.Hy Go.Gat Go.Nam Go.Hos Go.Con Go.Sna
set_option linter.unusedVariables false
set_option linter.unusedSimpArgs false
set_option maxRecDepth 100000
set_option maxHeartbeats 4000000

theorem rnewNo_sound (c : Cfg) (hc : SmallC c) (h : (buildV c).2.1 ≠ 0) : SoundAt Tryz.prog 17 [] [Cf c] (.tup [.v (.pointer none), I (buildV c).2.1]) [] := by
  refine SoundAt.of_wpA1 (fn := Tryz.f17) Tryz.func17 rfl ?_
  conv => whnf
  refine ⟨_, _, (rbuild_sound c hc).frame rfl _, ?_⟩; (conv => whnf); (try (refine ⟨(rfl : (_ : Heap) = _), ?_⟩; (conv => whnf)))
  refine ⟨fun _ => ?_, fun h2 => absurd h2 (by simp [h])⟩
  (conv => whnf); (try (refine ⟨(rfl : (_ : Heap) = _), ?_⟩; (conv => whnf)))
  exact ⟨.inl rfl, _, .refl _, rfl⟩
theorem rnewYes_sound (c : Cfg) (hc : SmallC c) (h : (buildV c).2.1 = 0) : SoundAt Tryz.prog 17 [] [Cf c] (.tup [.ref 0 [] 3 0 0, I 0]) [⟨1, 93, 3, [[.gl 1 3 ((firstM c).snaps.map encS), I (firstM c).now, .gl 2 1 ((firstM c).dr.map encT)]], 0⟩, ⟨4, 80, 3, (firstM c).snaps.map encS, 0⟩, ⟨4, 9, 1, (firstM c).dr.map encT, 0⟩] := by
  refine SoundAt.of_wpA (fn := Tryz.f17) Tryz.func17 rfl ?_
  conv => whnf
  refine ⟨_, _, (rbuild_sound c hc).frame rfl _, ?_⟩; (conv => whnf); (try (refine ⟨(rfl : (_ : Heap) = _), ?_⟩; (conv => whnf)))
  refine ⟨fun h2 => absurd h2 (by simp [h]), fun _ => ?_⟩
  (conv => whnf); (try (refine ⟨(rfl : (_ : Heap) = _), ?_⟩; (conv => whnf)))
  exact ⟨.inl rfl, _, (Weak.growH 2 0 80 3 rfl rfl (.inr rfl) rfl rfl).trans ((Weak.growH 2 2 9 1 rfl rfl (.inl rfl) rfl rfl).trans (Weak.ren [2, 3, 4] [2, 3] _ _ rfl rfl rfl rfl)), rfl, rfl⟩

theorem rtake_sound (m : Msh) (hm : GoodM m) (o : Opn) (a : Ans) (ho : SmallP o) :
    SoundAt Tryz.prog 20 [⟨1, 93, 3, [[.gl 1 3 ((m).snaps.map encS), I (m).now, .gl 2 1 ((m).dr.map encT)]], 0⟩, ⟨4, 80, 3, (m).snaps.map encS, 0⟩, ⟨4, 9, 1, (m).dr.map encT, 0⟩] [.ref 0 [] 3 0 0, Cp o, Ca a] (Bo (takeV m o a).1) [⟨1, 93, 3, [[.gl 1 3 (((takeV m o a).2).snaps.map encS), I ((takeV m o a).2).now, .gl 2 1 (((takeV m o a).2).dr.map encT)]], 0⟩, ⟨4, 80, 3, ((takeV m o a).2).snaps.map encS, 0⟩, ⟨4, 9, 1, ((takeV m o a).2).dr.map encT, 0⟩] := by
  have ml : (m.snaps.map encS).length = m.snaps.length := List.length_map ..
  have md : (m.dr.map encT).length = m.dr.length := List.length_map ..
  have hml := hm.len
  have hdl := hm.dr
  refine SoundAt.of_wpA (fn := Tryz.f20) Tryz.func20 rfl ?_
  conv => whnf
  refine ⟨fun k1 => ?_, fun k1 => ?_⟩
  · have k1 : o.kind = 1 := by simpa using k1
    have e : takeV m o a = (handleV m o a, m) := by unfold takeV; rw [if_pos k1]
    rw [e]
    (conv => whnf); (try (refine ⟨(rfl : (_ : Heap) = _), ?_⟩; (conv => whnf)))
    refine callPart [0, 1, 2] (rhandle_sound m hm o a ho) rfl rfl rfl rfl rfl rfl ?_; (conv => whnf); (try (refine ⟨(rfl : (_ : Heap) = _), ?_⟩; (conv => whnf)))
    refine ⟨fun h1 => ?_, fun h1 => ?_⟩ <;> (rw [h1]; (conv => whnf); (try (refine ⟨(rfl : (_ : Heap) = _), ?_⟩; (conv => whnf))); exact ⟨.inl rfl, ⟨[.junk, .junk, .junk, .junk, .junk, .junk, Bo _, .junk, .junk, .junk, .junk, .junk, .junk, .junk, .junk, .junk, .junk, .junk, .junk, .junk, .junk, .junk, .junk, .junk, .junk, .junk, .junk, .junk, .junk, .junk, .junk, .junk, .junk, .junk, .junk, .junk, .junk, .junk, .junk, .junk, .junk, .junk, .junk, .junk, .junk, .junk, .junk, .junk, .junk, .junk, .junk, .junk, .junk, .junk, .junk, .junk, .junk, .junk, .junk, .junk, .junk, .junk, .junk, .junk, .junk, .junk, .junk, .junk, .junk, .junk, .junk, .junk, .junk, .junk, .junk, .junk, .junk, .junk, .junk, .junk, .junk, .junk, .junk, .junk, .junk, .junk, .junk, .junk, .junk, .junk, .junk, .junk, .junk, .junk], _⟩, Weak.covD 3 (by (conv => whnf); (repeat (refine ⟨rfl, ?_⟩; (conv => whnf))); exact trivial) rfl rfl rfl rfl rfl, rfl, rfl⟩)
  have k1 : o.kind ≠ 1 := by simpa using k1
  (conv => whnf); (try (refine ⟨(rfl : (_ : Heap) = _), ?_⟩; (conv => whnf)))
  refine ⟨fun k3 => ?_, fun k3 => ?_⟩
  · have k3 : o.kind = 3 := by simpa using k3
    have e : takeV m o a = swapV m o a := by unfold takeV; rw [if_neg k1, if_pos k3]
    rw [e]
    (conv => whnf); (try (refine ⟨(rfl : (_ : Heap) = _), ?_⟩; (conv => whnf)))
    refine ⟨_, _, (rbuild_sound o.config ho.config).frame rfl _, ?_⟩; (conv => whnf); (try (refine ⟨(rfl : (_ : Heap) = _), ?_⟩; (conv => whnf)))
    refine ⟨fun h1 => ?_, fun h1 => ?_⟩
    · have e : swapV m o a = (a.kind == 9 && a.n == (buildV o.config).2.1, m) := by unfold swapV; rw [if_pos (by simpa using h1)]
      rw [e]
      (conv => whnf); (try (refine ⟨(rfl : (_ : Heap) = _), ?_⟩; (conv => whnf)))
      refine ⟨fun h2 => ?_, fun h2 => ?_⟩
      · rw [h2, Bool.true_and]
        (conv => whnf); (try (refine ⟨(rfl : (_ : Heap) = _), ?_⟩; (conv => whnf)))
        refine ⟨fun h3 => ?_, fun h3 => ?_⟩ <;> (rw [h3]; (conv => whnf); (try (refine ⟨(rfl : (_ : Heap) = _), ?_⟩; (conv => whnf))); exact ⟨.inl rfl, ⟨[.junk, .junk, .junk, .junk, .junk, .junk, Bo _, .junk, .junk, .junk, .junk, .junk, .junk, .junk, .junk, .junk, .junk, .junk, .junk, .junk, .junk, .junk, .junk, .junk, .junk, .junk, .junk, .junk, .junk, .junk, .junk, .junk, .junk, .junk, .junk, .junk, .junk, .junk, .junk, .junk, .junk, .junk, .junk, .junk, .junk, .junk, .junk, .junk, .junk, .junk, .junk, .junk, .junk, .junk, .junk, .junk, .junk, .junk, .junk, .junk, .junk, .junk, .junk, .junk, .junk, .junk, .junk, .junk, .junk, .junk, .junk, .junk, .junk, .junk, .junk, .junk, .junk, .junk, .junk, .junk, .junk, .junk, .junk, .junk, .junk, .junk, .junk, .junk, .junk, .junk, .junk, .junk, .junk, .junk], _⟩, Weak.covD 3 (by (conv => whnf); (repeat (refine ⟨rfl, ?_⟩; (conv => whnf))); exact trivial) rfl rfl rfl rfl rfl, rfl, rfl⟩)
      · rw [h2, Bool.false_and]
        (conv => whnf); (try (refine ⟨(rfl : (_ : Heap) = _), ?_⟩; (conv => whnf)))
        exact ⟨.inl rfl, ⟨[.junk, .junk, .junk, .junk, .junk, .junk, Bo false, .junk, .junk, .junk, .junk, .junk, .junk, .junk, .junk, .junk, .junk, .junk, .junk, .junk, .junk, .junk, .junk, .junk, .junk, .junk, .junk, .junk, .junk, .junk, .junk, .junk, .junk, .junk, .junk, .junk, .junk, .junk, .junk, .junk, .junk, .junk, .junk, .junk, .junk, .junk, .junk, .junk, .junk, .junk, .junk, .junk, .junk, .junk, .junk, .junk, .junk, .junk, .junk, .junk, .junk, .junk, .junk, .junk, .junk, .junk, .junk, .junk, .junk, .junk, .junk, .junk, .junk, .junk, .junk, .junk, .junk, .junk, .junk, .junk, .junk, .junk, .junk, .junk, .junk, .junk, .junk, .junk, .junk, .junk, .junk, .junk, .junk, .junk], _⟩, Weak.covD 3 (by (conv => whnf); (repeat (refine ⟨rfl, ?_⟩; (conv => whnf))); exact trivial) rfl rfl rfl rfl rfl, rfl, rfl⟩
    have h1 : (buildV o.config).2.1 = 0 := by simpa using h1
    (conv => whnf); (try (refine ⟨(rfl : (_ : Heap) = _), ?_⟩; (conv => whnf)))
    refine ⟨⟨false, [], [], []⟩, by kernel_rfl, ?_⟩; (conv => whnf)
    refine ⟨fun h2 => ?_, fun h2 => ?_⟩
    · have e : swapV m o a = (false, m) := by unfold swapV; rw [if_neg (by simp [h1]), if_pos (.inl (by simpa using h2))]
      rw [e]
      (conv => whnf); (try (refine ⟨(rfl : (_ : Heap) = _), ?_⟩; (conv => whnf)))
      (repeat (first | (refine ⟨fun _ => ?_, fun h => absurd h (by decide)⟩; (conv => whnf); (try (refine ⟨(rfl : (_ : Heap) = _), ?_⟩; (conv => whnf)))) | (refine ⟨fun h => absurd h (by decide), fun _ => ?_⟩; (conv => whnf); (try (refine ⟨(rfl : (_ : Heap) = _), ?_⟩; (conv => whnf))))))
      exact ⟨.inl rfl, ⟨[.junk, .junk, .junk, .junk, .junk, .junk, Bo false, .junk, .junk, .junk, .junk, .junk, .junk, .junk, .junk, .junk, .junk, .junk, .junk, .junk, .junk, .junk, .junk, .junk, .junk, .junk, .junk, .junk, .junk, .junk, .junk, .junk, .junk, .junk, .junk, .junk, .junk, .junk, .junk, .junk, .junk, .junk, .junk, .junk, .junk, .junk, .junk, .junk, .junk, .junk, .junk, .junk, .junk, .junk, .junk, .junk, .junk, .junk, .junk, .junk, .junk, .junk, .junk, .junk, .junk, .junk, .junk, .junk, .junk, .junk, .junk, .junk, .junk, .junk, .junk, .junk, .junk, .junk, .junk, .junk, .junk, .junk, .junk, .junk, .junk, .junk, .junk, .junk, .junk, .junk, .junk, .junk, .junk, .junk], _⟩, Weak.covD 3 (by (conv => whnf); (repeat (refine ⟨rfl, ?_⟩; (conv => whnf))); exact trivial) rfl rfl rfl rfl rfl, rfl, rfl⟩
    (conv => whnf); (try (refine ⟨(rfl : (_ : Heap) = _), ?_⟩; (conv => whnf)))
    rw [ml]
    refine ⟨fun h3 => ?_, fun h3 => ?_⟩
    · have e : swapV m o a = (false, m) := by unfold swapV; rw [if_neg (by simp [h1]), if_pos (.inr (by simpa using h3))]
      rw [e]
      (conv => whnf); (try (refine ⟨(rfl : (_ : Heap) = _), ?_⟩; (conv => whnf)))
      exact ⟨.inl rfl, ⟨[.junk, .junk, .junk, .junk, .junk, .junk, Bo false, .junk, .junk, .junk, .junk, .junk, .junk, .junk, .junk, .junk, .junk, .junk, .junk, .junk, .junk, .junk, .junk, .junk, .junk, .junk, .junk, .junk, .junk, .junk, .junk, .junk, .junk, .junk, .junk, .junk, .junk, .junk, .junk, .junk, .junk, .junk, .junk, .junk, .junk, .junk, .junk, .junk, .junk, .junk, .junk, .junk, .junk, .junk, .junk, .junk, .junk, .junk, .junk, .junk, .junk, .junk, .junk, .junk, .junk, .junk, .junk, .junk, .junk, .junk, .junk, .junk, .junk, .junk, .junk, .junk, .junk, .junk, .junk, .junk, .junk, .junk, .junk, .junk, .junk, .junk, .junk, .junk, .junk, .junk, .junk, .junk, .junk, .junk], _⟩, Weak.covD 3 (by (conv => whnf); (repeat (refine ⟨rfl, ?_⟩; (conv => whnf))); exact trivial) rfl rfl rfl rfl rfl, rfl, rfl⟩
    have e : swapV m o a = (true, ⟨m.snaps ++ [(buildV o.config).1], (m.snaps.length : Int), m.dr⟩) := by
      unfold swapV; rw [if_neg (by simp [h1]), if_neg (by simp at h2 h3; simp [h2, h3])]
    rw [e]
    have em : (m.snaps ++ [(buildV o.config).1]).map encS = m.snaps.map encS ++ [encS (buildV o.config).1] := by simp
    simp only [em]
    (conv => whnf); (try (refine ⟨(rfl : (_ : Heap) = _), ?_⟩; (conv => whnf)))
    rw [ml]
    refine ⟨⟨false, [], [], []⟩, by kernel_rfl, ?_⟩; (conv => whnf)
    refine ⟨rfl, .inr rfl, by rw [ml]; simp [maxLen]; omega, by rw [ml]; show (m.snaps.length + 1) * 72 ≤ _; omega, ?_⟩
    (conv => whnf); (try (refine ⟨(rfl : (_ : Heap) = _), ?_⟩; (conv => whnf)))
    exact ⟨.inl rfl, ⟨[.junk, .junk, .junk, .junk, .junk, .junk, Bo true, .junk, .junk, .junk, .junk, .junk, .junk, .junk, .junk, .junk, .junk, .junk, .junk, .junk, .junk, .junk, .junk, .junk, .junk, .junk, .junk, .junk, .junk, .junk, .junk, .junk, .junk, .junk, .junk, .junk, .junk, .junk, .junk, .junk, .junk, .junk, .junk, .junk, .junk, .junk, .junk, .junk, .junk, .junk, .junk, .junk, .junk, .junk, .junk, .junk, .junk, .junk, .junk, .junk, .junk, .junk, .junk, .junk, .junk, .junk, .junk, .junk, .junk, .junk, .junk, .junk, .junk, .junk, .junk, .junk, .junk, .junk, .junk, .junk, .junk, .junk, .junk, .junk, .junk, .junk, .junk, .junk, .junk, .junk, .junk, .junk, .junk, .junk], _⟩, Weak.covD 3 (by (conv => whnf); (repeat (refine ⟨rfl, ?_⟩; (conv => whnf))); exact trivial) rfl rfl rfl rfl rfl, rfl, rfl⟩
  have k3 : o.kind ≠ 3 := by simpa using k3
  (conv => whnf); (try (refine ⟨(rfl : (_ : Heap) = _), ?_⟩; (conv => whnf)))
  refine ⟨fun k4 => ?_, fun k4 => ?_⟩
  rotate_left
  · have e : takeV m o a = (true, m) := by unfold takeV; rw [if_neg k1, if_neg k3, if_neg (by simpa using k4)]
    rw [e]
    (conv => whnf); (try (refine ⟨(rfl : (_ : Heap) = _), ?_⟩; (conv => whnf)))
    exact ⟨.inl rfl, ⟨[.junk, .junk, .junk, .junk, .junk, .junk, Bo true, .junk, .junk, .junk, .junk, .junk, .junk, .junk, .junk, .junk, .junk, .junk, .junk, .junk, .junk, .junk, .junk, .junk, .junk, .junk, .junk, .junk, .junk, .junk, .junk, .junk, .junk, .junk, .junk, .junk, .junk, .junk, .junk, .junk, .junk, .junk, .junk, .junk, .junk, .junk, .junk, .junk, .junk, .junk, .junk, .junk, .junk, .junk, .junk, .junk, .junk, .junk, .junk, .junk, .junk, .junk, .junk, .junk, .junk, .junk, .junk, .junk, .junk, .junk, .junk, .junk, .junk, .junk, .junk, .junk, .junk, .junk, .junk, .junk, .junk, .junk, .junk, .junk, .junk, .junk, .junk, .junk, .junk, .junk, .junk, .junk, .junk, .junk], _⟩, Weak.covD 3 (by (conv => whnf); (repeat (refine ⟨rfl, ?_⟩; (conv => whnf))); exact trivial) rfl rfl rfl rfl rfl, rfl, rfl⟩
  have k4 : o.kind = 4 := by simpa using k4
  (conv => whnf); (try (refine ⟨(rfl : (_ : Heap) = _), ?_⟩; (conv => whnf)))
  refine ⟨fun k5 => ?_, fun k5 => ?_⟩
  · have k5 : a.kind = 10 := by simpa using k5
    have e : takeV m o a = (true, ⟨m.snaps, m.now, m.dr ++ [o.listen]⟩) := by unfold takeV; rw [if_neg k1, if_neg k3, if_pos k4, if_pos k5, k5]; rfl
    have em : (m.dr ++ [o.listen]).map encT = m.dr.map encT ++ [encT o.listen] := by simp
    rw [e]
    simp only [em]
    (conv => whnf); (try (refine ⟨(rfl : (_ : Heap) = _), ?_⟩; (conv => whnf)))
    refine ⟨⟨false, [], [], []⟩, by kernel_rfl, ?_⟩; (conv => whnf)
    refine ⟨rfl, .inr rfl, by rw [md]; simp [maxLen]; omega, by rw [md]; show (m.dr.length + 1) * 16 ≤ _; omega, ?_⟩
    (conv => whnf); (try (refine ⟨(rfl : (_ : Heap) = _), ?_⟩; (conv => whnf)))
    refine ⟨fun h1 => ?_, fun h1 => ?_⟩
    · (conv => whnf); (try (refine ⟨(rfl : (_ : Heap) = _), ?_⟩; (conv => whnf)))
      (repeat (first | (refine ⟨fun _ => ?_, fun h => absurd h (by decide)⟩; (conv => whnf); (try (refine ⟨(rfl : (_ : Heap) = _), ?_⟩; (conv => whnf)))) | (refine ⟨fun h => absurd h (by decide), fun _ => ?_⟩; (conv => whnf); (try (refine ⟨(rfl : (_ : Heap) = _), ?_⟩; (conv => whnf))))))
      exact ⟨.inl rfl, ⟨[.junk, .junk, .junk, .junk, .junk, .junk, Bo true, .junk, .junk, .junk, .junk, .junk, .junk, .junk, .junk, .junk, .junk, .junk, .junk, .junk, .junk, .junk, .junk, .junk, .junk, .junk, .junk, .junk, .junk, .junk, .junk, .junk, .junk, .junk, .junk, .junk, .junk, .junk, .junk, .junk, .junk, .junk, .junk, .junk, .junk, .junk, .junk, .junk, .junk, .junk, .junk, .junk, .junk, .junk, .junk, .junk, .junk, .junk, .junk, .junk, .junk, .junk, .junk, .junk, .junk, .junk, .junk, .junk, .junk, .junk, .junk, .junk, .junk, .junk, .junk, .junk, .junk, .junk, .junk, .junk, .junk, .junk, .junk, .junk, .junk, .junk, .junk, .junk, .junk, .junk, .junk, .junk, .junk, .junk], _⟩, Weak.covD 3 (by (conv => whnf); (repeat (refine ⟨rfl, ?_⟩; (conv => whnf))); exact trivial) rfl rfl rfl rfl rfl, rfl, rfl⟩
    · exact absurd h1 (by simp [k5])
  · have k5 : a.kind ≠ 10 := by simpa using k5
    have e : takeV m o a = (a.kind == 7, m) := by unfold takeV; rw [if_neg k1, if_neg k3, if_pos k4, if_neg k5]; simp [k5]
    rw [e]
    (conv => whnf); (try (refine ⟨(rfl : (_ : Heap) = _), ?_⟩; (conv => whnf)))
    refine ⟨fun h => absurd h (by simp [k5]), fun _ => ?_⟩
    (conv => whnf); (try (refine ⟨(rfl : (_ : Heap) = _), ?_⟩; (conv => whnf)))
    refine ⟨fun h1 => ?_, fun h1 => ?_⟩ <;> (rw [h1]; (conv => whnf); (try (refine ⟨(rfl : (_ : Heap) = _), ?_⟩; (conv => whnf))); exact ⟨.inl rfl, ⟨[.junk, .junk, .junk, .junk, .junk, .junk, Bo _, .junk, .junk, .junk, .junk, .junk, .junk, .junk, .junk, .junk, .junk, .junk, .junk, .junk, .junk, .junk, .junk, .junk, .junk, .junk, .junk, .junk, .junk, .junk, .junk, .junk, .junk, .junk, .junk, .junk, .junk, .junk, .junk, .junk, .junk, .junk, .junk, .junk, .junk, .junk, .junk, .junk, .junk, .junk, .junk, .junk, .junk, .junk, .junk, .junk, .junk, .junk, .junk, .junk, .junk, .junk, .junk, .junk, .junk, .junk, .junk, .junk, .junk, .junk, .junk, .junk, .junk, .junk, .junk, .junk, .junk, .junk, .junk, .junk, .junk, .junk, .junk, .junk, .junk, .junk, .junk, .junk, .junk, .junk, .junk, .junk, .junk, .junk], _⟩, Weak.covD 3 (by (conv => whnf); (repeat (refine ⟨rfl, ?_⟩; (conv => whnf))); exact trivial) rfl rfl rfl rfl rfl, rfl, rfl⟩)
end Go.Lin

