/- Joined: ConB ConC. -/
import Derived.Test.YtbndjpkncgfpiaaGreatQD
import Derived.Test.YtbndjpkncgfpiaaGreatQC
/- Layer 5 (config): the checker, walked. -/
namespace Go.Con
open Go.Ab Go.Proofs Go.Hy Go.Gat Go.Nam Go.Hos
set_option linter.unusedVariables false
set_option linter.unusedSimpArgs false
set_option maxRecDepth 8000
set_option maxHeartbeats 2000000

/-- The first error, and where. -/
def firstE (f : Nat → Int) (n : Nat) : Int × Int := match (List.range n).find? fun i => f i != 0 with
  | some i => (f i, i)
  | none => (0, 0)
theorem firstE_at {f : Nat → Int} {n k : Nat} {e : Int} (hk : k < n) (hr : ∀ j, j < k → f j = 0) (h : f k = e) (he : e ≠ 0) : firstE f n = (e, (k : Int)) := by
  unfold firstE
  have : (List.range n).find? (fun i => f i != 0) = some k := by
    rw [List.find?_range_eq_some]
    exact ⟨by simp [h, he], by simpa using hk, fun j hj => by simp [hr j hj]⟩
  rw [this]
  simp [h]
theorem firstE_no {f : Nat → Int} {n : Nat} (hr : ∀ j, j < n → f j = 0) : firstE f n = (0, 0) := by
  unfold firstE
  have : (List.range n).find? (fun i => f i != 0) = none := by
    rw [List.find?_range_eq_none]
    intro i hi
    simp [hr i hi]
  rw [this]

def lisE (l : List Str) (i : Nat) : Int := match l[i]? with
  | none => 0
  | some s => if nameV s = false then 3 else if (l.take i).any (fun x => x == s) then 4 else 0
def cluE (l : List Clu) (i : Nat) : Int := match l[i]? with
  | none => 0
  | some c => if nameV c.name = false then 3 else if namedV (l.take i) c.name then 4 else if c.policy ≠ 1 ∧ c.policy ≠ 2 then 9 else if (decide (1 ≤ c.slots) && decide (c.slots ≤ 4)) = false then 10
      else if (decide (1 ≤ (c.health.length : Int)) && decide ((c.health.length : Int) ≤ 4)) = false then 6 else 0
def sameR (a b : Rou) : Bool := a.listen == b.listen && a.host == b.host && a.path == b.path
def rouE (c : Cfg) (i : Nat) : Int := match c.routes[i]? with
  | none => 0
  | some r => if c.listens.any (fun x => x == r.listen) = false then 5 else if patV r.host = false then 7 else if pathV r.path = false then 8 else if namedV c.clusters r.cluster = false then 5
      else if (c.routes.take i).any (fun q => sameR q r) then 4 else 0
def sizeE (c : Cfg) : Int × Int :=
  if ((decide (1 ≤ (c.listens.length : Int)) && decide ((c.listens.length : Int) ≤ 4)) = false ∨ (decide (1 ≤ (c.routes.length : Int)) && decide ((c.routes.length : Int) ≤ 8)) = false) ∨ (decide (1 ≤ (c.clusters.length : Int)) && decide ((c.clusters.length : Int) ≤ 4)) = false then (6, 0) else (0, 0)
def checkV (c : Cfg) : Int × Int :=
  if (sizeE c).1 ≠ 0 then sizeE c else if (firstE (lisE c.listens) c.listens.length).1 ≠ 0 then firstE (lisE c.listens) c.listens.length
  else if (firstE (cluE c.clusters) c.clusters.length).1 ≠ 0 then firstE (cluE c.clusters) c.clusters.length
  else if (firstE (rouE c) c.routes.length).1 ≠ 0 then firstE (rouE c) c.routes.length else (0, 0)

abbrev t2 (r : Int × Int) : C := .tup [I r.1, I r.2]
abbrev Cf (c : Cfg) : C := .agg (encF c)

/-- What bounds a configuration's lengths. -/
structure SmallC (c : Cfg) : Prop where
  listens : c.listens.length < 1000000000000 ∧ ∀ s ∈ c.listens, s.length < 4000000000000000000
  routes : c.routes.length < 1000000000000 ∧ ∀ r ∈ c.routes, r.listen.length < 4000000000000000000 ∧ r.host.length < 1000000000000 ∧ r.path.length < 1000000000000 ∧ r.cluster.length < 4000000000000000000
  clusters : c.clusters.length < 1000000000000 ∧ ∀ x ∈ c.clusters, x.name.length < 4000000000000000000 ∧ x.health.length < 4000000000000000000

theorem size_sound (c : Cfg) (hc : SmallC c) : SoundAt Tryz.prog 46 [] [Cf c] (t2 (sizeE c)) [] := by
  have m1 : (c.listens.map encT).length = c.listens.length := List.length_map ..
  have m2 : (c.routes.map encO).length = c.routes.length := List.length_map ..
  have m3 : (c.clusters.map encC).length = c.clusters.length := List.length_map ..
  refine SoundAt.of_wpA1 (fn := Tryz.f46) Tryz.func46 rfl ?_
  conv => whnf
  rw [m1]
  refine ⟨_, _, (within_sound _ _ _).frame rfl _, ?_⟩; (conv => whnf); (try (refine ⟨(rfl : (_ : Heap) = _), ?_⟩; (conv => whnf)))
  refine ⟨fun h1 => ?_, fun h1 => ?_⟩
  · (conv => whnf); (try (refine ⟨(rfl : (_ : Heap) = _), ?_⟩; (conv => whnf)))
    (repeat (first | (refine ⟨fun _ => ?_, fun h => absurd h (by decide)⟩; (conv => whnf); (try (refine ⟨(rfl : (_ : Heap) = _), ?_⟩; (conv => whnf)))) | (refine ⟨fun h => absurd h (by decide), fun _ => ?_⟩; (conv => whnf); (try (refine ⟨(rfl : (_ : Heap) = _), ?_⟩; (conv => whnf))))))
    rw [m2]
    refine ⟨_, _, (within_sound _ _ _).frame rfl _, ?_⟩; (conv => whnf); (try (refine ⟨(rfl : (_ : Heap) = _), ?_⟩; (conv => whnf)))
    refine ⟨fun h2 => ?_, fun h2 => ?_⟩
    · (conv => whnf); (try (refine ⟨(rfl : (_ : Heap) = _), ?_⟩; (conv => whnf)))
      (repeat (first | (refine ⟨fun _ => ?_, fun h => absurd h (by decide)⟩; (conv => whnf); (try (refine ⟨(rfl : (_ : Heap) = _), ?_⟩; (conv => whnf)))) | (refine ⟨fun h => absurd h (by decide), fun _ => ?_⟩; (conv => whnf); (try (refine ⟨(rfl : (_ : Heap) = _), ?_⟩; (conv => whnf))))))
      rw [m3]
      refine ⟨_, _, (within_sound _ _ _).frame rfl _, ?_⟩; (conv => whnf); (try (refine ⟨(rfl : (_ : Heap) = _), ?_⟩; (conv => whnf)))
      refine ⟨fun h3 => ?_, fun h3 => ?_⟩
      · (conv => whnf); (try (refine ⟨(rfl : (_ : Heap) = _), ?_⟩; (conv => whnf)))
        (repeat (first | (refine ⟨fun _ => ?_, fun h => absurd h (by decide)⟩; (conv => whnf); (try (refine ⟨(rfl : (_ : Heap) = _), ?_⟩; (conv => whnf)))) | (refine ⟨fun h => absurd h (by decide), fun _ => ?_⟩; (conv => whnf); (try (refine ⟨(rfl : (_ : Heap) = _), ?_⟩; (conv => whnf))))))
        have e : sizeE c = (0, 0) := by unfold sizeE; rw [if_neg]; simp only [h1, h2, h3]; simp
        rw [e]
        exact ⟨.inl rfl, _, .refl _, rfl⟩
      · (conv => whnf); (try (refine ⟨(rfl : (_ : Heap) = _), ?_⟩; (conv => whnf)))
        (repeat (first | (refine ⟨fun _ => ?_, fun h => absurd h (by decide)⟩; (conv => whnf); (try (refine ⟨(rfl : (_ : Heap) = _), ?_⟩; (conv => whnf)))) | (refine ⟨fun h => absurd h (by decide), fun _ => ?_⟩; (conv => whnf); (try (refine ⟨(rfl : (_ : Heap) = _), ?_⟩; (conv => whnf))))))
        have e : sizeE c = (6, 0) := by unfold sizeE; rw [if_pos (.inr h3)]
        rw [e]
        exact ⟨.inl rfl, _, .refl _, rfl⟩
    · (conv => whnf); (try (refine ⟨(rfl : (_ : Heap) = _), ?_⟩; (conv => whnf)))
      (repeat (first | (refine ⟨fun _ => ?_, fun h => absurd h (by decide)⟩; (conv => whnf); (try (refine ⟨(rfl : (_ : Heap) = _), ?_⟩; (conv => whnf)))) | (refine ⟨fun h => absurd h (by decide), fun _ => ?_⟩; (conv => whnf); (try (refine ⟨(rfl : (_ : Heap) = _), ?_⟩; (conv => whnf))))))
      have e : sizeE c = (6, 0) := by unfold sizeE; rw [if_pos (.inl (.inr h2))]
      rw [e]
      exact ⟨.inl rfl, _, .refl _, rfl⟩
  · (conv => whnf); (try (refine ⟨(rfl : (_ : Heap) = _), ?_⟩; (conv => whnf)))
    (repeat (first | (refine ⟨fun _ => ?_, fun h => absurd h (by decide)⟩; (conv => whnf); (try (refine ⟨(rfl : (_ : Heap) = _), ?_⟩; (conv => whnf)))) | (refine ⟨fun h => absurd h (by decide), fun _ => ?_⟩; (conv => whnf); (try (refine ⟨(rfl : (_ : Heap) = _), ?_⟩; (conv => whnf))))))
    have e : sizeE c = (6, 0) := by unfold sizeE; rw [if_pos (.inl (.inl h1))]
    rw [e]
    exact ⟨.inl rfl, _, .refl _, rfl⟩

theorem listens_sound (c : Cfg) (hc : SmallC c) : SoundAt Tryz.prog 47 [] [Cf c] (t2 (firstE (lisE c.listens) c.listens.length)) [] := by
  have m1 : (c.listens.map encT).length = c.listens.length := List.length_map ..
  have hl := hc.listens.1
  refine SoundAt.of_wpA1 (fn := Tryz.f47) Tryz.func47 rfl ?_
  conv => whnf
  rw [m1]
  refine Loops.seq c.listens.length (fun k => [Cf c, .ref 0 [] 3 0 0, I 0, I 0, .junk, .junk, .junk, .junk, lT c.listens, I c.listens.length, I k, .junk, .junk, .junk, .junk, .junk, .junk, .junk, .junk, .junk, .junk, .junk, .junk, .junk, .junk, .junk, .junk, .junk, .junk, .junk]) (fun k => [⟨1, 109, 3, [encF c], 0⟩]) (fun k => ∀ j, j < k → lisE c.listens j = 0) ?_ (by simp) (fun k hk hr => ?_) (fun hr => ?_)
  · exact Weak.cov (by (conv => whnf); (repeat (refine ⟨rfl, ?_⟩; (conv => whnf))); exact trivial)
  · have hg : (c.listens.map encT)[k]? = some (encT c.listens[k]) := by rw [List.getElem?_map, List.getElem?_eq_getElem hk]; rfl
    have hs := hc.listens.2 _ (List.getElem_mem hk)
    have he : lisE c.listens k = if nameV c.listens[k] = false then 3 else if (c.listens.take k).any (fun x => x == c.listens[k]) then 4 else 0 := by
      unfold lisE; rw [List.getElem?_eq_getElem hk]
    conv => whnf
    refine ⟨fun _ => ?_, fun h => absurd h (by simp; omega)⟩
    (conv => whnf); (try (refine ⟨(rfl : (_ : Heap) = _), ?_⟩; (conv => whnf)))
    refine ⟨by omega, _, by rw [toNat_cast]; exact hg, ?_⟩
    (conv => whnf); (try (refine ⟨(rfl : (_ : Heap) = _), ?_⟩; (conv => whnf)))
    refine ⟨_, _, (name_sound c.listens[k] (by omega)).frame rfl _, ?_⟩; (conv => whnf); (try (refine ⟨(rfl : (_ : Heap) = _), ?_⟩; (conv => whnf)))
    refine ⟨fun h2 => ?_, fun h2 => ?_⟩
    · (conv => whnf); (try (refine ⟨(rfl : (_ : Heap) = _), ?_⟩; (conv => whnf)))
      (repeat (first | (refine ⟨fun _ => ?_, fun h => absurd h (by decide)⟩; (conv => whnf); (try (refine ⟨(rfl : (_ : Heap) = _), ?_⟩; (conv => whnf)))) | (refine ⟨fun h => absurd h (by decide), fun _ => ?_⟩; (conv => whnf); (try (refine ⟨(rfl : (_ : Heap) = _), ?_⟩; (conv => whnf))))))
      (refine ⟨.inr rfl, ?_⟩); (conv => whnf); (try (refine ⟨(rfl : (_ : Heap) = _), ?_⟩; (conv => whnf))); (refine ⟨by omega, Nat.zero_le _, by rw [m1]; omega, ?_⟩); (conv => whnf); (try (refine ⟨(rfl : (_ : Heap) = _), ?_⟩; (conv => whnf))); (rw [List.drop_zero, Nat.sub_zero, toNat_cast, ← List.map_take])
      refine ⟨_, _, (conT_sound (c.listens.take k) c.listens[k] (by simp; omega)).frame rfl _, ?_⟩; (conv => whnf); (try (refine ⟨(rfl : (_ : Heap) = _), ?_⟩; (conv => whnf)))
      refine ⟨fun h3 => ?_, fun h3 => ?_⟩
      · (conv => whnf); (try (refine ⟨(rfl : (_ : Heap) = _), ?_⟩; (conv => whnf)))
        rw [firstE_at hk hr (by rw [he, if_neg (by simp [h2]), if_pos h3]) (by decide)]
        refine .inr ⟨by simp, ?_⟩
        conv => whnf
        exact ⟨.inl rfl, _, .refl _, rfl⟩
      · (conv => whnf); (try (refine ⟨(rfl : (_ : Heap) = _), ?_⟩; (conv => whnf)))
        refine .inl ⟨rfl, ?_, (fun j hj => by (by_cases e : j = k); (subst e; exact (by rw [he, if_neg (by simp [h2]), if_neg (by simp [h3])])); (exact hr j (by omega)))⟩
        rw [i64_nat (by omega)]
        exact Weak.covD 1 (by (conv => whnf); (repeat (refine ⟨rfl, ?_⟩; (conv => whnf))); exact trivial) rfl rfl rfl rfl rfl
    · (conv => whnf); (try (refine ⟨(rfl : (_ : Heap) = _), ?_⟩; (conv => whnf)))
      (repeat (first | (refine ⟨fun _ => ?_, fun h => absurd h (by decide)⟩; (conv => whnf); (try (refine ⟨(rfl : (_ : Heap) = _), ?_⟩; (conv => whnf)))) | (refine ⟨fun h => absurd h (by decide), fun _ => ?_⟩; (conv => whnf); (try (refine ⟨(rfl : (_ : Heap) = _), ?_⟩; (conv => whnf))))))
      rw [firstE_at hk hr (by rw [he, if_pos h2]) (by decide)]
      refine .inr ⟨by simp, ?_⟩
      conv => whnf
      exact ⟨.inl rfl, _, .refl _, rfl⟩
  · rw [firstE_no hr]
    (conv => whnf); (refine ⟨fun h => absurd h (by simp), fun _ => ?_⟩); (conv => whnf); (try (refine ⟨(rfl : (_ : Heap) = _), ?_⟩; (conv => whnf))); (refine ⟨by simp, ?_⟩); (conv => whnf)
    exact ⟨.inl rfl, _, .refl _, rfl⟩

theorem takeany {l : List Clu} {k : Nat} (s : Str) : namedV (l.take k) s = (l.take k).any fun c => c.name == s := rfl
theorem clusters_sound (c : Cfg) (hc : SmallC c) : SoundAt Tryz.prog 48 [] [Cf c] (t2 (firstE (cluE c.clusters) c.clusters.length)) [] := by
  have m1 : (c.clusters.map encC).length = c.clusters.length := List.length_map ..
  have hl := hc.clusters.1
  refine SoundAt.of_wpA1 (fn := Tryz.f48) Tryz.func48 rfl ?_
  conv => whnf
  rw [m1]
  refine Loops.seq c.clusters.length (fun k => [Cf c, .ref 0 [] 3 0 0, I 0, I 0, .junk, .junk, .junk, .junk, lC c.clusters, I c.clusters.length, I k, .junk, .junk, .junk, .junk, .junk, .junk, .junk, .junk, .junk, .junk, .junk, .junk, .junk, .junk, .junk, .junk, .junk, .junk, .junk, .junk, .junk, .junk, .junk, .junk, .junk, .junk, .junk, .junk, .junk, .junk, .junk, .junk, .junk, .junk, .junk, .junk, .junk, .junk, .junk, .junk, .junk, .junk, .junk, .junk]) (fun k => [⟨1, 109, 3, [encF c], 0⟩]) (fun k => ∀ j, j < k → cluE c.clusters j = 0) ?_ (by simp) (fun k hk hr => ?_) (fun hr => ?_)
  · exact Weak.cov (by (conv => whnf); (repeat (refine ⟨rfl, ?_⟩; (conv => whnf))); exact trivial)
  · obtain ⟨x, hx⟩ : ∃ x, x = c.clusters[k] := ⟨_, rfl⟩
    have hg : (c.clusters.map encC)[k]? = some (encC x) := by rw [List.getElem?_map, List.getElem?_eq_getElem hk, hx]; rfl
    have hs := hc.clusters.2 x (by rw [hx]; exact List.getElem_mem hk)
    have he : cluE c.clusters k = if nameV x.name = false then 3 else if namedV (c.clusters.take k) x.name then 4 else if x.policy ≠ 1 ∧ x.policy ≠ 2 then 9 else if (decide (1 ≤ x.slots) && decide (x.slots ≤ 4)) = false then 10
        else if (decide (1 ≤ (x.health.length : Int)) && decide ((x.health.length : Int) ≤ 4)) = false then 6 else 0 := by
      unfold cluE; rw [List.getElem?_eq_getElem hk, hx]
    have mh : (x.health.map encB).length = x.health.length := List.length_map ..
    conv => whnf
    refine ⟨fun _ => ?_, fun h => absurd h (by simp; omega)⟩
    (conv => whnf); (try (refine ⟨(rfl : (_ : Heap) = _), ?_⟩; (conv => whnf)))
    refine ⟨by omega, _, by rw [toNat_cast]; exact hg, ?_⟩
    (conv => whnf); (try (refine ⟨(rfl : (_ : Heap) = _), ?_⟩; (conv => whnf)))
    refine ⟨_, _, (name_sound x.name (by omega)).frame rfl _, ?_⟩; (conv => whnf); (try (refine ⟨(rfl : (_ : Heap) = _), ?_⟩; (conv => whnf)))
    refine ⟨fun h2 => ?_, fun h2 => ?_⟩
    · (conv => whnf); (try (refine ⟨(rfl : (_ : Heap) = _), ?_⟩; (conv => whnf)))
      (repeat (first | (refine ⟨fun _ => ?_, fun h => absurd h (by decide)⟩; (conv => whnf); (try (refine ⟨(rfl : (_ : Heap) = _), ?_⟩; (conv => whnf)))) | (refine ⟨fun h => absurd h (by decide), fun _ => ?_⟩; (conv => whnf); (try (refine ⟨(rfl : (_ : Heap) = _), ?_⟩; (conv => whnf))))))
      refine ⟨⟨false, [2, 6, 7], [0, 1], []⟩, by kernel_rfl, ?_⟩; (conv => whnf)
      (refine ⟨.inr rfl, ?_⟩); (conv => whnf); (try (refine ⟨(rfl : (_ : Heap) = _), ?_⟩; (conv => whnf))); (refine ⟨by omega, Nat.zero_le _, by rw [m1]; omega, ?_⟩); (conv => whnf); (try (refine ⟨(rfl : (_ : Heap) = _), ?_⟩; (conv => whnf))); (rw [List.drop_zero, Nat.sub_zero, toNat_cast, ← List.map_take])
      refine ⟨Bo (namedV (c.clusters.take k) x.name), fun H2 => (named_sound (c.clusters.take k) x.name (by simp; omega)).frame rfl H2, ?_⟩
      (conv => whnf); (try (refine ⟨(rfl : (_ : Heap) = _), ?_⟩; (conv => whnf)))
      refine ⟨fun h3 => ?_, fun h3 => ?_⟩
      · (conv => whnf); (try (refine ⟨(rfl : (_ : Heap) = _), ?_⟩; (conv => whnf)))
        rw [firstE_at hk hr (by rw [he, if_neg (by simp [h2]), if_pos h3]) (by decide)]
        (refine .inr ⟨by simp, ?_⟩); (conv => whnf)
        exact ⟨.inl rfl, _, .refl _, rfl⟩
      · have he := he.trans ((if_neg (by simp [h2])).trans (if_neg (by simp [h3])))
        (conv => whnf); (try (refine ⟨(rfl : (_ : Heap) = _), ?_⟩; (conv => whnf)))
        refine ⟨fun h4 => ?_, fun h4 => ?_⟩
        · have h4 : x.policy ≠ 1 := by simpa using h4
          (conv => whnf); (try (refine ⟨(rfl : (_ : Heap) = _), ?_⟩; (conv => whnf)))
          refine ⟨fun h5 => ?_, fun h5 => ?_⟩
          · have h5 : x.policy ≠ 2 := by simpa using h5
            (conv => whnf); (try (refine ⟨(rfl : (_ : Heap) = _), ?_⟩; (conv => whnf)))
            rw [firstE_at hk hr (by rw [he, if_pos ⟨h4, h5⟩]) (by decide)]
            (refine .inr ⟨by simp, ?_⟩); (conv => whnf)
            exact ⟨.inl rfl, _, .refl _, rfl⟩
          · have h5 : x.policy = 2 := by simpa using h5
            have he := he.trans (if_neg (fun h => h.2 h5))
            (conv => whnf); (try (refine ⟨(rfl : (_ : Heap) = _), ?_⟩; (conv => whnf)))
            refine ⟨_, _, (within_sound _ _ _).frame rfl _, ?_⟩; (conv => whnf); (try (refine ⟨(rfl : (_ : Heap) = _), ?_⟩; (conv => whnf))); (refine ⟨fun h6 => ?_, fun h6 => ?_⟩); rotate_left; (focus ((conv => whnf); (try (refine ⟨(rfl : (_ : Heap) = _), ?_⟩; (conv => whnf))); (repeat (first | (refine ⟨fun _ => ?_, fun h => absurd h (by decide)⟩; (conv => whnf); (try (refine ⟨(rfl : (_ : Heap) = _), ?_⟩; (conv => whnf)))) | (refine ⟨fun h => absurd h (by decide), fun _ => ?_⟩; (conv => whnf); (try (refine ⟨(rfl : (_ : Heap) = _), ?_⟩; (conv => whnf)))))); (rw [firstE_at hk hr (by rw [he, if_pos h6]) (by decide)]); (refine .inr ⟨by simp, ?_⟩); (conv => whnf); exact ⟨.inl rfl, _, .refl _, rfl⟩)); (have he := he.trans (if_neg (by simp only [h6]; decide))); (conv => whnf); (try (refine ⟨(rfl : (_ : Heap) = _), ?_⟩; (conv => whnf))); (repeat (first | (refine ⟨fun _ => ?_, fun h => absurd h (by decide)⟩; (conv => whnf); (try (refine ⟨(rfl : (_ : Heap) = _), ?_⟩; (conv => whnf)))) | (refine ⟨fun h => absurd h (by decide), fun _ => ?_⟩; (conv => whnf); (try (refine ⟨(rfl : (_ : Heap) = _), ?_⟩; (conv => whnf)))))); (rw [mh]); refine ⟨_, _, (within_sound _ _ _).frame rfl _, ?_⟩; (conv => whnf); (try (refine ⟨(rfl : (_ : Heap) = _), ?_⟩; (conv => whnf))); (refine ⟨fun h7 => ?_, fun h7 => ?_⟩); rotate_left; (focus ((conv => whnf); (try (refine ⟨(rfl : (_ : Heap) = _), ?_⟩; (conv => whnf))); (repeat (first | (refine ⟨fun _ => ?_, fun h => absurd h (by decide)⟩; (conv => whnf); (try (refine ⟨(rfl : (_ : Heap) = _), ?_⟩; (conv => whnf)))) | (refine ⟨fun h => absurd h (by decide), fun _ => ?_⟩; (conv => whnf); (try (refine ⟨(rfl : (_ : Heap) = _), ?_⟩; (conv => whnf)))))); (rw [firstE_at hk hr (by rw [he, if_pos h7]) (by decide)]); (refine .inr ⟨by simp, ?_⟩); (conv => whnf); exact ⟨.inl rfl, _, .refl _, rfl⟩)); (have he := he.trans (if_neg (by simp only [h7]; decide))); (conv => whnf); (try (refine ⟨(rfl : (_ : Heap) = _), ?_⟩; (conv => whnf))); (repeat (first | (refine ⟨fun _ => ?_, fun h => absurd h (by decide)⟩; (conv => whnf); (try (refine ⟨(rfl : (_ : Heap) = _), ?_⟩; (conv => whnf)))) | (refine ⟨fun h => absurd h (by decide), fun _ => ?_⟩; (conv => whnf); (try (refine ⟨(rfl : (_ : Heap) = _), ?_⟩; (conv => whnf)))))); (refine .inl ⟨rfl, ?_, (fun j hj => by (by_cases e : j = k); (subst e; exact he); (exact hr j (by omega)))⟩); (rw [i64_nat (by omega)]); exact Weak.covD 1 (by (conv => whnf); (repeat (refine ⟨rfl, ?_⟩; (conv => whnf))); exact trivial) rfl rfl rfl rfl rfl
        · have h4 : x.policy = 1 := by simpa using h4
          have he := he.trans (if_neg (fun h => h.1 h4))
          (conv => whnf); (try (refine ⟨(rfl : (_ : Heap) = _), ?_⟩; (conv => whnf)))
          refine ⟨_, _, (within_sound _ _ _).frame rfl _, ?_⟩; (conv => whnf); (try (refine ⟨(rfl : (_ : Heap) = _), ?_⟩; (conv => whnf))); (refine ⟨fun h6 => ?_, fun h6 => ?_⟩); rotate_left; (focus ((conv => whnf); (try (refine ⟨(rfl : (_ : Heap) = _), ?_⟩; (conv => whnf))); (repeat (first | (refine ⟨fun _ => ?_, fun h => absurd h (by decide)⟩; (conv => whnf); (try (refine ⟨(rfl : (_ : Heap) = _), ?_⟩; (conv => whnf)))) | (refine ⟨fun h => absurd h (by decide), fun _ => ?_⟩; (conv => whnf); (try (refine ⟨(rfl : (_ : Heap) = _), ?_⟩; (conv => whnf)))))); (rw [firstE_at hk hr (by rw [he, if_pos h6]) (by decide)]); (refine .inr ⟨by simp, ?_⟩); (conv => whnf); exact ⟨.inl rfl, _, .refl _, rfl⟩)); (have he := he.trans (if_neg (by simp only [h6]; decide))); (conv => whnf); (try (refine ⟨(rfl : (_ : Heap) = _), ?_⟩; (conv => whnf))); (repeat (first | (refine ⟨fun _ => ?_, fun h => absurd h (by decide)⟩; (conv => whnf); (try (refine ⟨(rfl : (_ : Heap) = _), ?_⟩; (conv => whnf)))) | (refine ⟨fun h => absurd h (by decide), fun _ => ?_⟩; (conv => whnf); (try (refine ⟨(rfl : (_ : Heap) = _), ?_⟩; (conv => whnf)))))); (rw [mh]); refine ⟨_, _, (within_sound _ _ _).frame rfl _, ?_⟩; (conv => whnf); (try (refine ⟨(rfl : (_ : Heap) = _), ?_⟩; (conv => whnf))); (refine ⟨fun h7 => ?_, fun h7 => ?_⟩); rotate_left; (focus ((conv => whnf); (try (refine ⟨(rfl : (_ : Heap) = _), ?_⟩; (conv => whnf))); (repeat (first | (refine ⟨fun _ => ?_, fun h => absurd h (by decide)⟩; (conv => whnf); (try (refine ⟨(rfl : (_ : Heap) = _), ?_⟩; (conv => whnf)))) | (refine ⟨fun h => absurd h (by decide), fun _ => ?_⟩; (conv => whnf); (try (refine ⟨(rfl : (_ : Heap) = _), ?_⟩; (conv => whnf)))))); (rw [firstE_at hk hr (by rw [he, if_pos h7]) (by decide)]); (refine .inr ⟨by simp, ?_⟩); (conv => whnf); exact ⟨.inl rfl, _, .refl _, rfl⟩)); (have he := he.trans (if_neg (by simp only [h7]; decide))); (conv => whnf); (try (refine ⟨(rfl : (_ : Heap) = _), ?_⟩; (conv => whnf))); (repeat (first | (refine ⟨fun _ => ?_, fun h => absurd h (by decide)⟩; (conv => whnf); (try (refine ⟨(rfl : (_ : Heap) = _), ?_⟩; (conv => whnf)))) | (refine ⟨fun h => absurd h (by decide), fun _ => ?_⟩; (conv => whnf); (try (refine ⟨(rfl : (_ : Heap) = _), ?_⟩; (conv => whnf)))))); (refine .inl ⟨rfl, ?_, (fun j hj => by (by_cases e : j = k); (subst e; exact he); (exact hr j (by omega)))⟩); (rw [i64_nat (by omega)]); exact Weak.covD 1 (by (conv => whnf); (repeat (refine ⟨rfl, ?_⟩; (conv => whnf))); exact trivial) rfl rfl rfl rfl rfl
    · (conv => whnf); (try (refine ⟨(rfl : (_ : Heap) = _), ?_⟩; (conv => whnf)))
      (repeat (first | (refine ⟨fun _ => ?_, fun h => absurd h (by decide)⟩; (conv => whnf); (try (refine ⟨(rfl : (_ : Heap) = _), ?_⟩; (conv => whnf)))) | (refine ⟨fun h => absurd h (by decide), fun _ => ?_⟩; (conv => whnf); (try (refine ⟨(rfl : (_ : Heap) = _), ?_⟩; (conv => whnf))))))
      rw [firstE_at hk hr (by rw [he, if_pos h2]) (by decide)]
      refine .inr ⟨by simp, ?_⟩
      conv => whnf
      exact ⟨.inl rfl, _, .refl _, rfl⟩
  · rw [firstE_no hr]
    (conv => whnf); (refine ⟨fun h => absurd h (by simp), fun _ => ?_⟩); (conv => whnf); (try (refine ⟨(rfl : (_ : Heap) = _), ?_⟩; (conv => whnf))); (refine ⟨by simp, ?_⟩); (conv => whnf)
    exact ⟨.inl rfl, _, .refl _, rfl⟩

theorem routes_sound (c : Cfg) (hc : SmallC c) : SoundAt Tryz.prog 49 [] [Cf c] (t2 (firstE (rouE c) c.routes.length)) [] := by
  have m1 : (c.routes.map encO).length = c.routes.length := List.length_map ..
  have hl := hc.routes.1
  have hl1 := hc.listens.1
  have hl2 := hc.clusters.1
  refine SoundAt.of_wpA1 (fn := Tryz.f49) Tryz.func49 rfl ?_
  conv => whnf
  rw [m1]
  refine Loops.seq c.routes.length (fun k => [Cf c, .ref 0 [] 3 0 0, I 0, I 0, .junk, .junk, .junk, .junk, .junk, .junk, lO c.routes, I c.routes.length, I k, .junk, .junk, .junk, .junk, .junk, .junk, .junk, .junk, .junk, .junk, .junk, .junk, .junk, .junk, .junk, .junk, .junk, .junk, .junk, .junk, .junk, .junk, .junk, .junk, .junk, .junk, .junk, .junk, .junk, .junk, .junk, .junk, .junk, .junk, .junk, .junk, .junk, .junk, .junk, .junk, .junk, .junk, .junk, .junk, .junk, .junk, .junk, .junk, .junk, .junk, .junk, .junk]) (fun k => [⟨1, 109, 3, [encF c], 0⟩]) (fun k => ∀ j, j < k → rouE c j = 0) ?_ (by simp) (fun k hk hr => ?_) (fun hr => ?_)
  · exact Weak.cov (by (conv => whnf); (repeat (refine ⟨rfl, ?_⟩; (conv => whnf))); exact trivial)
  · obtain ⟨r, hx⟩ : ∃ r, r = c.routes[k] := ⟨_, rfl⟩
    have hg : (c.routes.map encO)[k]? = some (encO r) := by rw [List.getElem?_map, List.getElem?_eq_getElem hk, hx]; rfl
    have hs := hc.routes.2 r (by rw [hx]; exact List.getElem_mem hk)
    have he : rouE c k = if c.listens.any (fun x => x == r.listen) = false then 5 else if patV r.host = false then 7 else if pathV r.path = false then 8 else if namedV c.clusters r.cluster = false then 5
        else if (c.routes.take k).any (fun q => sameR q r) then 4 else 0 := by
      unfold rouE; rw [List.getElem?_eq_getElem hk, hx]
    have m2 : ((c.routes.take k).map encO).length = k := by simp; omega
    have hlk : (c.routes.take k).length = k := by simp; omega
    conv => whnf
    (refine ⟨fun _ => ?_, fun h => absurd h (by simp; omega)⟩); (conv => whnf); (try (refine ⟨(rfl : (_ : Heap) = _), ?_⟩; (conv => whnf)))
    (refine ⟨by omega, _, by rw [toNat_cast]; exact hg, ?_⟩); (conv => whnf); (try (refine ⟨(rfl : (_ : Heap) = _), ?_⟩; (conv => whnf)))
    refine ⟨_, _, (conT_sound c.listens r.listen (by omega)).frame rfl _, ?_⟩; (conv => whnf); (try (refine ⟨(rfl : (_ : Heap) = _), ?_⟩; (conv => whnf)))
    refine ⟨fun h2 => ?_, fun h2 => ?_⟩
    rotate_left
    · (conv => whnf); (try (refine ⟨(rfl : (_ : Heap) = _), ?_⟩; (conv => whnf)))
      (repeat (first | (refine ⟨fun _ => ?_, fun h => absurd h (by decide)⟩; (conv => whnf); (try (refine ⟨(rfl : (_ : Heap) = _), ?_⟩; (conv => whnf)))) | (refine ⟨fun h => absurd h (by decide), fun _ => ?_⟩; (conv => whnf); (try (refine ⟨(rfl : (_ : Heap) = _), ?_⟩; (conv => whnf))))))
      rw [firstE_at hk hr (by rw [he, if_pos h2]) (by decide)]
      (refine .inr ⟨by simp, ?_⟩); (conv => whnf)
      exact ⟨.inl rfl, _, .refl _, rfl⟩
    have he := he.trans (if_neg (by simp [h2]))
    (conv => whnf); (try (refine ⟨(rfl : (_ : Heap) = _), ?_⟩; (conv => whnf)))
    (repeat (first | (refine ⟨fun _ => ?_, fun h => absurd h (by decide)⟩; (conv => whnf); (try (refine ⟨(rfl : (_ : Heap) = _), ?_⟩; (conv => whnf)))) | (refine ⟨fun h => absurd h (by decide), fun _ => ?_⟩; (conv => whnf); (try (refine ⟨(rfl : (_ : Heap) = _), ?_⟩; (conv => whnf))))))
    refine ⟨_, _, (pattern_sound r.host (by omega)).frame rfl _, ?_⟩; (conv => whnf); (try (refine ⟨(rfl : (_ : Heap) = _), ?_⟩; (conv => whnf)))
    refine ⟨fun h3 => ?_, fun h3 => ?_⟩
    rotate_left
    · (conv => whnf); (try (refine ⟨(rfl : (_ : Heap) = _), ?_⟩; (conv => whnf)))
      (repeat (first | (refine ⟨fun _ => ?_, fun h => absurd h (by decide)⟩; (conv => whnf); (try (refine ⟨(rfl : (_ : Heap) = _), ?_⟩; (conv => whnf)))) | (refine ⟨fun h => absurd h (by decide), fun _ => ?_⟩; (conv => whnf); (try (refine ⟨(rfl : (_ : Heap) = _), ?_⟩; (conv => whnf))))))
      rw [firstE_at hk hr (by rw [he, if_pos h3]) (by decide)]
      (refine .inr ⟨by simp, ?_⟩); (conv => whnf)
      exact ⟨.inl rfl, _, .refl _, rfl⟩
    have he := he.trans (if_neg (by simp [h3]))
    (conv => whnf); (try (refine ⟨(rfl : (_ : Heap) = _), ?_⟩; (conv => whnf)))
    (repeat (first | (refine ⟨fun _ => ?_, fun h => absurd h (by decide)⟩; (conv => whnf); (try (refine ⟨(rfl : (_ : Heap) = _), ?_⟩; (conv => whnf)))) | (refine ⟨fun h => absurd h (by decide), fun _ => ?_⟩; (conv => whnf); (try (refine ⟨(rfl : (_ : Heap) = _), ?_⟩; (conv => whnf))))))
    refine ⟨_, _, (path_sound r.path (by omega)).frame rfl _, ?_⟩; (conv => whnf); (try (refine ⟨(rfl : (_ : Heap) = _), ?_⟩; (conv => whnf)))
    refine ⟨fun h4 => ?_, fun h4 => ?_⟩
    rotate_left
    · (conv => whnf); (try (refine ⟨(rfl : (_ : Heap) = _), ?_⟩; (conv => whnf)))
      (repeat (first | (refine ⟨fun _ => ?_, fun h => absurd h (by decide)⟩; (conv => whnf); (try (refine ⟨(rfl : (_ : Heap) = _), ?_⟩; (conv => whnf)))) | (refine ⟨fun h => absurd h (by decide), fun _ => ?_⟩; (conv => whnf); (try (refine ⟨(rfl : (_ : Heap) = _), ?_⟩; (conv => whnf))))))
      rw [firstE_at hk hr (by rw [he, if_pos h4]) (by decide)]
      (refine .inr ⟨by simp, ?_⟩); (conv => whnf)
      exact ⟨.inl rfl, _, .refl _, rfl⟩
    have he := he.trans (if_neg (by simp [h4]))
    (conv => whnf); (try (refine ⟨(rfl : (_ : Heap) = _), ?_⟩; (conv => whnf)))
    (repeat (first | (refine ⟨fun _ => ?_, fun h => absurd h (by decide)⟩; (conv => whnf); (try (refine ⟨(rfl : (_ : Heap) = _), ?_⟩; (conv => whnf)))) | (refine ⟨fun h => absurd h (by decide), fun _ => ?_⟩; (conv => whnf); (try (refine ⟨(rfl : (_ : Heap) = _), ?_⟩; (conv => whnf))))))
    refine ⟨_, _, (named_sound c.clusters r.cluster (by omega)).frame rfl _, ?_⟩; (conv => whnf); (try (refine ⟨(rfl : (_ : Heap) = _), ?_⟩; (conv => whnf)))
    refine ⟨fun h5 => ?_, fun h5 => ?_⟩
    rotate_left
    · (conv => whnf); (try (refine ⟨(rfl : (_ : Heap) = _), ?_⟩; (conv => whnf)))
      (repeat (first | (refine ⟨fun _ => ?_, fun h => absurd h (by decide)⟩; (conv => whnf); (try (refine ⟨(rfl : (_ : Heap) = _), ?_⟩; (conv => whnf)))) | (refine ⟨fun h => absurd h (by decide), fun _ => ?_⟩; (conv => whnf); (try (refine ⟨(rfl : (_ : Heap) = _), ?_⟩; (conv => whnf))))))
      rw [firstE_at hk hr (by rw [he, if_pos h5]) (by decide)]
      (refine .inr ⟨by simp, ?_⟩); (conv => whnf)
      exact ⟨.inl rfl, _, .refl _, rfl⟩
    have he := he.trans (if_neg (by simp [h5]))
    (conv => whnf); (try (refine ⟨(rfl : (_ : Heap) = _), ?_⟩; (conv => whnf)))
    (repeat (first | (refine ⟨fun _ => ?_, fun h => absurd h (by decide)⟩; (conv => whnf); (try (refine ⟨(rfl : (_ : Heap) = _), ?_⟩; (conv => whnf)))) | (refine ⟨fun h => absurd h (by decide), fun _ => ?_⟩; (conv => whnf); (try (refine ⟨(rfl : (_ : Heap) = _), ?_⟩; (conv => whnf))))))
    (refine ⟨.inr rfl, ?_⟩); (conv => whnf); (try (refine ⟨(rfl : (_ : Heap) = _), ?_⟩; (conv => whnf))); (refine ⟨by omega, Nat.zero_le _, by rw [m1]; omega, ?_⟩); (conv => whnf); (try (refine ⟨(rfl : (_ : Heap) = _), ?_⟩; (conv => whnf))); (rw [List.drop_zero, Nat.sub_zero, toNat_cast, ← List.map_take])
    rw [m2]
    refine Loops.seq k (fun j => [Cf c, .ref 0 [] 3 0 0, I 0, I 0, I k, .ref 1 [] 4 0 0, .junk, .junk, .junk, .junk, lO c.routes, I c.routes.length, I k, .junk, .junk, .junk, .junk, .junk, .junk, .junk, .junk, .junk, .junk, .junk, .junk, .junk, .junk, .junk, .junk, .junk, .junk, .junk, .junk, .junk, .junk, .junk, .junk, .junk, .junk, .junk, .junk, .junk, .junk, .junk, .junk, .junk, .junk, .junk, .junk, .junk, .junk, .junk, lO (c.routes.take k), I k, I j, .junk, .junk, .junk, .junk, .junk, .junk, .junk, .junk, .junk, .junk]) (fun j => [⟨1, 109, 3, [encF c], 0⟩, ⟨1, 70, 4, [[Tx r.listen, Tx r.host, Tx r.path, Tx []]], 0⟩]) (fun j => ∀ i, (h : i < c.routes.length) → i < j → sameR c.routes[i] r = false) ?_ (by simp) (fun j hj hrj => ?_) (fun hrj => ?_)
    · exact Weak.cov (by (conv => whnf); (repeat (refine ⟨rfl, ?_⟩; (conv => whnf))); exact trivial)
    · obtain ⟨q, hq⟩ : ∃ q, q = c.routes[j] := ⟨_, rfl⟩
      have hgq : ((c.routes.take k).map encO)[j]? = some (encO q) := by rw [List.getElem?_map, List.getElem?_eq_getElem (by omega), hq, List.getElem_take]; rfl
      conv => whnf
      (refine ⟨fun _ => ?_, fun h => absurd h (by simp; omega)⟩); (conv => whnf); (try (refine ⟨(rfl : (_ : Heap) = _), ?_⟩; (conv => whnf)))
      (refine ⟨by omega, _, by rw [toNat_cast]; exact hgq, ?_⟩); (conv => whnf); (try (refine ⟨(rfl : (_ : Heap) = _), ?_⟩; (conv => whnf)))
      refine ⟨by kernel_rfl, ?_⟩
      (conv => whnf); (try (refine ⟨(rfl : (_ : Heap) = _), ?_⟩; (conv => whnf)))
      refine ⟨fun h6 => ?_, fun h6 => ?_⟩
      · have h6 : sameR q r = true := by simp at h6; simp [sameR, h6]
        have ha : (c.routes.take k).any (fun q => sameR q r) = true := by
          rw [List.any_eq_true]
          exact ⟨q, by rw [hq, List.mem_iff_getElem]; exact ⟨j, by omega, List.getElem_take⟩, h6⟩
        (conv => whnf); (try (refine ⟨(rfl : (_ : Heap) = _), ?_⟩; (conv => whnf)))
        rw [firstE_at hk hr (by rw [he, if_pos ha]) (by decide)]
        (refine .inr ⟨by simp, ?_⟩); (conv => whnf)
        refine .inr ⟨by simp, ?_⟩
        conv => whnf
        exact ⟨.inl rfl, _, .refl _, rfl⟩
      · have h6 : sameR q r = false := by
          cases hs : sameR q r with
          | false => rfl
          | true => simp [sameR] at hs; simp [hs] at h6
        (conv => whnf); (try (refine ⟨(rfl : (_ : Heap) = _), ?_⟩; (conv => whnf)))
        refine .inl ⟨rfl, ?_, fun i hi hij => ?_⟩
        · rw [i64_nat (by omega)]
          exact Weak.covD 2 (by (conv => whnf); (repeat (refine ⟨rfl, ?_⟩; (conv => whnf))); exact trivial) rfl rfl rfl rfl rfl
        · by_cases e : i = j
          · subst e; rw [← hq]; exact h6
          · exact hrj i hi (by omega)
    · have ha : (c.routes.take k).any (fun q => sameR q r) = false := by
        rw [List.any_eq_false]
        intro q hq
        obtain ⟨i, hi, rfl⟩ := List.mem_iff_getElem.1 hq
        rw [List.getElem_take]
        simp [hrj i (by omega) (by omega)]
      have he := he.trans (if_neg (by simp [ha]))
      (conv => whnf); (refine ⟨fun h => absurd h (by simp), fun _ => ?_⟩); (conv => whnf); (try (refine ⟨(rfl : (_ : Heap) = _), ?_⟩; (conv => whnf))); (refine ⟨by simp, ?_⟩); (conv => whnf)
      refine .inl ⟨rfl, ?_, (fun j hj => by (by_cases e : j = k); (subst e; exact he); (exact hr j (by omega)))⟩
      rw [i64_nat (by omega)]
      exact Weak.covD 1 (by (conv => whnf); (repeat (refine ⟨rfl, ?_⟩; (conv => whnf))); exact trivial) rfl rfl rfl rfl rfl
  · rw [firstE_no hr]
    (conv => whnf); (refine ⟨fun h => absurd h (by simp), fun _ => ?_⟩); (conv => whnf); (try (refine ⟨(rfl : (_ : Heap) = _), ?_⟩; (conv => whnf))); (refine ⟨by simp, ?_⟩); (conv => whnf)
    exact ⟨.inl rfl, _, .refl _, rfl⟩

theorem check_sound (c : Cfg) (hc : SmallC c) : SoundAt Tryz.prog 34 [] [Cf c] (t2 (checkV c)) [] := by
  refine SoundAt.of_wpA1 (fn := Tryz.f34) Tryz.func34 rfl ?_
  conv => whnf
  refine .ofN 5 (.step ?_)
  conv => whnf
  (refine ⟨fun _ => ?_, fun h => absurd (h.symm.trans rfl : false = true) (by decide)⟩); (conv => whnf); (try (refine ⟨(rfl : (_ : Heap) = _), ?_⟩; (conv => whnf)))
  refine ⟨by decide, _, rfl, ?_⟩
  (conv => whnf); (try (refine ⟨(rfl : (_ : Heap) = _), ?_⟩; (conv => whnf)))
  refine ⟨_, _, (size_sound c hc).frame rfl _, ?_⟩; (conv => whnf); (try (refine ⟨(rfl : (_ : Heap) = _), ?_⟩; (conv => whnf)))
  refine ⟨fun h1 => ?_, fun h1 => ?_⟩
  · have e : checkV c = sizeE c := by unfold checkV; rw [if_pos (by simpa using h1)]
    rw [e]
    (conv => whnf); (try (refine ⟨(rfl : (_ : Heap) = _), ?_⟩; (conv => whnf)))
    (refine .inr ⟨by simp, ?_⟩); (conv => whnf)
    exact ⟨.inl rfl, _, .refl _, rfl⟩
  have h1 : (sizeE c).1 = 0 := by simpa using h1
  (conv => whnf); (try (refine ⟨(rfl : (_ : Heap) = _), ?_⟩; (conv => whnf)))
  refine .inl ⟨rfl, .step ?_⟩
  conv => whnf
  (refine ⟨fun _ => ?_, fun h => absurd (h.symm.trans rfl : false = true) (by decide)⟩); (conv => whnf); (try (refine ⟨(rfl : (_ : Heap) = _), ?_⟩; (conv => whnf)))
  refine ⟨by decide, _, rfl, ?_⟩
  (conv => whnf); (try (refine ⟨(rfl : (_ : Heap) = _), ?_⟩; (conv => whnf)))
  refine ⟨_, _, (listens_sound c hc).frame rfl _, ?_⟩; (conv => whnf); (try (refine ⟨(rfl : (_ : Heap) = _), ?_⟩; (conv => whnf)))
  refine ⟨fun h2 => ?_, fun h2 => ?_⟩
  · have e : checkV c = firstE (lisE c.listens) c.listens.length := by unfold checkV; rw [if_neg (by simp [h1]), if_pos (by simpa using h2)]
    rw [e]
    (conv => whnf); (try (refine ⟨(rfl : (_ : Heap) = _), ?_⟩; (conv => whnf)))
    (refine .inr ⟨by simp, ?_⟩); (conv => whnf)
    exact ⟨.inl rfl, _, .refl _, rfl⟩
  have h2 : (firstE (lisE c.listens) c.listens.length).1 = 0 := by simpa using h2
  (conv => whnf); (try (refine ⟨(rfl : (_ : Heap) = _), ?_⟩; (conv => whnf)))
  refine .inl ⟨rfl, .step ?_⟩
  conv => whnf
  (refine ⟨fun _ => ?_, fun h => absurd (h.symm.trans rfl : false = true) (by decide)⟩); (conv => whnf); (try (refine ⟨(rfl : (_ : Heap) = _), ?_⟩; (conv => whnf)))
  refine ⟨by decide, _, rfl, ?_⟩
  (conv => whnf); (try (refine ⟨(rfl : (_ : Heap) = _), ?_⟩; (conv => whnf)))
  refine ⟨_, _, (clusters_sound c hc).frame rfl _, ?_⟩; (conv => whnf); (try (refine ⟨(rfl : (_ : Heap) = _), ?_⟩; (conv => whnf)))
  refine ⟨fun h3 => ?_, fun h3 => ?_⟩
  · have e : checkV c = firstE (cluE c.clusters) c.clusters.length := by unfold checkV; rw [if_neg (by simp [h1]), if_neg (by simp [h2]), if_pos (by simpa using h3)]
    rw [e]
    (conv => whnf); (try (refine ⟨(rfl : (_ : Heap) = _), ?_⟩; (conv => whnf)))
    (refine .inr ⟨by simp, ?_⟩); (conv => whnf)
    exact ⟨.inl rfl, _, .refl _, rfl⟩
  have h3 : (firstE (cluE c.clusters) c.clusters.length).1 = 0 := by simpa using h3
  (conv => whnf); (try (refine ⟨(rfl : (_ : Heap) = _), ?_⟩; (conv => whnf)))
  refine .inl ⟨rfl, .step ?_⟩
  conv => whnf
  (refine ⟨fun _ => ?_, fun h => absurd (h.symm.trans rfl : false = true) (by decide)⟩); (conv => whnf); (try (refine ⟨(rfl : (_ : Heap) = _), ?_⟩; (conv => whnf)))
  refine ⟨by decide, _, rfl, ?_⟩
  (conv => whnf); (try (refine ⟨(rfl : (_ : Heap) = _), ?_⟩; (conv => whnf)))
  refine ⟨_, _, (routes_sound c hc).frame rfl _, ?_⟩; (conv => whnf); (try (refine ⟨(rfl : (_ : Heap) = _), ?_⟩; (conv => whnf)))
  refine ⟨fun h4 => ?_, fun h4 => ?_⟩
  · have e : checkV c = firstE (rouE c) c.routes.length := by unfold checkV; rw [if_neg (by simp [h1]), if_neg (by simp [h2]), if_neg (by simp [h3]), if_pos (by simpa using h4)]
    rw [e]
    (conv => whnf); (try (refine ⟨(rfl : (_ : Heap) = _), ?_⟩; (conv => whnf)))
    (refine .inr ⟨by simp, ?_⟩); (conv => whnf)
    exact ⟨.inl rfl, _, .refl _, rfl⟩
  have h4 : (firstE (rouE c) c.routes.length).1 = 0 := by simpa using h4
  (conv => whnf); (try (refine ⟨(rfl : (_ : Heap) = _), ?_⟩; (conv => whnf)))
  refine .inl ⟨rfl, .step ?_⟩
  conv => whnf
  (refine ⟨fun h => absurd (h.symm.trans rfl : true = false) (by decide), fun _ => ?_⟩); (conv => whnf); (try (refine ⟨(rfl : (_ : Heap) = _), ?_⟩; (conv => whnf)))
  (refine .inr ⟨by simp, ?_⟩); (conv => whnf)
  have e : checkV c = (0, 0) := by unfold checkV; rw [if_neg (by simp [h1]), if_neg (by simp [h2]), if_neg (by simp [h3]), if_neg (by simp [h4])]
  rw [e]
  exact ⟨.inl rfl, _, .refl _, rfl⟩
end Go.Con

/- Layer 5 (config): the reference, walked. -/
namespace Go.Con
open Go.Ab Go.Proofs Go.Hy Go.Gat Go.Nam Go.Hos
set_option linter.unusedVariables false
set_option linter.unusedSimpArgs false
set_option maxRecDepth 8000
set_option maxHeartbeats 2000000

def idxN (l : List Clu) (s : Str) : Int := match l.findIdx? (fun x => x.name == s) with | some i => (i : Int) | none => -1
theorem rlisten_sound (l : List Str) (s : Str) (hl : l.length < 4611686018427387904) : SoundAt Tryz.prog 42 [] [lT l, Tx s] (I (idxT l s)) [] := by
  have hlm : (l.map encT).length = l.length := List.length_map ..
  refine SoundAt.of_wpA1 (fn := Tryz.f42) Tryz.func42 rfl ?_
  conv => whnf
  refine Loops.seq l.length (fun k => [lT l, Tx s, .junk, .junk, I 0, I k, .junk, .junk, .junk, .junk, .junk, .junk, .junk, .junk, .junk, .junk, .junk, .junk, .junk]) (fun k => []) (fun k => ∀ j, (h : j < l.length) → j < k → (l[j] == s) = false) ?_ (by simp) (fun k hk hr => ?_) (fun hr => ?_)
  · exact Weak.cov (by (conv => whnf); (repeat (refine ⟨rfl, ?_⟩; (conv => whnf))); exact trivial)
  · have hg : (l.map encT)[k]? = some (encT l[k]) := by rw [List.getElem?_map, List.getElem?_eq_getElem hk]; rfl
    conv => whnf
    rw [hlm]
    refine ⟨fun _ => ?_, fun h => absurd h (by simp; omega)⟩
    (conv => whnf); (try (refine ⟨(rfl : (_ : Heap) = _), ?_⟩; (conv => whnf)))
    refine ⟨by omega, _, by rw [toNat_cast]; exact hg, ?_⟩
    (conv => whnf); (try (refine ⟨(rfl : (_ : Heap) = _), ?_⟩; (conv => whnf)))
    refine ⟨fun h2 => ?_, fun h2 => ?_⟩
    · (conv => whnf); (try (refine ⟨(rfl : (_ : Heap) = _), ?_⟩; (conv => whnf)))
      refine .inr ⟨by simp, ?_⟩
      conv => whnf
      have e : idxT l s = k := by
        unfold idxT
        have : l.findIdx? (fun x => x == s) = some k := by
          rw [List.findIdx?_eq_some_iff_getElem]
          exact ⟨hk, h2, fun j hj => by simp only [hr j (by omega) hj]; decide⟩
        rw [this]
      rw [e]
      exact ⟨.inl rfl, _, .refl _, rfl⟩
    · (conv => whnf); (try (refine ⟨(rfl : (_ : Heap) = _), ?_⟩; (conv => whnf)))
      refine .inl ⟨rfl, ?_, fun j hj hjk => ?_⟩
      · rw [i64_nat (by omega)]
        exact Weak.covD 0 (by (conv => whnf); (repeat (refine ⟨rfl, ?_⟩; (conv => whnf))); exact trivial) rfl rfl rfl rfl rfl
      · by_cases e : j = k
        · subst e; exact h2
        · exact hr j hj (by omega)
  · conv => whnf
    rw [hlm]
    refine ⟨fun h => absurd h (by simp), fun _ => ?_⟩
    (conv => whnf); (try (refine ⟨(rfl : (_ : Heap) = _), ?_⟩; (conv => whnf)))
    refine ⟨by simp, ?_⟩
    conv => whnf
    have e : idxT l s = -1 := by
      unfold idxT
      have : l.findIdx? (fun x => x == s) = none := by
        rw [List.findIdx?_eq_none_iff]
        intro x hx
        obtain ⟨j, hj, rfl⟩ := List.mem_iff_getElem.1 hx
        exact hr j hj hj
      rw [this]
    rw [e]
    exact ⟨.inl rfl, _, .refl _, rfl⟩
theorem rcluster_sound (l : List Clu) (s : Str) (hl : l.length < 4611686018427387904) : SoundAt Tryz.prog 43 [] [lC l, Tx s] (I (idxN l s)) [] := by
  have hlm : (l.map encC).length = l.length := List.length_map ..
  refine SoundAt.of_wpA1 (fn := Tryz.f43) Tryz.func43 rfl ?_
  conv => whnf
  refine Loops.seq l.length (fun k => [lC l, Tx s, .junk, .junk, I 0, I k, .junk, .junk, .junk, .junk, .junk, .junk, .junk, .junk, .junk, .junk, .junk, .junk, .junk, .junk]) (fun k => []) (fun k => ∀ j, (h : j < l.length) → j < k → (l[j].name == s) = false) ?_ (by simp) (fun k hk hr => ?_) (fun hr => ?_)
  · exact Weak.cov (by (conv => whnf); (repeat (refine ⟨rfl, ?_⟩; (conv => whnf))); exact trivial)
  · have hg : (l.map encC)[k]? = some (encC l[k]) := by rw [List.getElem?_map, List.getElem?_eq_getElem hk]; rfl
    conv => whnf
    rw [hlm]
    refine ⟨fun _ => ?_, fun h => absurd h (by simp; omega)⟩
    (conv => whnf); (try (refine ⟨(rfl : (_ : Heap) = _), ?_⟩; (conv => whnf)))
    refine ⟨by omega, _, by rw [toNat_cast]; exact hg, ?_⟩
    (conv => whnf); (try (refine ⟨(rfl : (_ : Heap) = _), ?_⟩; (conv => whnf)))
    refine ⟨fun h2 => ?_, fun h2 => ?_⟩
    · (conv => whnf); (try (refine ⟨(rfl : (_ : Heap) = _), ?_⟩; (conv => whnf)))
      refine .inr ⟨by simp, ?_⟩
      conv => whnf
      have e : idxN l s = k := by
        unfold idxN
        have : l.findIdx? (fun x => x.name == s) = some k := by
          rw [List.findIdx?_eq_some_iff_getElem]
          exact ⟨hk, h2, fun j hj => by simp only [hr j (by omega) hj]; decide⟩
        rw [this]
      rw [e]
      exact ⟨.inl rfl, _, .refl _, rfl⟩
    · (conv => whnf); (try (refine ⟨(rfl : (_ : Heap) = _), ?_⟩; (conv => whnf)))
      refine .inl ⟨rfl, ?_, fun j hj hjk => ?_⟩
      · rw [i64_nat (by omega)]
        exact Weak.covD 0 (by (conv => whnf); (repeat (refine ⟨rfl, ?_⟩; (conv => whnf))); exact trivial) rfl rfl rfl rfl rfl
      · by_cases e : j = k
        · subst e; exact h2
        · exact hr j hj (by omega)
  · conv => whnf
    rw [hlm]
    refine ⟨fun h => absurd h (by simp), fun _ => ?_⟩
    (conv => whnf); (try (refine ⟨(rfl : (_ : Heap) = _), ?_⟩; (conv => whnf)))
    refine ⟨by simp, ?_⟩
    conv => whnf
    have e : idxN l s = -1 := by
      unfold idxN
      have : l.findIdx? (fun x => x.name == s) = none := by
        rw [List.findIdx?_eq_none_iff]
        intro x hx
        obtain ⟨j, hj, rfl⟩ := List.mem_iff_getElem.1 hx
        exact hr j hj hj
      rw [this]
    rw [e]
    exact ⟨.inl rfl, _, .refl _, rfl⟩
theorem idxT_lt (l : List Str) (s : Str) : decide (idxT l s < 0) = !(l.any fun x => x == s) := by
  rw [← idxT_any]
  by_cases h : 0 ≤ idxT l s
  · simp [h]
  · simp only [ge_iff_le, h, decide_false, Bool.not_false, decide_eq_true_eq]; omega
theorem idxN_lt (l : List Clu) (s : Str) : decide (idxN l s < 0) = !(namedV l s) := by
  have e : decide (idxN l s ≥ 0) = namedV l s := idx_any l _
  rw [← e]
  by_cases h : 0 ≤ idxN l s
  · simp [h]
  · simp only [ge_iff_le, h, decide_false, Bool.not_false, decide_eq_true_eq]; omega

theorem rlistens_sound (c : Cfg) (hc : SmallC c) : SoundAt Tryz.prog 59 [] [Cf c] (t2 (firstE (lisE c.listens) c.listens.length)) [] := by
  have m1 : (c.listens.map encT).length = c.listens.length := List.length_map ..
  have hl := hc.listens.1
  refine SoundAt.of_wpA1 (fn := Tryz.f59) Tryz.func59 rfl ?_
  conv => whnf
  refine Loops.seq c.listens.length (fun k => [Cf c, .ref 0 [] 3 0 0, I 0, I 0, I k, .junk, .junk, .junk, .junk, .junk, .junk, .junk, .junk, .junk, .junk, .junk, .junk, .junk, .junk, .junk, .junk, .junk, .junk, .junk, .junk, .junk, .junk, .junk, .junk, .junk, .junk, .junk, .junk, .junk, .junk, .junk, .junk, .junk]) (fun k => [⟨1, 26, 3, [encF c], 0⟩]) (fun k => ∀ j, j < k → lisE c.listens j = 0) ?_ (by simp) (fun k hk hr => ?_) (fun hr => ?_)
  · exact Weak.cov (by (conv => whnf); (repeat (refine ⟨rfl, ?_⟩; (conv => whnf))); exact trivial)
  · have hg : (c.listens.map encT)[k]? = some (encT c.listens[k]) := by rw [List.getElem?_map, List.getElem?_eq_getElem hk]; rfl
    have hs := hc.listens.2 _ (List.getElem_mem hk)
    have he : lisE c.listens k = if nameV c.listens[k] = false then 3 else if (c.listens.take k).any (fun x => x == c.listens[k]) then 4 else 0 := by
      unfold lisE; rw [List.getElem?_eq_getElem hk]
    conv => whnf
    (refine ⟨fun _ => ?_, fun h => absurd h (by rw [m1]; simp; omega)⟩); (conv => whnf); (try (refine ⟨(rfl : (_ : Heap) = _), ?_⟩; (conv => whnf)))
    (refine ⟨by omega, _, by rw [toNat_cast]; exact hg, ?_⟩); (conv => whnf); (try (refine ⟨(rfl : (_ : Heap) = _), ?_⟩; (conv => whnf)))
    refine ⟨_, _, (rname_sound c.listens[k] (by omega)).frame rfl _, ?_⟩; (conv => whnf); (try (refine ⟨(rfl : (_ : Heap) = _), ?_⟩; (conv => whnf)))
    refine ⟨fun h2 => ?_, fun h2 => ?_⟩
    · have he := he.trans (if_neg (by simp [h2]))
      (conv => whnf); (try (refine ⟨(rfl : (_ : Heap) = _), ?_⟩; (conv => whnf)))
      (repeat (first | (refine ⟨fun _ => ?_, fun h => absurd h (by decide)⟩; (conv => whnf); (try (refine ⟨(rfl : (_ : Heap) = _), ?_⟩; (conv => whnf)))) | (refine ⟨fun h => absurd h (by decide), fun _ => ?_⟩; (conv => whnf); (try (refine ⟨(rfl : (_ : Heap) = _), ?_⟩; (conv => whnf))))))
      refine Loops.seq k (fun j => [Cf c, .ref 0 [] 3 0 0, I 0, I 0, I k, I j, .junk, .junk, .junk, .junk, .junk, .junk, .junk, .junk, .junk, .junk, .junk, .junk, .junk, .junk, .junk, .junk, .junk, .junk, .junk, .junk, .junk, .junk, .junk, .junk, .junk, .junk, .junk, .junk, .junk, .junk, .junk, .junk]) (fun j => [⟨1, 26, 3, [encF c], 0⟩]) (fun j => ∀ i, (h : i < c.listens.length) → i < j → (c.listens[i] == c.listens[k]) = false) ?_ (by simp) (fun j hj hrj => ?_) (fun hrj => ?_)
      · exact Weak.cov (by (conv => whnf); (repeat (refine ⟨rfl, ?_⟩; (conv => whnf))); exact trivial)
      · have hgj : (c.listens.map encT)[j]? = some (encT (c.listens[j]'(by omega))) := by rw [List.getElem?_map, List.getElem?_eq_getElem (by omega)]; rfl
        conv => whnf
        (refine ⟨fun _ => ?_, fun h => absurd h (by simp; omega)⟩); (conv => whnf); (try (refine ⟨(rfl : (_ : Heap) = _), ?_⟩; (conv => whnf)))
        refine ⟨⟨false, [], [], []⟩, by kernel_rfl, ?_⟩; (conv => whnf)
        (refine ⟨by omega, _, by rw [toNat_cast]; exact hgj, ?_⟩); (conv => whnf); (try (refine ⟨(rfl : (_ : Heap) = _), ?_⟩; (conv => whnf)))
        (refine ⟨by omega, _, by rw [toNat_cast]; exact hg, ?_⟩); (conv => whnf); (try (refine ⟨(rfl : (_ : Heap) = _), ?_⟩; (conv => whnf)))
        refine ⟨fun h6 => ?_, fun h6 => ?_⟩
        · have ha : (c.listens.take k).any (fun x => x == c.listens[k]) = true := by
            rw [List.any_eq_true]
            exact ⟨_, List.mem_iff_getElem.2 ⟨j, by simp; omega, List.getElem_take⟩, h6⟩
          (conv => whnf); (try (refine ⟨(rfl : (_ : Heap) = _), ?_⟩; (conv => whnf)))
          rw [firstE_at hk hr (by rw [he, if_pos ha]) (by decide)]
          (refine .inr ⟨by simp, ?_⟩); (conv => whnf)
          refine .inr ⟨by simp, ?_⟩
          conv => whnf
          exact ⟨.inl rfl, _, .refl _, rfl⟩
        · (conv => whnf); (try (refine ⟨(rfl : (_ : Heap) = _), ?_⟩; (conv => whnf)))
          refine .inl ⟨rfl, ?_, fun i hi hij => ?_⟩
          · rw [i64_nat (by omega)]
            exact Weak.covD 1 (by (conv => whnf); (repeat (refine ⟨rfl, ?_⟩; (conv => whnf))); exact trivial) rfl rfl rfl rfl rfl
          · by_cases e : i = j
            · subst e; exact h6
            · exact hrj i hi (by omega)
      · have ha : (c.listens.take k).any (fun x => x == c.listens[k]) = false := by
          rw [List.any_eq_false]
          intro q hq
          obtain ⟨i, hi, rfl⟩ := List.mem_iff_getElem.1 hq
          rw [List.getElem_take]
          have hi' : i < k := by simp at hi; omega
          simp only [hrj i (by omega) hi']; decide
        have he := he.trans (if_neg (by simp [ha]))
        (conv => whnf); (refine ⟨fun h => absurd h (by simp), fun _ => ?_⟩); (conv => whnf); (try (refine ⟨(rfl : (_ : Heap) = _), ?_⟩; (conv => whnf))); (refine ⟨by simp, ?_⟩); (conv => whnf)
        refine .inl ⟨rfl, ?_, (fun j hj => by (by_cases e : j = k); (subst e; exact he); (exact hr j (by omega)))⟩
        rw [i64_nat (by omega)]
        exact Weak.covD 1 (by (conv => whnf); (repeat (refine ⟨rfl, ?_⟩; (conv => whnf))); exact trivial) rfl rfl rfl rfl rfl
    · (conv => whnf); (try (refine ⟨(rfl : (_ : Heap) = _), ?_⟩; (conv => whnf)))
      (repeat (first | (refine ⟨fun _ => ?_, fun h => absurd h (by decide)⟩; (conv => whnf); (try (refine ⟨(rfl : (_ : Heap) = _), ?_⟩; (conv => whnf)))) | (refine ⟨fun h => absurd h (by decide), fun _ => ?_⟩; (conv => whnf); (try (refine ⟨(rfl : (_ : Heap) = _), ?_⟩; (conv => whnf))))))
      rw [firstE_at hk hr (by rw [he, if_pos h2]) (by decide)]
      (refine .inr ⟨by simp, ?_⟩); (conv => whnf)
      exact ⟨.inl rfl, _, .refl _, rfl⟩
  · rw [firstE_no hr]
    (conv => whnf); (refine ⟨fun h => absurd h (by rw [m1]; simp), fun _ => ?_⟩); (conv => whnf); (try (refine ⟨(rfl : (_ : Heap) = _), ?_⟩; (conv => whnf))); (refine ⟨by simp, ?_⟩); (conv => whnf)
    exact ⟨.inl rfl, _, .refl _, rfl⟩

theorem rclusters_sound (c : Cfg) (hc : SmallC c) : SoundAt Tryz.prog 60 [] [Cf c] (t2 (firstE (cluE c.clusters) c.clusters.length)) [] := by
  have m1 : (c.clusters.map encC).length = c.clusters.length := List.length_map ..
  have hl := hc.clusters.1
  refine SoundAt.of_wpA1 (fn := Tryz.f60) Tryz.func60 rfl ?_
  conv => whnf
  refine Loops.seq c.clusters.length (fun k => [Cf c, .ref 0 [] 3 0 0, I 0, I 0, I k, .junk, .junk, .junk, .junk, .junk, .junk, .junk, .junk, .junk, .junk, .junk, .junk, .junk, .junk, .junk, .junk, .junk, .junk, .junk, .junk, .junk, .junk, .junk, .junk, .junk, .junk, .junk, .junk, .junk, .junk, .junk, .junk, .junk, .junk, .junk, .junk, .junk, .junk, .junk, .junk, .junk, .junk, .junk, .junk, .junk, .junk, .junk, .junk, .junk, .junk, .junk, .junk, .junk, .junk, .junk, .junk, .junk, .junk, .junk, .junk, .junk, .junk, .junk]) (fun k => [⟨1, 26, 3, [encF c], 0⟩]) (fun k => ∀ j, j < k → cluE c.clusters j = 0) ?_ (by simp) (fun k hk hr => ?_) (fun hr => ?_)
  · exact Weak.cov (by (conv => whnf); (repeat (refine ⟨rfl, ?_⟩; (conv => whnf))); exact trivial)
  · obtain ⟨x, hx⟩ : ∃ x, x = c.clusters[k] := ⟨_, rfl⟩
    have hg : (c.clusters.map encC)[k]? = some (encC x) := by rw [List.getElem?_map, List.getElem?_eq_getElem hk, hx]; rfl
    have hs := hc.clusters.2 x (by rw [hx]; exact List.getElem_mem hk)
    have he : cluE c.clusters k = if nameV x.name = false then 3 else if namedV (c.clusters.take k) x.name then 4 else if x.policy ≠ 1 ∧ x.policy ≠ 2 then 9 else if (decide (1 ≤ x.slots) && decide (x.slots ≤ 4)) = false then 10
        else if (decide (1 ≤ (x.health.length : Int)) && decide ((x.health.length : Int) ≤ 4)) = false then 6 else 0 := by
      unfold cluE; rw [List.getElem?_eq_getElem hk, hx]
    have mh : (x.health.map encB).length = x.health.length := List.length_map ..
    conv => whnf
    (refine ⟨fun _ => ?_, fun h => absurd h (by rw [m1]; simp; omega)⟩); (conv => whnf); (try (refine ⟨(rfl : (_ : Heap) = _), ?_⟩; (conv => whnf)))
    (refine ⟨by omega, _, by rw [toNat_cast]; exact hg, ?_⟩); (conv => whnf); (try (refine ⟨(rfl : (_ : Heap) = _), ?_⟩; (conv => whnf)))
    refine ⟨_, _, (rname_sound x.name (by omega)).frame rfl _, ?_⟩; (conv => whnf); (try (refine ⟨(rfl : (_ : Heap) = _), ?_⟩; (conv => whnf)))
    refine ⟨fun h2 => ?_, fun h2 => ?_⟩
    rotate_left
    · (conv => whnf); (try (refine ⟨(rfl : (_ : Heap) = _), ?_⟩; (conv => whnf)))
      (repeat (first | (refine ⟨fun _ => ?_, fun h => absurd h (by decide)⟩; (conv => whnf); (try (refine ⟨(rfl : (_ : Heap) = _), ?_⟩; (conv => whnf)))) | (refine ⟨fun h => absurd h (by decide), fun _ => ?_⟩; (conv => whnf); (try (refine ⟨(rfl : (_ : Heap) = _), ?_⟩; (conv => whnf))))))
      (rw [firstE_at hk hr (by rw [he, if_pos h2]) (by decide)]); (refine .inr ⟨by simp, ?_⟩); (conv => whnf); (try (refine .inr ⟨by simp, ?_⟩; (conv => whnf))); exact ⟨.inl rfl, _, .refl _, rfl⟩
    have he := he.trans (if_neg (by simp [h2]))
    (conv => whnf); (try (refine ⟨(rfl : (_ : Heap) = _), ?_⟩; (conv => whnf)))
    (repeat (first | (refine ⟨fun _ => ?_, fun h => absurd h (by decide)⟩; (conv => whnf); (try (refine ⟨(rfl : (_ : Heap) = _), ?_⟩; (conv => whnf)))) | (refine ⟨fun h => absurd h (by decide), fun _ => ?_⟩; (conv => whnf); (try (refine ⟨(rfl : (_ : Heap) = _), ?_⟩; (conv => whnf))))))
    refine Loops.seq k (fun j => [Cf c, .ref 0 [] 3 0 0, I 0, I 0, I k, .ref 1 [] 4 0 0, I j, .junk, .junk, .junk, .junk, .junk, .junk, .junk, .junk, .junk, .junk, .junk, .junk, .junk, .junk, .junk, .junk, .junk, .junk, .junk, .junk, .junk, .junk, .junk, .junk, .junk, .junk, .junk, .junk, .junk, .junk, .junk, .junk, .junk, .junk, .junk, .junk, .junk, .junk, .junk, .junk, .junk, .junk, .junk, .junk, .junk, .junk, .junk, .junk, .junk, .junk, .junk, .junk, .junk, .junk, .junk, .junk, .junk, .junk, .junk, .junk, .junk]) (fun j => [⟨1, 26, 3, [encF c], 0⟩, ⟨1, 68, 4, [encC x], 0⟩]) (fun j => ∀ i, (h : i < c.clusters.length) → i < j → (c.clusters[i].name == x.name) = false) ?_ (by simp) (fun j hj hrj => ?_) (fun hrj => ?_)
    · exact Weak.cov (by (conv => whnf); (repeat (refine ⟨rfl, ?_⟩; (conv => whnf))); exact trivial)
    · have hgj : (c.clusters.map encC)[j]? = some (encC (c.clusters[j]'(by omega))) := by rw [List.getElem?_map, List.getElem?_eq_getElem (by omega)]; rfl
      conv => whnf
      (refine ⟨fun _ => ?_, fun h => absurd h (by simp; omega)⟩); (conv => whnf); (try (refine ⟨(rfl : (_ : Heap) = _), ?_⟩; (conv => whnf)))
      refine ⟨⟨false, [], [], []⟩, by kernel_rfl, ?_⟩; (conv => whnf)
      (refine ⟨by omega, _, by rw [toNat_cast]; exact hgj, ?_⟩); (conv => whnf); (try (refine ⟨(rfl : (_ : Heap) = _), ?_⟩; (conv => whnf)))
      refine ⟨fun h6 => ?_, fun h6 => ?_⟩
      · have ha : namedV (c.clusters.take k) x.name = true := by
          unfold namedV
          rw [List.any_eq_true]
          exact ⟨_, List.mem_iff_getElem.2 ⟨j, by simp; omega, List.getElem_take⟩, h6⟩
        (conv => whnf); (try (refine ⟨(rfl : (_ : Heap) = _), ?_⟩; (conv => whnf)))
        (rw [firstE_at hk hr (by rw [he, if_pos ha]) (by decide)]); (refine .inr ⟨by simp, ?_⟩); (conv => whnf); (try (refine .inr ⟨by simp, ?_⟩; (conv => whnf))); exact ⟨.inl rfl, _, .refl _, rfl⟩
      · (conv => whnf); (try (refine ⟨(rfl : (_ : Heap) = _), ?_⟩; (conv => whnf)))
        refine .inl ⟨rfl, ?_, fun i hi hij => ?_⟩
        · rw [i64_nat (by omega)]
          exact Weak.covD 2 (by (conv => whnf); (repeat (refine ⟨rfl, ?_⟩; (conv => whnf))); exact trivial) rfl rfl rfl rfl rfl
        · by_cases e : i = j
          · subst e; exact h6
          · exact hrj i hi (by omega)
    · have ha : namedV (c.clusters.take k) x.name = false := by
        unfold namedV
        rw [List.any_eq_false]
        intro q hq
        obtain ⟨i, hi, rfl⟩ := List.mem_iff_getElem.1 hq
        rw [List.getElem_take]
        have hi' : i < k := by simp at hi; omega
        simp only [hrj i (by omega) hi']; decide
      have he := he.trans (if_neg (by simp [ha]))
      (conv => whnf); (refine ⟨fun h => absurd h (by simp), fun _ => ?_⟩); (conv => whnf); (try (refine ⟨(rfl : (_ : Heap) = _), ?_⟩; (conv => whnf))); (refine ⟨by simp, ?_⟩); (conv => whnf)
      refine ⟨fun h4 => ?_, fun h4 => ?_⟩
      · have h4 : x.policy ≠ 1 := by simpa using h4
        (conv => whnf); (try (refine ⟨(rfl : (_ : Heap) = _), ?_⟩; (conv => whnf)))
        refine ⟨fun h5 => ?_, fun h5 => ?_⟩
        · have h5 : x.policy ≠ 2 := by simpa using h5
          (conv => whnf); (try (refine ⟨(rfl : (_ : Heap) = _), ?_⟩; (conv => whnf)))
          (rw [firstE_at hk hr (by rw [he, if_pos ⟨h4, h5⟩]) (by decide)]); (refine .inr ⟨by simp, ?_⟩); (conv => whnf); (try (refine .inr ⟨by simp, ?_⟩; (conv => whnf))); exact ⟨.inl rfl, _, .refl _, rfl⟩
        · have h5 : x.policy = 2 := by simpa using h5
          have he := he.trans (if_neg (fun h => h.2 h5))
          (conv => whnf); (try (refine ⟨(rfl : (_ : Heap) = _), ?_⟩; (conv => whnf)))
          (refine ⟨fun h6 => ?_, fun h6 => ?_⟩); (focus ((conv => whnf); (try (refine ⟨(rfl : (_ : Heap) = _), ?_⟩; (conv => whnf))); (try (repeat (first | (refine ⟨fun _ => ?_, fun h => absurd h (by decide)⟩; (conv => whnf); (try (refine ⟨(rfl : (_ : Heap) = _), ?_⟩; (conv => whnf)))) | (refine ⟨fun h => absurd h (by decide), fun _ => ?_⟩; (conv => whnf); (try (refine ⟨(rfl : (_ : Heap) = _), ?_⟩; (conv => whnf))))))); (rw [firstE_at hk hr (by rw [he, if_pos (by simp at h6 ⊢; omega)]) (by decide)]); (refine .inr ⟨by simp, ?_⟩); (conv => whnf); (try (refine .inr ⟨by simp, ?_⟩; (conv => whnf))); exact ⟨.inl rfl, _, .refl _, rfl⟩)); (conv => whnf); (try (refine ⟨(rfl : (_ : Heap) = _), ?_⟩; (conv => whnf))); (refine ⟨fun h7 => ?_, fun h7 => ?_⟩); (focus ((conv => whnf); (try (refine ⟨(rfl : (_ : Heap) = _), ?_⟩; (conv => whnf))); (try (repeat (first | (refine ⟨fun _ => ?_, fun h => absurd h (by decide)⟩; (conv => whnf); (try (refine ⟨(rfl : (_ : Heap) = _), ?_⟩; (conv => whnf)))) | (refine ⟨fun h => absurd h (by decide), fun _ => ?_⟩; (conv => whnf); (try (refine ⟨(rfl : (_ : Heap) = _), ?_⟩; (conv => whnf))))))); (rw [firstE_at hk hr (by rw [he, if_pos (by simp at h6 h7 ⊢; omega)]) (by decide)]); (refine .inr ⟨by simp, ?_⟩); (conv => whnf); (try (refine .inr ⟨by simp, ?_⟩; (conv => whnf))); exact ⟨.inl rfl, _, .refl _, rfl⟩)); (have he := he.trans (if_neg (by simp at h6 h7 ⊢; omega))); (conv => whnf); (try (refine ⟨(rfl : (_ : Heap) = _), ?_⟩; (conv => whnf))); (rw [mh]); (refine ⟨fun h8 => ?_, fun h8 => ?_⟩); (focus ((conv => whnf); (try (refine ⟨(rfl : (_ : Heap) = _), ?_⟩; (conv => whnf))); (try (repeat (first | (refine ⟨fun _ => ?_, fun h => absurd h (by decide)⟩; (conv => whnf); (try (refine ⟨(rfl : (_ : Heap) = _), ?_⟩; (conv => whnf)))) | (refine ⟨fun h => absurd h (by decide), fun _ => ?_⟩; (conv => whnf); (try (refine ⟨(rfl : (_ : Heap) = _), ?_⟩; (conv => whnf))))))); (rw [firstE_at hk hr (by rw [he, if_pos (by simp at h8 ⊢; omega)]) (by decide)]); (refine .inr ⟨by simp, ?_⟩); (conv => whnf); (try (refine .inr ⟨by simp, ?_⟩; (conv => whnf))); exact ⟨.inl rfl, _, .refl _, rfl⟩)); (conv => whnf); (try (refine ⟨(rfl : (_ : Heap) = _), ?_⟩; (conv => whnf))); (rw [mh]); (refine ⟨fun h9 => ?_, fun h9 => ?_⟩); (focus ((conv => whnf); (try (refine ⟨(rfl : (_ : Heap) = _), ?_⟩; (conv => whnf))); (try (repeat (first | (refine ⟨fun _ => ?_, fun h => absurd h (by decide)⟩; (conv => whnf); (try (refine ⟨(rfl : (_ : Heap) = _), ?_⟩; (conv => whnf)))) | (refine ⟨fun h => absurd h (by decide), fun _ => ?_⟩; (conv => whnf); (try (refine ⟨(rfl : (_ : Heap) = _), ?_⟩; (conv => whnf))))))); (rw [firstE_at hk hr (by rw [he, if_pos (by simp at h8 h9 ⊢; omega)]) (by decide)]); (refine .inr ⟨by simp, ?_⟩); (conv => whnf); (try (refine .inr ⟨by simp, ?_⟩; (conv => whnf))); exact ⟨.inl rfl, _, .refl _, rfl⟩)); (have he := he.trans (if_neg (by simp at h8 h9 ⊢; omega))); (conv => whnf); (try (refine ⟨(rfl : (_ : Heap) = _), ?_⟩; (conv => whnf))); (try (repeat (first | (refine ⟨fun _ => ?_, fun h => absurd h (by decide)⟩; (conv => whnf); (try (refine ⟨(rfl : (_ : Heap) = _), ?_⟩; (conv => whnf)))) | (refine ⟨fun h => absurd h (by decide), fun _ => ?_⟩; (conv => whnf); (try (refine ⟨(rfl : (_ : Heap) = _), ?_⟩; (conv => whnf))))))); (refine .inl ⟨rfl, ?_, (fun j hj => by (by_cases e : j = k); (subst e; exact he); (exact hr j (by omega)))⟩); (rw [i64_nat (by omega)]); exact Weak.covD 1 (by (conv => whnf); (repeat (refine ⟨rfl, ?_⟩; (conv => whnf))); exact trivial) rfl rfl rfl rfl rfl
      · have h4 : x.policy = 1 := by simpa using h4
        have he := he.trans (if_neg (fun h => h.1 h4))
        (conv => whnf); (try (refine ⟨(rfl : (_ : Heap) = _), ?_⟩; (conv => whnf)))
        (refine ⟨fun h6 => ?_, fun h6 => ?_⟩); (focus ((conv => whnf); (try (refine ⟨(rfl : (_ : Heap) = _), ?_⟩; (conv => whnf))); (try (repeat (first | (refine ⟨fun _ => ?_, fun h => absurd h (by decide)⟩; (conv => whnf); (try (refine ⟨(rfl : (_ : Heap) = _), ?_⟩; (conv => whnf)))) | (refine ⟨fun h => absurd h (by decide), fun _ => ?_⟩; (conv => whnf); (try (refine ⟨(rfl : (_ : Heap) = _), ?_⟩; (conv => whnf))))))); (rw [firstE_at hk hr (by rw [he, if_pos (by simp at h6 ⊢; omega)]) (by decide)]); (refine .inr ⟨by simp, ?_⟩); (conv => whnf); (try (refine .inr ⟨by simp, ?_⟩; (conv => whnf))); exact ⟨.inl rfl, _, .refl _, rfl⟩)); (conv => whnf); (try (refine ⟨(rfl : (_ : Heap) = _), ?_⟩; (conv => whnf))); (refine ⟨fun h7 => ?_, fun h7 => ?_⟩); (focus ((conv => whnf); (try (refine ⟨(rfl : (_ : Heap) = _), ?_⟩; (conv => whnf))); (try (repeat (first | (refine ⟨fun _ => ?_, fun h => absurd h (by decide)⟩; (conv => whnf); (try (refine ⟨(rfl : (_ : Heap) = _), ?_⟩; (conv => whnf)))) | (refine ⟨fun h => absurd h (by decide), fun _ => ?_⟩; (conv => whnf); (try (refine ⟨(rfl : (_ : Heap) = _), ?_⟩; (conv => whnf))))))); (rw [firstE_at hk hr (by rw [he, if_pos (by simp at h6 h7 ⊢; omega)]) (by decide)]); (refine .inr ⟨by simp, ?_⟩); (conv => whnf); (try (refine .inr ⟨by simp, ?_⟩; (conv => whnf))); exact ⟨.inl rfl, _, .refl _, rfl⟩)); (have he := he.trans (if_neg (by simp at h6 h7 ⊢; omega))); (conv => whnf); (try (refine ⟨(rfl : (_ : Heap) = _), ?_⟩; (conv => whnf))); (rw [mh]); (refine ⟨fun h8 => ?_, fun h8 => ?_⟩); (focus ((conv => whnf); (try (refine ⟨(rfl : (_ : Heap) = _), ?_⟩; (conv => whnf))); (try (repeat (first | (refine ⟨fun _ => ?_, fun h => absurd h (by decide)⟩; (conv => whnf); (try (refine ⟨(rfl : (_ : Heap) = _), ?_⟩; (conv => whnf)))) | (refine ⟨fun h => absurd h (by decide), fun _ => ?_⟩; (conv => whnf); (try (refine ⟨(rfl : (_ : Heap) = _), ?_⟩; (conv => whnf))))))); (rw [firstE_at hk hr (by rw [he, if_pos (by simp at h8 ⊢; omega)]) (by decide)]); (refine .inr ⟨by simp, ?_⟩); (conv => whnf); (try (refine .inr ⟨by simp, ?_⟩; (conv => whnf))); exact ⟨.inl rfl, _, .refl _, rfl⟩)); (conv => whnf); (try (refine ⟨(rfl : (_ : Heap) = _), ?_⟩; (conv => whnf))); (rw [mh]); (refine ⟨fun h9 => ?_, fun h9 => ?_⟩); (focus ((conv => whnf); (try (refine ⟨(rfl : (_ : Heap) = _), ?_⟩; (conv => whnf))); (try (repeat (first | (refine ⟨fun _ => ?_, fun h => absurd h (by decide)⟩; (conv => whnf); (try (refine ⟨(rfl : (_ : Heap) = _), ?_⟩; (conv => whnf)))) | (refine ⟨fun h => absurd h (by decide), fun _ => ?_⟩; (conv => whnf); (try (refine ⟨(rfl : (_ : Heap) = _), ?_⟩; (conv => whnf))))))); (rw [firstE_at hk hr (by rw [he, if_pos (by simp at h8 h9 ⊢; omega)]) (by decide)]); (refine .inr ⟨by simp, ?_⟩); (conv => whnf); (try (refine .inr ⟨by simp, ?_⟩; (conv => whnf))); exact ⟨.inl rfl, _, .refl _, rfl⟩)); (have he := he.trans (if_neg (by simp at h8 h9 ⊢; omega))); (conv => whnf); (try (refine ⟨(rfl : (_ : Heap) = _), ?_⟩; (conv => whnf))); (try (repeat (first | (refine ⟨fun _ => ?_, fun h => absurd h (by decide)⟩; (conv => whnf); (try (refine ⟨(rfl : (_ : Heap) = _), ?_⟩; (conv => whnf)))) | (refine ⟨fun h => absurd h (by decide), fun _ => ?_⟩; (conv => whnf); (try (refine ⟨(rfl : (_ : Heap) = _), ?_⟩; (conv => whnf))))))); (refine .inl ⟨rfl, ?_, (fun j hj => by (by_cases e : j = k); (subst e; exact he); (exact hr j (by omega)))⟩); (rw [i64_nat (by omega)]); exact Weak.covD 1 (by (conv => whnf); (repeat (refine ⟨rfl, ?_⟩; (conv => whnf))); exact trivial) rfl rfl rfl rfl rfl
  · rw [firstE_no hr]
    (conv => whnf); (refine ⟨fun h => absurd h (by rw [m1]; simp), fun _ => ?_⟩); (conv => whnf); (try (refine ⟨(rfl : (_ : Heap) = _), ?_⟩; (conv => whnf))); (refine ⟨by simp, ?_⟩); (conv => whnf)
    exact ⟨.inl rfl, _, .refl _, rfl⟩

theorem rroutes_sound (c : Cfg) (hc : SmallC c) : SoundAt Tryz.prog 61 [] [Cf c] (t2 (firstE (rouE c) c.routes.length)) [] := by
  have m1 : (c.routes.map encO).length = c.routes.length := List.length_map ..
  have hl := hc.routes.1
  have hl1 := hc.listens.1
  have hl2 := hc.clusters.1
  refine SoundAt.of_wpA1 (fn := Tryz.f61) Tryz.func61 rfl ?_
  conv => whnf
  refine Loops.seq c.routes.length (fun k => [Cf c, .ref 0 [] 3 0 0, I 0, I 0, I k, .junk, .junk, .junk, .junk, .junk, .junk, .junk, .junk, .junk, .junk, .junk, .junk, .junk, .junk, .junk, .junk, .junk, .junk, .junk, .junk, .junk, .junk, .junk, .junk, .junk, .junk, .junk, .junk, .junk, .junk, .junk, .junk, .junk, .junk, .junk, .junk, .junk, .junk, .junk, .junk, .junk, .junk, .junk, .junk, .junk, .junk, .junk, .junk, .junk, .junk, .junk, .junk, .junk, .junk, .junk, .junk, .junk, .junk, .junk, .junk, .junk, .junk, .junk, .junk, .junk, .junk, .junk, .junk, .junk]) (fun k => [⟨1, 26, 3, [encF c], 0⟩]) (fun k => ∀ j, j < k → rouE c j = 0) ?_ (by simp) (fun k hk hr => ?_) (fun hr => ?_)
  · exact Weak.cov (by (conv => whnf); (repeat (refine ⟨rfl, ?_⟩; (conv => whnf))); exact trivial)
  · obtain ⟨r, hx⟩ : ∃ r, r = c.routes[k] := ⟨_, rfl⟩
    have hg : (c.routes.map encO)[k]? = some (encO r) := by rw [List.getElem?_map, List.getElem?_eq_getElem hk, hx]; rfl
    have hs := hc.routes.2 r (by rw [hx]; exact List.getElem_mem hk)
    have he : rouE c k = if c.listens.any (fun x => x == r.listen) = false then 5 else if patV r.host = false then 7 else if pathV r.path = false then 8 else if namedV c.clusters r.cluster = false then 5
        else if (c.routes.take k).any (fun q => sameR q r) then 4 else 0 := by
      unfold rouE; rw [List.getElem?_eq_getElem hk, hx]
    conv => whnf
    (refine ⟨fun _ => ?_, fun h => absurd h (by rw [m1]; simp; omega)⟩); (conv => whnf); (try (refine ⟨(rfl : (_ : Heap) = _), ?_⟩; (conv => whnf)))
    (refine ⟨by omega, _, by rw [toNat_cast]; exact hg, ?_⟩); (conv => whnf); (try (refine ⟨(rfl : (_ : Heap) = _), ?_⟩; (conv => whnf)))
    refine ⟨_, _, (rlisten_sound c.listens r.listen (by omega)).frame rfl _, ?_⟩; (conv => whnf); (try (refine ⟨(rfl : (_ : Heap) = _), ?_⟩; (conv => whnf)))
    rw [idxT_lt]
    refine ⟨fun h2 => ?_, fun h2 => ?_⟩
    · (focus ((conv => whnf); (try (refine ⟨(rfl : (_ : Heap) = _), ?_⟩; (conv => whnf))); (try (repeat (first | (refine ⟨fun _ => ?_, fun h => absurd h (by decide)⟩; (conv => whnf); (try (refine ⟨(rfl : (_ : Heap) = _), ?_⟩; (conv => whnf)))) | (refine ⟨fun h => absurd h (by decide), fun _ => ?_⟩; (conv => whnf); (try (refine ⟨(rfl : (_ : Heap) = _), ?_⟩; (conv => whnf))))))); (rw [firstE_at hk hr (by rw [he, if_pos (by simpa using h2)]) (by decide)]); (refine .inr ⟨by simp, ?_⟩); (conv => whnf); (try (refine .inr ⟨by simp, ?_⟩; (conv => whnf))); exact ⟨.inl rfl, _, .refl _, rfl⟩))
    have h2 : c.listens.any (fun x => x == r.listen) = true := by simpa using h2
    have he := he.trans (if_neg (by rw [h2]; decide))
    (conv => whnf); (try (refine ⟨(rfl : (_ : Heap) = _), ?_⟩; (conv => whnf)))
    refine ⟨_, _, (rpattern_sound r.host (by omega)).frame rfl _, ?_⟩; (conv => whnf); (try (refine ⟨(rfl : (_ : Heap) = _), ?_⟩; (conv => whnf)))
    refine ⟨fun h3 => ?_, fun h3 => ?_⟩
    rotate_left
    · (focus ((conv => whnf); (try (refine ⟨(rfl : (_ : Heap) = _), ?_⟩; (conv => whnf))); (try (repeat (first | (refine ⟨fun _ => ?_, fun h => absurd h (by decide)⟩; (conv => whnf); (try (refine ⟨(rfl : (_ : Heap) = _), ?_⟩; (conv => whnf)))) | (refine ⟨fun h => absurd h (by decide), fun _ => ?_⟩; (conv => whnf); (try (refine ⟨(rfl : (_ : Heap) = _), ?_⟩; (conv => whnf))))))); (rw [firstE_at hk hr (by rw [he, if_pos h3]) (by decide)]); (refine .inr ⟨by simp, ?_⟩); (conv => whnf); (try (refine .inr ⟨by simp, ?_⟩; (conv => whnf))); exact ⟨.inl rfl, _, .refl _, rfl⟩))
    have he := he.trans (if_neg (by rw [h3]; decide))
    (conv => whnf); (try (refine ⟨(rfl : (_ : Heap) = _), ?_⟩; (conv => whnf)))
    (repeat (first | (refine ⟨fun _ => ?_, fun h => absurd h (by decide)⟩; (conv => whnf); (try (refine ⟨(rfl : (_ : Heap) = _), ?_⟩; (conv => whnf)))) | (refine ⟨fun h => absurd h (by decide), fun _ => ?_⟩; (conv => whnf); (try (refine ⟨(rfl : (_ : Heap) = _), ?_⟩; (conv => whnf))))))
    refine ⟨_, _, (rpath_sound r.path (by omega)).frame rfl _, ?_⟩; (conv => whnf); (try (refine ⟨(rfl : (_ : Heap) = _), ?_⟩; (conv => whnf)))
    refine ⟨fun h4 => ?_, fun h4 => ?_⟩
    rotate_left
    · (focus ((conv => whnf); (try (refine ⟨(rfl : (_ : Heap) = _), ?_⟩; (conv => whnf))); (try (repeat (first | (refine ⟨fun _ => ?_, fun h => absurd h (by decide)⟩; (conv => whnf); (try (refine ⟨(rfl : (_ : Heap) = _), ?_⟩; (conv => whnf)))) | (refine ⟨fun h => absurd h (by decide), fun _ => ?_⟩; (conv => whnf); (try (refine ⟨(rfl : (_ : Heap) = _), ?_⟩; (conv => whnf))))))); (rw [firstE_at hk hr (by rw [he, if_pos h4]) (by decide)]); (refine .inr ⟨by simp, ?_⟩); (conv => whnf); (try (refine .inr ⟨by simp, ?_⟩; (conv => whnf))); exact ⟨.inl rfl, _, .refl _, rfl⟩))
    have he := he.trans (if_neg (by rw [h4]; decide))
    (conv => whnf); (try (refine ⟨(rfl : (_ : Heap) = _), ?_⟩; (conv => whnf)))
    (repeat (first | (refine ⟨fun _ => ?_, fun h => absurd h (by decide)⟩; (conv => whnf); (try (refine ⟨(rfl : (_ : Heap) = _), ?_⟩; (conv => whnf)))) | (refine ⟨fun h => absurd h (by decide), fun _ => ?_⟩; (conv => whnf); (try (refine ⟨(rfl : (_ : Heap) = _), ?_⟩; (conv => whnf))))))
    refine ⟨_, _, (rcluster_sound c.clusters r.cluster (by omega)).frame rfl _, ?_⟩; (conv => whnf); (try (refine ⟨(rfl : (_ : Heap) = _), ?_⟩; (conv => whnf)))
    rw [idxN_lt]
    refine ⟨fun h5 => ?_, fun h5 => ?_⟩
    · (focus ((conv => whnf); (try (refine ⟨(rfl : (_ : Heap) = _), ?_⟩; (conv => whnf))); (try (repeat (first | (refine ⟨fun _ => ?_, fun h => absurd h (by decide)⟩; (conv => whnf); (try (refine ⟨(rfl : (_ : Heap) = _), ?_⟩; (conv => whnf)))) | (refine ⟨fun h => absurd h (by decide), fun _ => ?_⟩; (conv => whnf); (try (refine ⟨(rfl : (_ : Heap) = _), ?_⟩; (conv => whnf))))))); (rw [firstE_at hk hr (by rw [he, if_pos (by simpa using h5)]) (by decide)]); (refine .inr ⟨by simp, ?_⟩); (conv => whnf); (try (refine .inr ⟨by simp, ?_⟩; (conv => whnf))); exact ⟨.inl rfl, _, .refl _, rfl⟩))
    have h5 : namedV c.clusters r.cluster = true := by simpa using h5
    have he := he.trans (if_neg (by rw [h5]; decide))
    (conv => whnf); (try (refine ⟨(rfl : (_ : Heap) = _), ?_⟩; (conv => whnf)))
    refine Loops.seq k (fun j => [Cf c, .ref 0 [] 3 0 0, I 0, I 0, I k, .ref 1 [] 4 0 0, I j, .junk, .junk, .junk, .junk, .junk, .junk, .junk, .junk, .junk, .junk, .junk, .junk, .junk, .junk, .junk, .junk, .junk, .junk, .junk, .junk, .junk, .junk, .junk, .junk, .junk, .junk, .junk, .junk, .junk, .junk, .junk, .junk, .junk, .junk, .junk, .junk, .junk, .junk, .junk, .junk, .junk, .junk, .junk, .junk, .junk, .junk, .junk, .junk, .junk, .junk, .junk, .junk, .junk, .junk, .junk, .junk, .junk, .junk, .junk, .junk, .junk, .junk, .junk, .junk, .junk, .junk, .junk]) (fun j => [⟨1, 26, 3, [encF c], 0⟩, ⟨1, 70, 4, [encO r], 0⟩]) (fun j => ∀ i, (h : i < c.routes.length) → i < j → sameR c.routes[i] r = false) ?_ (by simp) (fun j hj hrj => ?_) (fun hrj => ?_)
    · exact Weak.cov (by (conv => whnf); (repeat (refine ⟨rfl, ?_⟩; (conv => whnf))); exact trivial)
    · obtain ⟨q, hq⟩ : ∃ q, q = c.routes[j] := ⟨_, rfl⟩
      have hgq : (c.routes.map encO)[j]? = some (encO q) := by rw [List.getElem?_map, List.getElem?_eq_getElem (by omega), hq]; rfl
      have no : sameR q r = false → ∀ i, (h : i < c.routes.length) → i < j + 1 → sameR c.routes[i] r = false := fun h6 i hi hij => by
        by_cases e : i = j
        · subst e; rw [← hq]; exact h6
        · exact hrj i hi (by omega)
      conv => whnf
      (refine ⟨fun _ => ?_, fun h => absurd h (by simp; omega)⟩); (conv => whnf); (try (refine ⟨(rfl : (_ : Heap) = _), ?_⟩; (conv => whnf)))
      (refine ⟨by omega, _, by rw [toNat_cast]; exact hgq, ?_⟩); (conv => whnf); (try (refine ⟨(rfl : (_ : Heap) = _), ?_⟩; (conv => whnf)))
      refine ⟨fun h6 => ?_, fun h6 => ?_⟩
      rotate_left
      · (conv => whnf); (try (refine ⟨(rfl : (_ : Heap) = _), ?_⟩; (conv => whnf)))
        (repeat (first | (refine ⟨fun _ => ?_, fun h => absurd h (by decide)⟩; (conv => whnf); (try (refine ⟨(rfl : (_ : Heap) = _), ?_⟩; (conv => whnf)))) | (refine ⟨fun h => absurd h (by decide), fun _ => ?_⟩; (conv => whnf); (try (refine ⟨(rfl : (_ : Heap) = _), ?_⟩; (conv => whnf))))))
        refine .inl ⟨rfl, ?_, no (by simp [sameR, h6])⟩
        rw [i64_nat (by omega)]
        exact Weak.covD 2 (by (conv => whnf); (repeat (refine ⟨rfl, ?_⟩; (conv => whnf))); exact trivial) rfl rfl rfl rfl rfl
      (conv => whnf); (try (refine ⟨(rfl : (_ : Heap) = _), ?_⟩; (conv => whnf)))
      refine ⟨fun h7 => ?_, fun h7 => ?_⟩
      rotate_left
      · (conv => whnf); (try (refine ⟨(rfl : (_ : Heap) = _), ?_⟩; (conv => whnf)))
        (repeat (first | (refine ⟨fun _ => ?_, fun h => absurd h (by decide)⟩; (conv => whnf); (try (refine ⟨(rfl : (_ : Heap) = _), ?_⟩; (conv => whnf)))) | (refine ⟨fun h => absurd h (by decide), fun _ => ?_⟩; (conv => whnf); (try (refine ⟨(rfl : (_ : Heap) = _), ?_⟩; (conv => whnf))))))
        refine .inl ⟨rfl, ?_, no (by simp [sameR, h7])⟩
        rw [i64_nat (by omega)]
        exact Weak.covD 2 (by (conv => whnf); (repeat (refine ⟨rfl, ?_⟩; (conv => whnf))); exact trivial) rfl rfl rfl rfl rfl
      (conv => whnf); (try (refine ⟨(rfl : (_ : Heap) = _), ?_⟩; (conv => whnf)))
      refine ⟨fun h8 => ?_, fun h8 => ?_⟩
      rotate_left
      · (conv => whnf); (try (refine ⟨(rfl : (_ : Heap) = _), ?_⟩; (conv => whnf)))
        refine .inl ⟨rfl, ?_, no (by simp [sameR, h8])⟩
        rw [i64_nat (by omega)]
        exact Weak.covD 2 (by (conv => whnf); (repeat (refine ⟨rfl, ?_⟩; (conv => whnf))); exact trivial) rfl rfl rfl rfl rfl
      have ha : (c.routes.take k).any (fun q => sameR q r) = true := by
        rw [List.any_eq_true]
        exact ⟨q, by rw [hq, List.mem_iff_getElem]; exact ⟨j, by simp; omega, List.getElem_take⟩, by simp [sameR, h6, h7, h8]⟩
      (conv => whnf); (try (refine ⟨(rfl : (_ : Heap) = _), ?_⟩; (conv => whnf)))
      (rw [firstE_at hk hr (by rw [he, if_pos ha]) (by decide)]); (refine .inr ⟨by simp, ?_⟩); (conv => whnf); (try (refine .inr ⟨by simp, ?_⟩; (conv => whnf))); exact ⟨.inl rfl, _, .refl _, rfl⟩
    · have ha : (c.routes.take k).any (fun q => sameR q r) = false := by
        rw [List.any_eq_false]
        intro q hq
        obtain ⟨i, hi, rfl⟩ := List.mem_iff_getElem.1 hq
        rw [List.getElem_take]
        have hi' : i < k := by simp at hi; omega
        simp [hrj i (by omega) hi']
      have he := he.trans (if_neg (by simp [ha]))
      (conv => whnf); (refine ⟨fun h => absurd h (by simp), fun _ => ?_⟩); (conv => whnf); (try (refine ⟨(rfl : (_ : Heap) = _), ?_⟩; (conv => whnf))); (refine ⟨by simp, ?_⟩); (conv => whnf)
      refine .inl ⟨rfl, ?_, (fun j hj => by (by_cases e : j = k); (subst e; exact he); (exact hr j (by omega)))⟩
      rw [i64_nat (by omega)]
      exact Weak.covD 1 (by (conv => whnf); (repeat (refine ⟨rfl, ?_⟩; (conv => whnf))); exact trivial) rfl rfl rfl rfl rfl
  · rw [firstE_no hr]
    (conv => whnf); (refine ⟨fun h => absurd h (by rw [m1]; simp), fun _ => ?_⟩); (conv => whnf); (try (refine ⟨(rfl : (_ : Heap) = _), ?_⟩; (conv => whnf))); (refine ⟨by simp, ?_⟩); (conv => whnf)
    exact ⟨.inl rfl, _, .refl _, rfl⟩

theorem size_bad {c : Cfg} (h : c.listens.length < 1 ∨ 4 < c.listens.length ∨ c.routes.length < 1 ∨ 8 < c.routes.length ∨ c.clusters.length < 1 ∨ 4 < c.clusters.length) : checkV c = (6, 0) := by
  have e : sizeE c = (6, 0) := by
    unfold sizeE
    rw [if_pos]
    simp only [Bool.and_eq_false_iff, decide_eq_false_iff_not]
    omega
  unfold checkV
  rw [if_pos (by rw [e]; decide), e]
theorem size_ok {c : Cfg} (h1 : 1 ≤ c.listens.length) (h2 : c.listens.length ≤ 4) (h3 : 1 ≤ c.routes.length) (h4 : c.routes.length ≤ 8) (h5 : 1 ≤ c.clusters.length) (h6 : c.clusters.length ≤ 4) : sizeE c = (0, 0) := by
  unfold sizeE
  rw [if_neg]
  simp only [Bool.and_eq_false_iff, decide_eq_false_iff_not]
  omega

theorem rcheck_sound (c : Cfg) (hc : SmallC c) : SoundAt Tryz.prog 41 [] [Cf c] (t2 (checkV c)) [] := by
  have m1 : (c.listens.map encT).length = c.listens.length := List.length_map ..
  have m2 : (c.routes.map encO).length = c.routes.length := List.length_map ..
  have m3 : (c.clusters.map encC).length = c.clusters.length := List.length_map ..
  refine SoundAt.of_wpA1 (fn := Tryz.f41) Tryz.func41 rfl ?_
  conv => whnf
  rw [m1]
  (refine ⟨fun a1 => ?_, fun a1 => ?_⟩); (focus ((have e : checkV c = (6, 0) := size_bad (by simp at a1; omega)); (rw [e]); (conv => whnf); (try (refine ⟨(rfl : (_ : Heap) = _), ?_⟩; (conv => whnf))); (try (repeat (first | (refine ⟨fun _ => ?_, fun h => absurd h (by decide)⟩; (conv => whnf); (try (refine ⟨(rfl : (_ : Heap) = _), ?_⟩; (conv => whnf)))) | (refine ⟨fun h => absurd h (by decide), fun _ => ?_⟩; (conv => whnf); (try (refine ⟨(rfl : (_ : Heap) = _), ?_⟩; (conv => whnf))))))); exact ⟨.inl rfl, _, .refl _, rfl⟩)); (conv => whnf); (try (refine ⟨(rfl : (_ : Heap) = _), ?_⟩; (conv => whnf)))
  rw [m1]
  (refine ⟨fun a2 => ?_, fun a2 => ?_⟩); (focus ((have e : checkV c = (6, 0) := size_bad (by simp at a2; omega)); (rw [e]); (conv => whnf); (try (refine ⟨(rfl : (_ : Heap) = _), ?_⟩; (conv => whnf))); (try (repeat (first | (refine ⟨fun _ => ?_, fun h => absurd h (by decide)⟩; (conv => whnf); (try (refine ⟨(rfl : (_ : Heap) = _), ?_⟩; (conv => whnf)))) | (refine ⟨fun h => absurd h (by decide), fun _ => ?_⟩; (conv => whnf); (try (refine ⟨(rfl : (_ : Heap) = _), ?_⟩; (conv => whnf))))))); exact ⟨.inl rfl, _, .refl _, rfl⟩)); (conv => whnf); (try (refine ⟨(rfl : (_ : Heap) = _), ?_⟩; (conv => whnf)))
  rw [m2]
  (refine ⟨fun a3 => ?_, fun a3 => ?_⟩); (focus ((have e : checkV c = (6, 0) := size_bad (by simp at a3; omega)); (rw [e]); (conv => whnf); (try (refine ⟨(rfl : (_ : Heap) = _), ?_⟩; (conv => whnf))); (try (repeat (first | (refine ⟨fun _ => ?_, fun h => absurd h (by decide)⟩; (conv => whnf); (try (refine ⟨(rfl : (_ : Heap) = _), ?_⟩; (conv => whnf)))) | (refine ⟨fun h => absurd h (by decide), fun _ => ?_⟩; (conv => whnf); (try (refine ⟨(rfl : (_ : Heap) = _), ?_⟩; (conv => whnf))))))); exact ⟨.inl rfl, _, .refl _, rfl⟩)); (conv => whnf); (try (refine ⟨(rfl : (_ : Heap) = _), ?_⟩; (conv => whnf)))
  rw [m2]
  (refine ⟨fun a4 => ?_, fun a4 => ?_⟩); (focus ((have e : checkV c = (6, 0) := size_bad (by simp at a4; omega)); (rw [e]); (conv => whnf); (try (refine ⟨(rfl : (_ : Heap) = _), ?_⟩; (conv => whnf))); (try (repeat (first | (refine ⟨fun _ => ?_, fun h => absurd h (by decide)⟩; (conv => whnf); (try (refine ⟨(rfl : (_ : Heap) = _), ?_⟩; (conv => whnf)))) | (refine ⟨fun h => absurd h (by decide), fun _ => ?_⟩; (conv => whnf); (try (refine ⟨(rfl : (_ : Heap) = _), ?_⟩; (conv => whnf))))))); exact ⟨.inl rfl, _, .refl _, rfl⟩)); (conv => whnf); (try (refine ⟨(rfl : (_ : Heap) = _), ?_⟩; (conv => whnf)))
  rw [m3]
  (refine ⟨fun a5 => ?_, fun a5 => ?_⟩); (focus ((have e : checkV c = (6, 0) := size_bad (by simp at a5; omega)); (rw [e]); (conv => whnf); (try (refine ⟨(rfl : (_ : Heap) = _), ?_⟩; (conv => whnf))); (try (repeat (first | (refine ⟨fun _ => ?_, fun h => absurd h (by decide)⟩; (conv => whnf); (try (refine ⟨(rfl : (_ : Heap) = _), ?_⟩; (conv => whnf)))) | (refine ⟨fun h => absurd h (by decide), fun _ => ?_⟩; (conv => whnf); (try (refine ⟨(rfl : (_ : Heap) = _), ?_⟩; (conv => whnf))))))); exact ⟨.inl rfl, _, .refl _, rfl⟩)); (conv => whnf); (try (refine ⟨(rfl : (_ : Heap) = _), ?_⟩; (conv => whnf)))
  rw [m3]
  (refine ⟨fun a6 => ?_, fun a6 => ?_⟩); (focus ((have e : checkV c = (6, 0) := size_bad (by simp at a6; omega)); (rw [e]); (conv => whnf); (try (refine ⟨(rfl : (_ : Heap) = _), ?_⟩; (conv => whnf))); (try (repeat (first | (refine ⟨fun _ => ?_, fun h => absurd h (by decide)⟩; (conv => whnf); (try (refine ⟨(rfl : (_ : Heap) = _), ?_⟩; (conv => whnf)))) | (refine ⟨fun h => absurd h (by decide), fun _ => ?_⟩; (conv => whnf); (try (refine ⟨(rfl : (_ : Heap) = _), ?_⟩; (conv => whnf))))))); exact ⟨.inl rfl, _, .refl _, rfl⟩)); (conv => whnf); (try (refine ⟨(rfl : (_ : Heap) = _), ?_⟩; (conv => whnf)))
  have h0 : (sizeE c).1 = 0 := by
    simp at a1 a2 a3 a4 a5 a6
    rw [size_ok (by omega) (by omega) (by omega) (by omega) (by omega) (by omega)]
  refine ⟨_, _, (rlistens_sound c hc).frame rfl _, ?_⟩; (conv => whnf); (try (refine ⟨(rfl : (_ : Heap) = _), ?_⟩; (conv => whnf)))
  refine ⟨fun h1 => ?_, fun h1 => ?_⟩
  · have e : checkV c = firstE (lisE c.listens) c.listens.length := by unfold checkV; rw [if_neg (by simp [h0]), if_pos (by simpa using h1)]
    rw [e]
    (conv => whnf); (try (refine ⟨(rfl : (_ : Heap) = _), ?_⟩; (conv => whnf)))
    exact ⟨.inl rfl, _, .refl _, rfl⟩
  have h1 : (firstE (lisE c.listens) c.listens.length).1 = 0 := by simpa using h1
  (conv => whnf); (try (refine ⟨(rfl : (_ : Heap) = _), ?_⟩; (conv => whnf)))
  refine ⟨_, _, (rclusters_sound c hc).frame rfl _, ?_⟩; (conv => whnf); (try (refine ⟨(rfl : (_ : Heap) = _), ?_⟩; (conv => whnf)))
  refine ⟨fun h2 => ?_, fun h2 => ?_⟩
  · have e : checkV c = firstE (cluE c.clusters) c.clusters.length := by unfold checkV; rw [if_neg (by simp [h0]), if_neg (by simp [h1]), if_pos (by simpa using h2)]
    rw [e]
    (conv => whnf); (try (refine ⟨(rfl : (_ : Heap) = _), ?_⟩; (conv => whnf)))
    exact ⟨.inl rfl, _, .refl _, rfl⟩
  have h2 : (firstE (cluE c.clusters) c.clusters.length).1 = 0 := by simpa using h2
  (conv => whnf); (try (refine ⟨(rfl : (_ : Heap) = _), ?_⟩; (conv => whnf)))
  refine ⟨_, _, (rroutes_sound c hc).frame rfl _, ?_⟩; (conv => whnf); (try (refine ⟨(rfl : (_ : Heap) = _), ?_⟩; (conv => whnf)))
  have e : checkV c = firstE (rouE c) c.routes.length := by
    unfold checkV; rw [if_neg (by simp [h0]), if_neg (by simp [h1]), if_neg (by simp [h2])]
    by_cases h3 : (firstE (rouE c) c.routes.length).1 = 0
    · rw [if_neg (by simp [h3])]
      unfold firstE at h3 ⊢
      split at h3
      · rename_i i hi
        have := List.find?_some hi
        simp at this
        exact absurd h3 this
      · rfl
    · rw [if_pos h3]
  rw [e]
  exact ⟨.inl rfl, _, .refl _, rfl⟩

/-! ### Too much to be looked at -/

def cluB (c : Clu) : Bool := decide (50 < c.health.length) || decide (100 < c.name.length)
def rouB (r : Rou) : Bool := decide (100 < r.host.length) || decide (100 < r.path.length)
def bigC (c : Cfg) : Bool := decide (50 < c.listens.length) || decide (50 < c.routes.length) || decide (50 < c.clusters.length) || c.clusters.any cluB || c.routes.any rouB

theorem big_sound (c : Cfg) (h1 : c.listens.length < 4000000000000000000) (h2 : c.routes.length < 4000000000000000000) (h3 : c.clusters.length < 4000000000000000000) : SoundAt Tryz.prog 8 [] [Cf c] (Bo (bigC c)) [] := by
  have m1 : (c.listens.map encT).length = c.listens.length := List.length_map ..
  have m2 : (c.routes.map encO).length = c.routes.length := List.length_map ..
  have m3 : (c.clusters.map encC).length = c.clusters.length := List.length_map ..
  refine SoundAt.of_wpA1 (fn := Tryz.f8) Tryz.func8 rfl ?_
  conv => whnf
  rw [m1]
  (refine ⟨fun a1 => ?_, fun a1 => ?_⟩); (focus ((have e : bigC c = true := by (simp at a1; simp [bigC]; omega)); (rw [e]); (conv => whnf); (try (refine ⟨(rfl : (_ : Heap) = _), ?_⟩; (conv => whnf))); (try (repeat (first | (refine ⟨fun _ => ?_, fun h => absurd h (by decide)⟩; (conv => whnf); (try (refine ⟨(rfl : (_ : Heap) = _), ?_⟩; (conv => whnf)))) | (refine ⟨fun h => absurd h (by decide), fun _ => ?_⟩; (conv => whnf); (try (refine ⟨(rfl : (_ : Heap) = _), ?_⟩; (conv => whnf))))))); exact ⟨.inl rfl, _, .refl _, rfl⟩)); (conv => whnf); (try (refine ⟨(rfl : (_ : Heap) = _), ?_⟩; (conv => whnf)))
  rw [m2]
  (refine ⟨fun a2 => ?_, fun a2 => ?_⟩); (focus ((have e : bigC c = true := by (simp at a2; simp [bigC]; omega)); (rw [e]); (conv => whnf); (try (refine ⟨(rfl : (_ : Heap) = _), ?_⟩; (conv => whnf))); (try (repeat (first | (refine ⟨fun _ => ?_, fun h => absurd h (by decide)⟩; (conv => whnf); (try (refine ⟨(rfl : (_ : Heap) = _), ?_⟩; (conv => whnf)))) | (refine ⟨fun h => absurd h (by decide), fun _ => ?_⟩; (conv => whnf); (try (refine ⟨(rfl : (_ : Heap) = _), ?_⟩; (conv => whnf))))))); exact ⟨.inl rfl, _, .refl _, rfl⟩)); (conv => whnf); (try (refine ⟨(rfl : (_ : Heap) = _), ?_⟩; (conv => whnf)))
  rw [m3]
  (refine ⟨fun a3 => ?_, fun a3 => ?_⟩); (focus ((have e : bigC c = true := by (simp at a3; simp [bigC]; omega)); (rw [e]); (conv => whnf); (try (refine ⟨(rfl : (_ : Heap) = _), ?_⟩; (conv => whnf))); (try (repeat (first | (refine ⟨fun _ => ?_, fun h => absurd h (by decide)⟩; (conv => whnf); (try (refine ⟨(rfl : (_ : Heap) = _), ?_⟩; (conv => whnf)))) | (refine ⟨fun h => absurd h (by decide), fun _ => ?_⟩; (conv => whnf); (try (refine ⟨(rfl : (_ : Heap) = _), ?_⟩; (conv => whnf))))))); exact ⟨.inl rfl, _, .refl _, rfl⟩)); (conv => whnf); (try (refine ⟨(rfl : (_ : Heap) = _), ?_⟩; (conv => whnf)))
  simp at a1 a2 a3
  refine Loops.seq c.clusters.length (fun k => [Cf c, .ref 0 [] 3 0 0, Bo false, I k, .junk, .junk, .junk, .junk, .junk, .junk, .junk, .junk, .junk, .junk, .junk, .junk, .junk, .junk, .junk, .junk, .junk, .junk, .junk, .junk, .junk, .junk, .junk, .junk, .junk, .junk, .junk, .junk, .junk, .junk, .junk, .junk, .junk, .junk, .junk, .junk, .junk, .junk, .junk, .junk, .junk, .junk, .junk, .junk, .junk, .junk, .junk, .junk, .junk, .junk, .junk, .junk, .junk, .junk, .junk, .junk, .junk, .junk, .junk, .junk, .junk, .junk, .junk, .junk, .junk, .junk, .junk]) (fun k => [⟨1, 26, 3, [encF c], 0⟩]) (fun k => ∀ j, (h : j < c.clusters.length) → j < k → cluB c.clusters[j] = false) ?_ (by simp) (fun k hk hr => ?_) (fun hr => ?_)
  · exact Weak.cov (by (conv => whnf); (repeat (refine ⟨rfl, ?_⟩; (conv => whnf))); exact trivial)
  · obtain ⟨x, hx⟩ : ∃ x, x = c.clusters[k] := ⟨_, rfl⟩
    have hg : (c.clusters.map encC)[k]? = some (encC x) := by rw [List.getElem?_map, List.getElem?_eq_getElem hk, hx]; rfl
    have mh : (x.health.map encB).length = x.health.length := List.length_map ..
    have bad : cluB x = true → bigC c = true := fun h => by
      have : c.clusters.any cluB = true := List.any_eq_true.2 ⟨x, by rw [hx]; exact List.getElem_mem hk, h⟩
      simp [bigC, this]
    have no : cluB x = false → ∀ i, (h : i < c.clusters.length) → i < k + 1 → cluB c.clusters[i] = false := fun h6 i hi hij => by
      by_cases e : i = k
      · subst e; rw [← hx]; exact h6
      · exact hr i hi (by omega)
    conv => whnf
    rw [m3]
    (refine ⟨fun _ => ?_, fun h => absurd h (by simp; omega)⟩); (conv => whnf); (try (refine ⟨(rfl : (_ : Heap) = _), ?_⟩; (conv => whnf)))
    (refine ⟨by omega, _, by rw [toNat_cast]; exact hg, ?_⟩); (conv => whnf); (try (refine ⟨(rfl : (_ : Heap) = _), ?_⟩; (conv => whnf)))
    rw [mh]
    refine ⟨fun b1 => ?_, fun b1 => ?_⟩
    · rw [bad (by simp at b1; simp [cluB]; omega)]
      (conv => whnf); (try (refine ⟨(rfl : (_ : Heap) = _), ?_⟩; (conv => whnf)))
      (repeat (first | (refine ⟨fun _ => ?_, fun h => absurd h (by decide)⟩; (conv => whnf); (try (refine ⟨(rfl : (_ : Heap) = _), ?_⟩; (conv => whnf)))) | (refine ⟨fun h => absurd h (by decide), fun _ => ?_⟩; (conv => whnf); (try (refine ⟨(rfl : (_ : Heap) = _), ?_⟩; (conv => whnf))))))
      (refine .inr ⟨by simp, ?_⟩); (conv => whnf)
      exact ⟨.inl rfl, _, .refl _, rfl⟩
    (conv => whnf); (try (refine ⟨(rfl : (_ : Heap) = _), ?_⟩; (conv => whnf)))
    (refine ⟨by omega, _, by rw [toNat_cast]; exact hg, ?_⟩); (conv => whnf); (try (refine ⟨(rfl : (_ : Heap) = _), ?_⟩; (conv => whnf)))
    refine ⟨fun b2 => ?_, fun b2 => ?_⟩
    · rw [bad (by simp at b2; simp [cluB]; omega)]
      (conv => whnf); (try (refine ⟨(rfl : (_ : Heap) = _), ?_⟩; (conv => whnf)))
      (refine .inr ⟨by simp, ?_⟩); (conv => whnf)
      exact ⟨.inl rfl, _, .refl _, rfl⟩
    (conv => whnf); (try (refine ⟨(rfl : (_ : Heap) = _), ?_⟩; (conv => whnf)))
    refine .inl ⟨rfl, ?_, no (by simp at b1 b2; simp [cluB]; omega)⟩
    rw [i64_nat (by omega)]
    exact Weak.covD 1 (by (conv => whnf); (repeat (refine ⟨rfl, ?_⟩; (conv => whnf))); exact trivial) rfl rfl rfl rfl rfl
  · have hno : c.clusters.any cluB = false := by
      rw [List.any_eq_false]
      intro x hx
      obtain ⟨i, hi, rfl⟩ := List.mem_iff_getElem.1 hx
      simp [hr i hi hi]
    conv => whnf
    rw [m3]
    refine ⟨fun h => absurd h (by simp), fun _ => ?_⟩
    (conv => whnf); (try (refine ⟨(rfl : (_ : Heap) = _), ?_⟩; (conv => whnf)))
    refine ⟨by simp, ?_⟩
    conv => whnf
    refine Loops.seq c.routes.length (fun k => [Cf c, .ref 0 [] 3 0 0, Bo false, .junk, I k, .junk, .junk, .junk, .junk, .junk, .junk, .junk, .junk, .junk, .junk, .junk, .junk, .junk, .junk, .junk, .junk, .junk, .junk, .junk, .junk, .junk, .junk, .junk, .junk, .junk, .junk, .junk, .junk, .junk, .junk, .junk, .junk, .junk, .junk, .junk, .junk, .junk, .junk, .junk, .junk, .junk, .junk, .junk, .junk, .junk, .junk, .junk, .junk, .junk, .junk, .junk, .junk, .junk, .junk, .junk, .junk, .junk, .junk, .junk, .junk, .junk, .junk, .junk, .junk, .junk, .junk]) (fun k => [⟨1, 26, 3, [encF c], 0⟩]) (fun k => ∀ j, (h : j < c.routes.length) → j < k → rouB c.routes[j] = false) ?_ (by simp) (fun k hk hr => ?_) (fun hr => ?_)
    · exact Weak.cov (by (conv => whnf); (repeat (refine ⟨rfl, ?_⟩; (conv => whnf))); exact trivial)
    · obtain ⟨x, hx⟩ : ∃ x, x = c.routes[k] := ⟨_, rfl⟩
      have hg : (c.routes.map encO)[k]? = some (encO x) := by rw [List.getElem?_map, List.getElem?_eq_getElem hk, hx]; rfl
      have bad : rouB x = true → bigC c = true := fun h => by
        have : c.routes.any rouB = true := List.any_eq_true.2 ⟨x, by rw [hx]; exact List.getElem_mem hk, h⟩
        simp [bigC, this]
      have no : rouB x = false → ∀ i, (h : i < c.routes.length) → i < k + 1 → rouB c.routes[i] = false := fun h6 i hi hij => by
        by_cases e : i = k
        · subst e; rw [← hx]; exact h6
        · exact hr i hi (by omega)
      conv => whnf
      rw [m2]
      (refine ⟨fun _ => ?_, fun h => absurd h (by simp; omega)⟩); (conv => whnf); (try (refine ⟨(rfl : (_ : Heap) = _), ?_⟩; (conv => whnf)))
      (refine ⟨by omega, _, by rw [toNat_cast]; exact hg, ?_⟩); (conv => whnf); (try (refine ⟨(rfl : (_ : Heap) = _), ?_⟩; (conv => whnf)))
      refine ⟨fun b1 => ?_, fun b1 => ?_⟩
      · rw [bad (by simp at b1; simp [rouB]; omega)]
        (conv => whnf); (try (refine ⟨(rfl : (_ : Heap) = _), ?_⟩; (conv => whnf)))
        (repeat (first | (refine ⟨fun _ => ?_, fun h => absurd h (by decide)⟩; (conv => whnf); (try (refine ⟨(rfl : (_ : Heap) = _), ?_⟩; (conv => whnf)))) | (refine ⟨fun h => absurd h (by decide), fun _ => ?_⟩; (conv => whnf); (try (refine ⟨(rfl : (_ : Heap) = _), ?_⟩; (conv => whnf))))))
        (refine .inr ⟨by simp, ?_⟩); (conv => whnf)
        exact ⟨.inl rfl, _, .refl _, rfl⟩
      (conv => whnf); (try (refine ⟨(rfl : (_ : Heap) = _), ?_⟩; (conv => whnf)))
      (refine ⟨by omega, _, by rw [toNat_cast]; exact hg, ?_⟩); (conv => whnf); (try (refine ⟨(rfl : (_ : Heap) = _), ?_⟩; (conv => whnf)))
      refine ⟨fun b2 => ?_, fun b2 => ?_⟩
      · rw [bad (by simp at b2; simp [rouB]; omega)]
        (conv => whnf); (try (refine ⟨(rfl : (_ : Heap) = _), ?_⟩; (conv => whnf)))
        (refine .inr ⟨by simp, ?_⟩); (conv => whnf)
        exact ⟨.inl rfl, _, .refl _, rfl⟩
      (conv => whnf); (try (refine ⟨(rfl : (_ : Heap) = _), ?_⟩; (conv => whnf)))
      refine .inl ⟨rfl, ?_, no (by simp at b1 b2; simp [rouB]; omega)⟩
      rw [i64_nat (by omega)]
      exact Weak.covD 1 (by (conv => whnf); (repeat (refine ⟨rfl, ?_⟩; (conv => whnf))); exact trivial) rfl rfl rfl rfl rfl
    · have hno2 : c.routes.any rouB = false := by
        rw [List.any_eq_false]
        intro x hx
        obtain ⟨i, hi, rfl⟩ := List.mem_iff_getElem.1 hx
        simp [hr i hi hi]
      conv => whnf
      rw [m2]
      refine ⟨fun h => absurd h (by simp), fun _ => ?_⟩
      (conv => whnf); (try (refine ⟨(rfl : (_ : Heap) = _), ?_⟩; (conv => whnf)))
      refine ⟨by simp, ?_⟩
      conv => whnf
      have e : bigC c = false := by simp [bigC, hno, hno2]; omega
      rw [e]
      exact ⟨.inl rfl, _, .refl _, rfl⟩
end Go.Con

