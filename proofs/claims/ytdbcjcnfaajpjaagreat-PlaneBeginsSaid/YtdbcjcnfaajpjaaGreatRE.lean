import Derived.Test.YtdbcjcnfaajpjaaGreatRD
import Derived.Test.YtdbcjcnfaajpjaaGreatRC
namespace Go.Con
open Go.Ab Go.Proofs Go.Hy Go.Gat Go.Nam Go.Hos
set_option linter.unusedVariables false
set_option linter.unusedSimpArgs false
set_option maxRecDepth 8000
set_option maxHeartbeats 2000000
def firstE (f : Nat → Int) (n : Nat) : Int × Int := match (List.range n).find? fun i => f i != 0 with
  | some i => (f i, i)
  | none => (0, 0)
theorem firstE_at {f : Nat → Int} {n k : Nat} {e : Int} (hk : k < n) (hr : ∀ j, j < k → f j = 0) (h : f k = e) (he : e ≠ 0) : firstE f n = (e, (k : Int)) := by
  unfold firstE
  have : (List.range n).find? (fun i => f i != 0) = some k := by
    rw [List.find?_range_eq_some]
    exact ⟨by simp [h, he], by simpa using hk, fun j hj => by simp [hr j hj]⟩
  rw [this]
  simp [h]
theorem firstE_no {f : Nat → Int} {n : Nat} (hr : ∀ j, j < n → f j = 0) : firstE f n = (0, 0) := by
  unfold firstE
  have : (List.range n).find? (fun i => f i != 0) = none := by
    rw [List.find?_range_eq_none]
    intro i hi
    simp [hr i hi]
  rw [this]
def lisE (l : List Str) (i : Nat) : Int := match l[i]? with
  | none => 0
  | some s => if nameV s = false then 3 else if (l.take i).any (fun x => x == s) then 4 else 0
def cluE (l : List Clu) (i : Nat) : Int := match l[i]? with
  | none => 0
  | some c => if nameV c.name = false then 3 else if namedV (l.take i) c.name then 4 else if c.policy ≠ 1 ∧ c.policy ≠ 2 then 9 else if (decide (1 ≤ c.slots) && decide (c.slots ≤ 4)) = false then 10
      else if (decide (1 ≤ (c.health.length : Int)) && decide ((c.health.length : Int) ≤ 4)) = false then 6 else 0
def sameR (a b : Rou) : Bool := a.listen == b.listen && a.host == b.host && a.path == b.path
def rouE (c : Cfg) (i : Nat) : Int := match c.routes[i]? with
  | none => 0
  | some r => if c.listens.any (fun x => x == r.listen) = false then 5 else if patV r.host = false then 7 else if pathV r.path = false then 8 else if namedV c.clusters r.cluster = false then 5
      else if (c.routes.take i).any (fun q => sameR q r) then 4 else 0
def sizeE (c : Cfg) : Int × Int :=
  if ((decide (1 ≤ (c.listens.length : Int)) && decide ((c.listens.length : Int) ≤ 4)) = false ∨ (decide (1 ≤ (c.routes.length : Int)) && decide ((c.routes.length : Int) ≤ 8)) = false) ∨ (decide (1 ≤ (c.clusters.length : Int)) && decide ((c.clusters.length : Int) ≤ 4)) = false then (6, 0) else (0, 0)
def checkV (c : Cfg) : Int × Int :=
  if (sizeE c).1 ≠ 0 then sizeE c else if (firstE (lisE c.listens) c.listens.length).1 ≠ 0 then firstE (lisE c.listens) c.listens.length
  else if (firstE (cluE c.clusters) c.clusters.length).1 ≠ 0 then firstE (cluE c.clusters) c.clusters.length
  else if (firstE (rouE c) c.routes.length).1 ≠ 0 then firstE (rouE c) c.routes.length else (0, 0)
abbrev t2 (r : Int × Int) : C := .tup [I r.1, I r.2]
abbrev Cf (c : Cfg) : C := .agg (encF c)
structure SmallC (c : Cfg) : Prop where
  listens : c.listens.length < 1000000000000 ∧ ∀ s ∈ c.listens, s.length < 4000000000000000000
  routes : c.routes.length < 1000000000000 ∧ ∀ r ∈ c.routes, r.listen.length < 4000000000000000000 ∧ r.host.length < 1000000000000 ∧ r.path.length < 1000000000000 ∧ r.cluster.length < 4000000000000000000
  clusters : c.clusters.length < 1000000000000 ∧ ∀ x ∈ c.clusters, x.name.length < 4000000000000000000 ∧ x.health.length < 4000000000000000000
theorem size_sound (c : Cfg) (hc : SmallC c) : SoundAt Tryz.prog 105 [] [Cf c] (t2 (sizeE c)) [] := by
  have m1 : (c.listens.map encT).length = c.listens.length := List.length_map ..
  have m2 : (c.routes.map encO).length = c.routes.length := List.length_map ..
  have m3 : (c.clusters.map encC).length = c.clusters.length := List.length_map ..
  refine SoundAt.of_wpA1 (fn := Tryz.f105) Tryz.func105 rfl ?_
  conv => whnf
  rw [m1]
  refine ⟨_, _, (within_sound _ _ _).frame rfl _, ?_⟩; (conv=>whnf);(try(refine ⟨(rfl:(_:Heap)=_),?_⟩;(conv=>whnf)))
  refine ⟨fun h1 => ?_, fun h1 => ?_⟩
  · (conv=>whnf);(try(refine ⟨(rfl:(_:Heap)=_),?_⟩;(conv=>whnf)))
    (repeat (first | (refine ⟨fun _ => ?_, fun h => absurd h (by decide)⟩; (conv=>whnf);(try(refine ⟨(rfl:(_:Heap)=_),?_⟩;(conv=>whnf)))) | (refine ⟨fun h => absurd h (by decide), fun _ => ?_⟩; (conv=>whnf);(try(refine ⟨(rfl:(_:Heap)=_),?_⟩;(conv=>whnf))))))
    rw [m2]
    refine ⟨_, _, (within_sound _ _ _).frame rfl _, ?_⟩; (conv=>whnf);(try(refine ⟨(rfl:(_:Heap)=_),?_⟩;(conv=>whnf)))
    refine ⟨fun h2 => ?_, fun h2 => ?_⟩
    · (conv=>whnf);(try(refine ⟨(rfl:(_:Heap)=_),?_⟩;(conv=>whnf)))
      (repeat (first | (refine ⟨fun _ => ?_, fun h => absurd h (by decide)⟩; (conv=>whnf);(try(refine ⟨(rfl:(_:Heap)=_),?_⟩;(conv=>whnf)))) | (refine ⟨fun h => absurd h (by decide), fun _ => ?_⟩; (conv=>whnf);(try(refine ⟨(rfl:(_:Heap)=_),?_⟩;(conv=>whnf))))))
      rw [m3]
      refine ⟨_, _, (within_sound _ _ _).frame rfl _, ?_⟩; (conv=>whnf);(try(refine ⟨(rfl:(_:Heap)=_),?_⟩;(conv=>whnf)))
      refine ⟨fun h3 => ?_, fun h3 => ?_⟩
      · (conv=>whnf);(try(refine ⟨(rfl:(_:Heap)=_),?_⟩;(conv=>whnf)))
        (repeat (first | (refine ⟨fun _ => ?_, fun h => absurd h (by decide)⟩; (conv=>whnf);(try(refine ⟨(rfl:(_:Heap)=_),?_⟩;(conv=>whnf)))) | (refine ⟨fun h => absurd h (by decide), fun _ => ?_⟩; (conv=>whnf);(try(refine ⟨(rfl:(_:Heap)=_),?_⟩;(conv=>whnf))))))
        have e : sizeE c = (0, 0) := by unfold sizeE; rw [if_neg]; simp only [h1, h2, h3]; simp
        rw [e]
        exact ⟨.inl rfl, _, .refl _, rfl⟩
      · (conv=>whnf);(try(refine ⟨(rfl:(_:Heap)=_),?_⟩;(conv=>whnf)))
        (repeat (first | (refine ⟨fun _ => ?_, fun h => absurd h (by decide)⟩; (conv=>whnf);(try(refine ⟨(rfl:(_:Heap)=_),?_⟩;(conv=>whnf)))) | (refine ⟨fun h => absurd h (by decide), fun _ => ?_⟩; (conv=>whnf);(try(refine ⟨(rfl:(_:Heap)=_),?_⟩;(conv=>whnf))))))
        have e : sizeE c = (6, 0) := by unfold sizeE; rw [if_pos (.inr h3)]
        rw [e]
        exact ⟨.inl rfl, _, .refl _, rfl⟩
    · (conv=>whnf);(try(refine ⟨(rfl:(_:Heap)=_),?_⟩;(conv=>whnf)))
      (repeat (first | (refine ⟨fun _ => ?_, fun h => absurd h (by decide)⟩; (conv=>whnf);(try(refine ⟨(rfl:(_:Heap)=_),?_⟩;(conv=>whnf)))) | (refine ⟨fun h => absurd h (by decide), fun _ => ?_⟩; (conv=>whnf);(try(refine ⟨(rfl:(_:Heap)=_),?_⟩;(conv=>whnf))))))
      have e : sizeE c = (6, 0) := by unfold sizeE; rw [if_pos (.inl (.inr h2))]
      rw [e]
      exact ⟨.inl rfl, _, .refl _, rfl⟩
  · (conv=>whnf);(try(refine ⟨(rfl:(_:Heap)=_),?_⟩;(conv=>whnf)))
    (repeat (first | (refine ⟨fun _ => ?_, fun h => absurd h (by decide)⟩; (conv=>whnf);(try(refine ⟨(rfl:(_:Heap)=_),?_⟩;(conv=>whnf)))) | (refine ⟨fun h => absurd h (by decide), fun _ => ?_⟩; (conv=>whnf);(try(refine ⟨(rfl:(_:Heap)=_),?_⟩;(conv=>whnf))))))
    have e : sizeE c = (6, 0) := by unfold sizeE; rw [if_pos (.inl (.inl h1))]
    rw [e]
    exact ⟨.inl rfl, _, .refl _, rfl⟩
theorem listens_sound (c : Cfg) (hc : SmallC c) : SoundAt Tryz.prog 106 [] [Cf c] (t2 (firstE (lisE c.listens) c.listens.length)) [] := by
  have m1 : (c.listens.map encT).length = c.listens.length := List.length_map ..
  have hl := hc.listens.1
  refine SoundAt.of_wpA1 (fn := Tryz.f106) Tryz.func106 rfl ?_
  conv => whnf
  rw [m1]
  refine Loops.seq c.listens.length (fun k => [Cf c, .ref 0 [] 3 0 0, I 0, I 0, .junk, .junk, .junk, .junk, lT c.listens, I c.listens.length, I k, .junk, .junk, .junk, .junk, .junk, .junk, .junk, .junk, .junk, .junk, .junk, .junk, .junk, .junk, .junk, .junk, .junk, .junk, .junk]) (fun k => [⟨1, 176, 3, [encF c], 0⟩]) (fun k => ∀ j, j < k → lisE c.listens j = 0) ?_ (by simp) (fun k hk hr => ?_) (fun hr => ?_)
  · exact Weak.cov (by (conv => whnf); (repeat (refine ⟨rfl, ?_⟩; (conv => whnf))); exact trivial)
  · have hg : (c.listens.map encT)[k]? = some (encT c.listens[k]) := by rw [List.getElem?_map, List.getElem?_eq_getElem hk]; rfl
    have hs := hc.listens.2 _ (List.getElem_mem hk)
    have he : lisE c.listens k = if nameV c.listens[k] = false then 3 else if (c.listens.take k).any (fun x => x == c.listens[k]) then 4 else 0 := by
      unfold lisE; rw [List.getElem?_eq_getElem hk]
    conv => whnf
    refine ⟨fun _ => ?_, fun h => absurd h (by simp; omega)⟩
    (conv=>whnf);(try(refine ⟨(rfl:(_:Heap)=_),?_⟩;(conv=>whnf)))
    refine ⟨by omega, _, by rw [toNat_cast]; exact hg, ?_⟩
    (conv=>whnf);(try(refine ⟨(rfl:(_:Heap)=_),?_⟩;(conv=>whnf)))
    refine ⟨_, _, (name_sound c.listens[k] (by omega)).frame rfl _, ?_⟩; (conv=>whnf);(try(refine ⟨(rfl:(_:Heap)=_),?_⟩;(conv=>whnf)))
    refine ⟨fun h2 => ?_, fun h2 => ?_⟩
    · (conv=>whnf);(try(refine ⟨(rfl:(_:Heap)=_),?_⟩;(conv=>whnf)))
      (repeat (first | (refine ⟨fun _ => ?_, fun h => absurd h (by decide)⟩; (conv=>whnf);(try(refine ⟨(rfl:(_:Heap)=_),?_⟩;(conv=>whnf)))) | (refine ⟨fun h => absurd h (by decide), fun _ => ?_⟩; (conv=>whnf);(try(refine ⟨(rfl:(_:Heap)=_),?_⟩;(conv=>whnf))))))
      (refine ⟨.inr rfl, ?_⟩); (conv=>whnf);(try(refine ⟨(rfl:(_:Heap)=_),?_⟩;(conv=>whnf))); (refine ⟨by omega, Nat.zero_le _, by rw [m1]; omega, ?_⟩); (conv=>whnf);(try(refine ⟨(rfl:(_:Heap)=_),?_⟩;(conv=>whnf))); (rw [List.drop_zero, Nat.sub_zero, toNat_cast, ← List.map_take])
      refine ⟨_, _, (conT_sound (c.listens.take k) c.listens[k] (by simp; omega)).frame rfl _, ?_⟩; (conv=>whnf);(try(refine ⟨(rfl:(_:Heap)=_),?_⟩;(conv=>whnf)))
      refine ⟨fun h3 => ?_, fun h3 => ?_⟩
      · (conv=>whnf);(try(refine ⟨(rfl:(_:Heap)=_),?_⟩;(conv=>whnf)))
        rw [firstE_at hk hr (by rw [he, if_neg (by simp [h2]), if_pos h3]) (by decide)]
        refine .inr ⟨by simp, ?_⟩
        conv => whnf
        exact ⟨.inl rfl, _, .refl _, rfl⟩
      · (conv=>whnf);(try(refine ⟨(rfl:(_:Heap)=_),?_⟩;(conv=>whnf)))
        refine .inl ⟨rfl, ?_, (fun j hj => by (by_cases e : j = k); (subst e; exact (by rw [he, if_neg (by simp [h2]), if_neg (by simp [h3])])); (exact hr j (by omega)))⟩
        rw [i64_nat (by omega)]
        exact Weak.covD 1 (by (conv => whnf); (repeat (refine ⟨rfl, ?_⟩; (conv => whnf))); exact trivial) rfl rfl rfl rfl rfl
    · (conv=>whnf);(try(refine ⟨(rfl:(_:Heap)=_),?_⟩;(conv=>whnf)))
      (repeat (first | (refine ⟨fun _ => ?_, fun h => absurd h (by decide)⟩; (conv=>whnf);(try(refine ⟨(rfl:(_:Heap)=_),?_⟩;(conv=>whnf)))) | (refine ⟨fun h => absurd h (by decide), fun _ => ?_⟩; (conv=>whnf);(try(refine ⟨(rfl:(_:Heap)=_),?_⟩;(conv=>whnf))))))
      rw [firstE_at hk hr (by rw [he, if_pos h2]) (by decide)]
      refine .inr ⟨by simp, ?_⟩
      conv => whnf
      exact ⟨.inl rfl, _, .refl _, rfl⟩
  · rw [firstE_no hr]
    (conv => whnf); (refine ⟨fun h => absurd h (by simp), fun _ => ?_⟩); (conv=>whnf);(try(refine ⟨(rfl:(_:Heap)=_),?_⟩;(conv=>whnf))); (refine ⟨by simp, ?_⟩); (conv => whnf)
    exact ⟨.inl rfl, _, .refl _, rfl⟩
theorem clusters_sound (c : Cfg) (hc : SmallC c) : SoundAt Tryz.prog 107 [] [Cf c] (t2 (firstE (cluE c.clusters) c.clusters.length)) [] := by
  have m1 : (c.clusters.map encC).length = c.clusters.length := List.length_map ..
  have hl := hc.clusters.1
  refine SoundAt.of_wpA1 (fn := Tryz.f107) Tryz.func107 rfl ?_
  conv => whnf
  rw [m1]
  refine Loops.seq c.clusters.length (fun k => [Cf c, .ref 0 [] 3 0 0, I 0, I 0, .junk, .junk, .junk, .junk, lC c.clusters, I c.clusters.length, I k, .junk, .junk, .junk, .junk, .junk, .junk, .junk, .junk, .junk, .junk, .junk, .junk, .junk, .junk, .junk, .junk, .junk, .junk, .junk, .junk, .junk, .junk, .junk, .junk, .junk, .junk, .junk, .junk, .junk, .junk, .junk, .junk, .junk, .junk, .junk, .junk, .junk, .junk, .junk, .junk, .junk, .junk, .junk, .junk]) (fun k => [⟨1, 176, 3, [encF c], 0⟩]) (fun k => ∀ j, j < k → cluE c.clusters j = 0) ?_ (by simp) (fun k hk hr => ?_) (fun hr => ?_)
  · exact Weak.cov (by (conv => whnf); (repeat (refine ⟨rfl, ?_⟩; (conv => whnf))); exact trivial)
  · obtain ⟨x, hx⟩ : ∃ x, x = c.clusters[k] := ⟨_, rfl⟩
    have hg : (c.clusters.map encC)[k]? = some (encC x) := by rw [List.getElem?_map, List.getElem?_eq_getElem hk, hx]; rfl
    have hs := hc.clusters.2 x (by rw [hx]; exact List.getElem_mem hk)
    have he : cluE c.clusters k = if nameV x.name = false then 3 else if namedV (c.clusters.take k) x.name then 4 else if x.policy ≠ 1 ∧ x.policy ≠ 2 then 9 else if (decide (1 ≤ x.slots) && decide (x.slots ≤ 4)) = false then 10
        else if (decide (1 ≤ (x.health.length : Int)) && decide ((x.health.length : Int) ≤ 4)) = false then 6 else 0 := by
      unfold cluE; rw [List.getElem?_eq_getElem hk, hx]
    have mh : (x.health.map encB).length = x.health.length := List.length_map ..
    conv => whnf
    refine ⟨fun _ => ?_, fun h => absurd h (by simp; omega)⟩
    (conv=>whnf);(try(refine ⟨(rfl:(_:Heap)=_),?_⟩;(conv=>whnf)))
    refine ⟨by omega, _, by rw [toNat_cast]; exact hg, ?_⟩
    (conv=>whnf);(try(refine ⟨(rfl:(_:Heap)=_),?_⟩;(conv=>whnf)))
    refine ⟨_, _, (name_sound x.name (by omega)).frame rfl _, ?_⟩; (conv=>whnf);(try(refine ⟨(rfl:(_:Heap)=_),?_⟩;(conv=>whnf)))
    refine ⟨fun h2 => ?_, fun h2 => ?_⟩
    · (conv=>whnf);(try(refine ⟨(rfl:(_:Heap)=_),?_⟩;(conv=>whnf)))
      (repeat (first | (refine ⟨fun _ => ?_, fun h => absurd h (by decide)⟩; (conv=>whnf);(try(refine ⟨(rfl:(_:Heap)=_),?_⟩;(conv=>whnf)))) | (refine ⟨fun h => absurd h (by decide), fun _ => ?_⟩; (conv=>whnf);(try(refine ⟨(rfl:(_:Heap)=_),?_⟩;(conv=>whnf))))))
      refine .inl ⟨⟨false, [2, 6, 7], [0, 1], []⟩, by kernel_rfl, ?_⟩; (conv => whnf)
      (refine ⟨.inr rfl, ?_⟩); (conv=>whnf);(try(refine ⟨(rfl:(_:Heap)=_),?_⟩;(conv=>whnf))); (refine ⟨by omega, Nat.zero_le _, by rw [m1]; omega, ?_⟩); (conv=>whnf);(try(refine ⟨(rfl:(_:Heap)=_),?_⟩;(conv=>whnf))); (rw [List.drop_zero, Nat.sub_zero, toNat_cast, ← List.map_take])
      refine ⟨Bo (namedV (c.clusters.take k) x.name), fun H2 => (named_sound (c.clusters.take k) x.name (by simp; omega)).frame rfl H2, ?_⟩
      (conv=>whnf);(try(refine ⟨(rfl:(_:Heap)=_),?_⟩;(conv=>whnf)))
      refine ⟨fun h3 => ?_, fun h3 => ?_⟩
      · (conv=>whnf);(try(refine ⟨(rfl:(_:Heap)=_),?_⟩;(conv=>whnf)))
        rw [firstE_at hk hr (by rw [he, if_neg (by simp [h2]), if_pos h3]) (by decide)]
        (refine .inr ⟨by simp, ?_⟩); (conv => whnf)
        exact ⟨.inl rfl, _, .refl _, rfl⟩
      · have he := he.trans ((if_neg (by simp [h2])).trans (if_neg (by simp [h3])))
        (conv=>whnf);(try(refine ⟨(rfl:(_:Heap)=_),?_⟩;(conv=>whnf)))
        refine ⟨fun h4 => ?_, fun h4 => ?_⟩
        · have h4 : x.policy ≠ 1 := by simpa using h4
          (conv=>whnf);(try(refine ⟨(rfl:(_:Heap)=_),?_⟩;(conv=>whnf)))
          refine ⟨fun h5 => ?_, fun h5 => ?_⟩
          · have h5 : x.policy ≠ 2 := by simpa using h5
            (conv=>whnf);(try(refine ⟨(rfl:(_:Heap)=_),?_⟩;(conv=>whnf)))
            rw [firstE_at hk hr (by rw [he, if_pos ⟨h4, h5⟩]) (by decide)]
            (refine .inr ⟨by simp, ?_⟩); (conv => whnf)
            exact ⟨.inl rfl, _, .refl _, rfl⟩
          · have h5 : x.policy = 2 := by simpa using h5
            have he := he.trans (if_neg (fun h => h.2 h5))
            (conv=>whnf);(try(refine ⟨(rfl:(_:Heap)=_),?_⟩;(conv=>whnf)))
            refine ⟨_, _, (within_sound _ _ _).frame rfl _, ?_⟩; (conv=>whnf);(try(refine ⟨(rfl:(_:Heap)=_),?_⟩;(conv=>whnf))); (refine ⟨fun h6 => ?_, fun h6 => ?_⟩); rotate_left; (focus ((conv=>whnf);(try(refine ⟨(rfl:(_:Heap)=_),?_⟩;(conv=>whnf))); (repeat (first | (refine ⟨fun _ => ?_, fun h => absurd h (by decide)⟩; (conv=>whnf);(try(refine ⟨(rfl:(_:Heap)=_),?_⟩;(conv=>whnf)))) | (refine ⟨fun h => absurd h (by decide), fun _ => ?_⟩; (conv=>whnf);(try(refine ⟨(rfl:(_:Heap)=_),?_⟩;(conv=>whnf)))))); (rw [firstE_at hk hr (by rw [he, if_pos h6]) (by decide)]); (refine .inr ⟨by simp, ?_⟩); (conv => whnf); exact ⟨.inl rfl, _, .refl _, rfl⟩)); (have he := he.trans (if_neg (by simp only [h6]; decide))); (conv=>whnf);(try(refine ⟨(rfl:(_:Heap)=_),?_⟩;(conv=>whnf))); (repeat (first | (refine ⟨fun _ => ?_, fun h => absurd h (by decide)⟩; (conv=>whnf);(try(refine ⟨(rfl:(_:Heap)=_),?_⟩;(conv=>whnf)))) | (refine ⟨fun h => absurd h (by decide), fun _ => ?_⟩; (conv=>whnf);(try(refine ⟨(rfl:(_:Heap)=_),?_⟩;(conv=>whnf)))))); (rw [mh]); refine ⟨_, _, (within_sound _ _ _).frame rfl _, ?_⟩; (conv=>whnf);(try(refine ⟨(rfl:(_:Heap)=_),?_⟩;(conv=>whnf))); (refine ⟨fun h7 => ?_, fun h7 => ?_⟩); rotate_left; (focus ((conv=>whnf);(try(refine ⟨(rfl:(_:Heap)=_),?_⟩;(conv=>whnf))); (repeat (first | (refine ⟨fun _ => ?_, fun h => absurd h (by decide)⟩; (conv=>whnf);(try(refine ⟨(rfl:(_:Heap)=_),?_⟩;(conv=>whnf)))) | (refine ⟨fun h => absurd h (by decide), fun _ => ?_⟩; (conv=>whnf);(try(refine ⟨(rfl:(_:Heap)=_),?_⟩;(conv=>whnf)))))); (rw [firstE_at hk hr (by rw [he, if_pos h7]) (by decide)]); (refine .inr ⟨by simp, ?_⟩); (conv => whnf); exact ⟨.inl rfl, _, .refl _, rfl⟩)); (have he := he.trans (if_neg (by simp only [h7]; decide))); (conv=>whnf);(try(refine ⟨(rfl:(_:Heap)=_),?_⟩;(conv=>whnf))); (repeat (first | (refine ⟨fun _ => ?_, fun h => absurd h (by decide)⟩; (conv=>whnf);(try(refine ⟨(rfl:(_:Heap)=_),?_⟩;(conv=>whnf)))) | (refine ⟨fun h => absurd h (by decide), fun _ => ?_⟩; (conv=>whnf);(try(refine ⟨(rfl:(_:Heap)=_),?_⟩;(conv=>whnf)))))); (refine .inl ⟨rfl, ?_, (fun j hj => by (by_cases e : j = k); (subst e; exact he); (exact hr j (by omega)))⟩); (rw [i64_nat (by omega)]); exact Weak.covD 1 (by (conv => whnf); (repeat (refine ⟨rfl, ?_⟩; (conv => whnf))); exact trivial) rfl rfl rfl rfl rfl
        · have h4 : x.policy = 1 := by simpa using h4
          have he := he.trans (if_neg (fun h => h.1 h4))
          (conv=>whnf);(try(refine ⟨(rfl:(_:Heap)=_),?_⟩;(conv=>whnf)))
          refine ⟨_, _, (within_sound _ _ _).frame rfl _, ?_⟩; (conv=>whnf);(try(refine ⟨(rfl:(_:Heap)=_),?_⟩;(conv=>whnf))); (refine ⟨fun h6 => ?_, fun h6 => ?_⟩); rotate_left; (focus ((conv=>whnf);(try(refine ⟨(rfl:(_:Heap)=_),?_⟩;(conv=>whnf))); (repeat (first | (refine ⟨fun _ => ?_, fun h => absurd h (by decide)⟩; (conv=>whnf);(try(refine ⟨(rfl:(_:Heap)=_),?_⟩;(conv=>whnf)))) | (refine ⟨fun h => absurd h (by decide), fun _ => ?_⟩; (conv=>whnf);(try(refine ⟨(rfl:(_:Heap)=_),?_⟩;(conv=>whnf)))))); (rw [firstE_at hk hr (by rw [he, if_pos h6]) (by decide)]); (refine .inr ⟨by simp, ?_⟩); (conv => whnf); exact ⟨.inl rfl, _, .refl _, rfl⟩)); (have he := he.trans (if_neg (by simp only [h6]; decide))); (conv=>whnf);(try(refine ⟨(rfl:(_:Heap)=_),?_⟩;(conv=>whnf))); (repeat (first | (refine ⟨fun _ => ?_, fun h => absurd h (by decide)⟩; (conv=>whnf);(try(refine ⟨(rfl:(_:Heap)=_),?_⟩;(conv=>whnf)))) | (refine ⟨fun h => absurd h (by decide), fun _ => ?_⟩; (conv=>whnf);(try(refine ⟨(rfl:(_:Heap)=_),?_⟩;(conv=>whnf)))))); (rw [mh]); refine ⟨_, _, (within_sound _ _ _).frame rfl _, ?_⟩; (conv=>whnf);(try(refine ⟨(rfl:(_:Heap)=_),?_⟩;(conv=>whnf))); (refine ⟨fun h7 => ?_, fun h7 => ?_⟩); rotate_left; (focus ((conv=>whnf);(try(refine ⟨(rfl:(_:Heap)=_),?_⟩;(conv=>whnf))); (repeat (first | (refine ⟨fun _ => ?_, fun h => absurd h (by decide)⟩; (conv=>whnf);(try(refine ⟨(rfl:(_:Heap)=_),?_⟩;(conv=>whnf)))) | (refine ⟨fun h => absurd h (by decide), fun _ => ?_⟩; (conv=>whnf);(try(refine ⟨(rfl:(_:Heap)=_),?_⟩;(conv=>whnf)))))); (rw [firstE_at hk hr (by rw [he, if_pos h7]) (by decide)]); (refine .inr ⟨by simp, ?_⟩); (conv => whnf); exact ⟨.inl rfl, _, .refl _, rfl⟩)); (have he := he.trans (if_neg (by simp only [h7]; decide))); (conv=>whnf);(try(refine ⟨(rfl:(_:Heap)=_),?_⟩;(conv=>whnf))); (repeat (first | (refine ⟨fun _ => ?_, fun h => absurd h (by decide)⟩; (conv=>whnf);(try(refine ⟨(rfl:(_:Heap)=_),?_⟩;(conv=>whnf)))) | (refine ⟨fun h => absurd h (by decide), fun _ => ?_⟩; (conv=>whnf);(try(refine ⟨(rfl:(_:Heap)=_),?_⟩;(conv=>whnf)))))); (refine .inl ⟨rfl, ?_, (fun j hj => by (by_cases e : j = k); (subst e; exact he); (exact hr j (by omega)))⟩); (rw [i64_nat (by omega)]); exact Weak.covD 1 (by (conv => whnf); (repeat (refine ⟨rfl, ?_⟩; (conv => whnf))); exact trivial) rfl rfl rfl rfl rfl
    · (conv=>whnf);(try(refine ⟨(rfl:(_:Heap)=_),?_⟩;(conv=>whnf)))
      (repeat (first | (refine ⟨fun _ => ?_, fun h => absurd h (by decide)⟩; (conv=>whnf);(try(refine ⟨(rfl:(_:Heap)=_),?_⟩;(conv=>whnf)))) | (refine ⟨fun h => absurd h (by decide), fun _ => ?_⟩; (conv=>whnf);(try(refine ⟨(rfl:(_:Heap)=_),?_⟩;(conv=>whnf))))))
      rw [firstE_at hk hr (by rw [he, if_pos h2]) (by decide)]
      refine .inr ⟨by simp, ?_⟩
      conv => whnf
      exact ⟨.inl rfl, _, .refl _, rfl⟩
  · rw [firstE_no hr]
    (conv => whnf); (refine ⟨fun h => absurd h (by simp), fun _ => ?_⟩); (conv=>whnf);(try(refine ⟨(rfl:(_:Heap)=_),?_⟩;(conv=>whnf))); (refine ⟨by simp, ?_⟩); (conv => whnf)
    exact ⟨.inl rfl, _, .refl _, rfl⟩
theorem routes_sound (c : Cfg) (hc : SmallC c) : SoundAt Tryz.prog 108 [] [Cf c] (t2 (firstE (rouE c) c.routes.length)) [] := by
  have m1 : (c.routes.map encO).length = c.routes.length := List.length_map ..
  have hl := hc.routes.1
  have hl1 := hc.listens.1
  have hl2 := hc.clusters.1
  refine SoundAt.of_wpA1 (fn := Tryz.f108) Tryz.func108 rfl ?_
  conv => whnf
  rw [m1]
  refine Loops.seq c.routes.length (fun k => [Cf c, .ref 0 [] 3 0 0, I 0, I 0, .junk, .junk, .junk, .junk, .junk, .junk, lO c.routes, I c.routes.length, I k, .junk, .junk, .junk, .junk, .junk, .junk, .junk, .junk, .junk, .junk, .junk, .junk, .junk, .junk, .junk, .junk, .junk, .junk, .junk, .junk, .junk, .junk, .junk, .junk, .junk, .junk, .junk, .junk, .junk, .junk, .junk, .junk, .junk, .junk, .junk, .junk, .junk, .junk, .junk, .junk, .junk, .junk, .junk, .junk, .junk, .junk, .junk, .junk, .junk, .junk, .junk, .junk]) (fun k => [⟨1, 176, 3, [encF c], 0⟩]) (fun k => ∀ j, j < k → rouE c j = 0) ?_ (by simp) (fun k hk hr => ?_) (fun hr => ?_)
  · exact Weak.cov (by (conv => whnf); (repeat (refine ⟨rfl, ?_⟩; (conv => whnf))); exact trivial)
  · obtain ⟨r, hx⟩ : ∃ r, r = c.routes[k] := ⟨_, rfl⟩
    have hg : (c.routes.map encO)[k]? = some (encO r) := by rw [List.getElem?_map, List.getElem?_eq_getElem hk, hx]; rfl
    have hs := hc.routes.2 r (by rw [hx]; exact List.getElem_mem hk)
    have he : rouE c k = if c.listens.any (fun x => x == r.listen) = false then 5 else if patV r.host = false then 7 else if pathV r.path = false then 8 else if namedV c.clusters r.cluster = false then 5
        else if (c.routes.take k).any (fun q => sameR q r) then 4 else 0 := by
      unfold rouE; rw [List.getElem?_eq_getElem hk, hx]
    have m2 : ((c.routes.take k).map encO).length = k := by simp; omega
    have hlk : (c.routes.take k).length = k := by simp; omega
    conv => whnf
    (refine ⟨fun _ => ?_, fun h => absurd h (by simp; omega)⟩); (conv=>whnf);(try(refine ⟨(rfl:(_:Heap)=_),?_⟩;(conv=>whnf)))
    (refine ⟨by omega, _, by rw [toNat_cast]; exact hg, ?_⟩); (conv=>whnf);(try(refine ⟨(rfl:(_:Heap)=_),?_⟩;(conv=>whnf)))
    refine ⟨_, _, (conT_sound c.listens r.listen (by omega)).frame rfl _, ?_⟩; (conv=>whnf);(try(refine ⟨(rfl:(_:Heap)=_),?_⟩;(conv=>whnf)))
    refine ⟨fun h2 => ?_, fun h2 => ?_⟩
    rotate_left
    · (conv=>whnf);(try(refine ⟨(rfl:(_:Heap)=_),?_⟩;(conv=>whnf)))
      (repeat (first | (refine ⟨fun _ => ?_, fun h => absurd h (by decide)⟩; (conv=>whnf);(try(refine ⟨(rfl:(_:Heap)=_),?_⟩;(conv=>whnf)))) | (refine ⟨fun h => absurd h (by decide), fun _ => ?_⟩; (conv=>whnf);(try(refine ⟨(rfl:(_:Heap)=_),?_⟩;(conv=>whnf))))))
      rw [firstE_at hk hr (by rw [he, if_pos h2]) (by decide)]
      (refine .inr ⟨by simp, ?_⟩); (conv => whnf)
      exact ⟨.inl rfl, _, .refl _, rfl⟩
    have he := he.trans (if_neg (by simp [h2]))
    (conv=>whnf);(try(refine ⟨(rfl:(_:Heap)=_),?_⟩;(conv=>whnf)))
    (repeat (first | (refine ⟨fun _ => ?_, fun h => absurd h (by decide)⟩; (conv=>whnf);(try(refine ⟨(rfl:(_:Heap)=_),?_⟩;(conv=>whnf)))) | (refine ⟨fun h => absurd h (by decide), fun _ => ?_⟩; (conv=>whnf);(try(refine ⟨(rfl:(_:Heap)=_),?_⟩;(conv=>whnf))))))
    refine ⟨_, _, (pattern_sound r.host (by omega)).frame rfl _, ?_⟩; (conv=>whnf);(try(refine ⟨(rfl:(_:Heap)=_),?_⟩;(conv=>whnf)))
    refine ⟨fun h3 => ?_, fun h3 => ?_⟩
    rotate_left
    · (conv=>whnf);(try(refine ⟨(rfl:(_:Heap)=_),?_⟩;(conv=>whnf)))
      (repeat (first | (refine ⟨fun _ => ?_, fun h => absurd h (by decide)⟩; (conv=>whnf);(try(refine ⟨(rfl:(_:Heap)=_),?_⟩;(conv=>whnf)))) | (refine ⟨fun h => absurd h (by decide), fun _ => ?_⟩; (conv=>whnf);(try(refine ⟨(rfl:(_:Heap)=_),?_⟩;(conv=>whnf))))))
      rw [firstE_at hk hr (by rw [he, if_pos h3]) (by decide)]
      (refine .inr ⟨by simp, ?_⟩); (conv => whnf)
      exact ⟨.inl rfl, _, .refl _, rfl⟩
    have he := he.trans (if_neg (by simp [h3]))
    (conv=>whnf);(try(refine ⟨(rfl:(_:Heap)=_),?_⟩;(conv=>whnf)))
    (repeat (first | (refine ⟨fun _ => ?_, fun h => absurd h (by decide)⟩; (conv=>whnf);(try(refine ⟨(rfl:(_:Heap)=_),?_⟩;(conv=>whnf)))) | (refine ⟨fun h => absurd h (by decide), fun _ => ?_⟩; (conv=>whnf);(try(refine ⟨(rfl:(_:Heap)=_),?_⟩;(conv=>whnf))))))
    refine ⟨_, _, (path_sound r.path (by omega)).frame rfl _, ?_⟩; (conv=>whnf);(try(refine ⟨(rfl:(_:Heap)=_),?_⟩;(conv=>whnf)))
    refine ⟨fun h4 => ?_, fun h4 => ?_⟩
    rotate_left
    · (conv=>whnf);(try(refine ⟨(rfl:(_:Heap)=_),?_⟩;(conv=>whnf)))
      (repeat (first | (refine ⟨fun _ => ?_, fun h => absurd h (by decide)⟩; (conv=>whnf);(try(refine ⟨(rfl:(_:Heap)=_),?_⟩;(conv=>whnf)))) | (refine ⟨fun h => absurd h (by decide), fun _ => ?_⟩; (conv=>whnf);(try(refine ⟨(rfl:(_:Heap)=_),?_⟩;(conv=>whnf))))))
      rw [firstE_at hk hr (by rw [he, if_pos h4]) (by decide)]
      (refine .inr ⟨by simp, ?_⟩); (conv => whnf)
      exact ⟨.inl rfl, _, .refl _, rfl⟩
    have he := he.trans (if_neg (by simp [h4]))
    (conv=>whnf);(try(refine ⟨(rfl:(_:Heap)=_),?_⟩;(conv=>whnf)))
    (repeat (first | (refine ⟨fun _ => ?_, fun h => absurd h (by decide)⟩; (conv=>whnf);(try(refine ⟨(rfl:(_:Heap)=_),?_⟩;(conv=>whnf)))) | (refine ⟨fun h => absurd h (by decide), fun _ => ?_⟩; (conv=>whnf);(try(refine ⟨(rfl:(_:Heap)=_),?_⟩;(conv=>whnf))))))
    refine ⟨_, _, (named_sound c.clusters r.cluster (by omega)).frame rfl _, ?_⟩; (conv=>whnf);(try(refine ⟨(rfl:(_:Heap)=_),?_⟩;(conv=>whnf)))
    refine ⟨fun h5 => ?_, fun h5 => ?_⟩
    rotate_left
    · (conv=>whnf);(try(refine ⟨(rfl:(_:Heap)=_),?_⟩;(conv=>whnf)))
      (repeat (first | (refine ⟨fun _ => ?_, fun h => absurd h (by decide)⟩; (conv=>whnf);(try(refine ⟨(rfl:(_:Heap)=_),?_⟩;(conv=>whnf)))) | (refine ⟨fun h => absurd h (by decide), fun _ => ?_⟩; (conv=>whnf);(try(refine ⟨(rfl:(_:Heap)=_),?_⟩;(conv=>whnf))))))
      rw [firstE_at hk hr (by rw [he, if_pos h5]) (by decide)]
      (refine .inr ⟨by simp, ?_⟩); (conv => whnf)
      exact ⟨.inl rfl, _, .refl _, rfl⟩
    have he := he.trans (if_neg (by simp [h5]))
    (conv=>whnf);(try(refine ⟨(rfl:(_:Heap)=_),?_⟩;(conv=>whnf)))
    (repeat (first | (refine ⟨fun _ => ?_, fun h => absurd h (by decide)⟩; (conv=>whnf);(try(refine ⟨(rfl:(_:Heap)=_),?_⟩;(conv=>whnf)))) | (refine ⟨fun h => absurd h (by decide), fun _ => ?_⟩; (conv=>whnf);(try(refine ⟨(rfl:(_:Heap)=_),?_⟩;(conv=>whnf))))))
    (refine ⟨.inr rfl, ?_⟩); (conv=>whnf);(try(refine ⟨(rfl:(_:Heap)=_),?_⟩;(conv=>whnf))); (refine ⟨by omega, Nat.zero_le _, by rw [m1]; omega, ?_⟩); (conv=>whnf);(try(refine ⟨(rfl:(_:Heap)=_),?_⟩;(conv=>whnf))); (rw [List.drop_zero, Nat.sub_zero, toNat_cast, ← List.map_take])
    rw [m2]
    refine Loops.seq k (fun j => [Cf c, .ref 0 [] 3 0 0, I 0, I 0, I k, .ref 1 [] 4 0 0, .junk, .junk, .junk, .junk, lO c.routes, I c.routes.length, I k, .junk, .junk, .junk, .junk, .junk, .junk, .junk, .junk, .junk, .junk, .junk, .junk, .junk, .junk, .junk, .junk, .junk, .junk, .junk, .junk, .junk, .junk, .junk, .junk, .junk, .junk, .junk, .junk, .junk, .junk, .junk, .junk, .junk, .junk, .junk, .junk, .junk, .junk, .junk, lO (c.routes.take k), I k, I j, .junk, .junk, .junk, .junk, .junk, .junk, .junk, .junk, .junk, .junk]) (fun j => [⟨1, 176, 3, [encF c], 0⟩, ⟨1, 84, 4, [[Tx r.listen, Tx r.host, Tx r.path, Tx []]], 0⟩]) (fun j => ∀ i, (h : i < c.routes.length) → i < j → sameR c.routes[i] r = false) ?_ (by simp) (fun j hj hrj => ?_) (fun hrj => ?_)
    · exact Weak.cov (by (conv => whnf); (repeat (refine ⟨rfl, ?_⟩; (conv => whnf))); exact trivial)
    · obtain ⟨q, hq⟩ : ∃ q, q = c.routes[j] := ⟨_, rfl⟩
      have hgq : ((c.routes.take k).map encO)[j]? = some (encO q) := by rw [List.getElem?_map, List.getElem?_eq_getElem (by omega), hq, List.getElem_take]; rfl
      conv => whnf
      (refine ⟨fun _ => ?_, fun h => absurd h (by simp; omega)⟩); (conv=>whnf);(try(refine ⟨(rfl:(_:Heap)=_),?_⟩;(conv=>whnf)))
      (refine ⟨by omega, _, by rw [toNat_cast]; exact hgq, ?_⟩); (conv=>whnf);(try(refine ⟨(rfl:(_:Heap)=_),?_⟩;(conv=>whnf)))
      refine ⟨by kernel_rfl, ?_⟩
      (conv=>whnf);(try(refine ⟨(rfl:(_:Heap)=_),?_⟩;(conv=>whnf)))
      refine ⟨fun h6 => ?_, fun h6 => ?_⟩
      · have h6 : sameR q r = true := by simp at h6; simp [sameR, h6]
        have ha : (c.routes.take k).any (fun q => sameR q r) = true := by
          rw [List.any_eq_true]
          exact ⟨q, by rw [hq, List.mem_iff_getElem]; exact ⟨j, by omega, List.getElem_take⟩, h6⟩
        (conv=>whnf);(try(refine ⟨(rfl:(_:Heap)=_),?_⟩;(conv=>whnf)))
        rw [firstE_at hk hr (by rw [he, if_pos ha]) (by decide)]
        (refine .inr ⟨by simp, ?_⟩); (conv => whnf)
        refine .inr ⟨by simp, ?_⟩
        conv => whnf
        exact ⟨.inl rfl, _, .refl _, rfl⟩
      · have h6 : sameR q r = false := by
          cases hs : sameR q r with
          | false => rfl
          | true => simp [sameR] at hs; simp [hs] at h6
        (conv=>whnf);(try(refine ⟨(rfl:(_:Heap)=_),?_⟩;(conv=>whnf)))
        refine .inl ⟨rfl, ?_, fun i hi hij => ?_⟩
        · rw [i64_nat (by omega)]
          exact Weak.covD 2 (by (conv => whnf); (repeat (refine ⟨rfl, ?_⟩; (conv => whnf))); exact trivial) rfl rfl rfl rfl rfl
        · by_cases e : i = j
          · subst e; rw [← hq]; exact h6
          · exact hrj i hi (by omega)
    · have ha : (c.routes.take k).any (fun q => sameR q r) = false := by
        rw [List.any_eq_false]
        intro q hq
        obtain ⟨i, hi, rfl⟩ := List.mem_iff_getElem.1 hq
        rw [List.getElem_take]
        simp [hrj i (by omega) (by omega)]
      have he := he.trans (if_neg (by simp [ha]))
      (conv => whnf); (refine ⟨fun h => absurd h (by simp), fun _ => ?_⟩); (conv=>whnf);(try(refine ⟨(rfl:(_:Heap)=_),?_⟩;(conv=>whnf))); (refine ⟨by simp, ?_⟩); (conv => whnf)
      refine .inl ⟨rfl, ?_, (fun j hj => by (by_cases e : j = k); (subst e; exact he); (exact hr j (by omega)))⟩
      rw [i64_nat (by omega)]
      exact Weak.covD 1 (by (conv => whnf); (repeat (refine ⟨rfl, ?_⟩; (conv => whnf))); exact trivial) rfl rfl rfl rfl rfl
  · rw [firstE_no hr]
    (conv => whnf); (refine ⟨fun h => absurd h (by simp), fun _ => ?_⟩); (conv=>whnf);(try(refine ⟨(rfl:(_:Heap)=_),?_⟩;(conv=>whnf))); (refine ⟨by simp, ?_⟩); (conv => whnf)
    exact ⟨.inl rfl, _, .refl _, rfl⟩
theorem check_sound (c : Cfg) (hc : SmallC c) : SoundAt Tryz.prog 72 [] [Cf c] (t2 (checkV c)) [] := by
  refine SoundAt.of_wpA1 (fn := Tryz.f72) Tryz.func72 rfl ?_
  conv => whnf
  refine .ofN 5 (.step ?_)
  conv => whnf
  (refine ⟨fun _ => ?_, fun h => absurd (h.symm.trans rfl : false = true) (by decide)⟩); (conv=>whnf);(try(refine ⟨(rfl:(_:Heap)=_),?_⟩;(conv=>whnf)))
  refine ⟨by decide, _, rfl, ?_⟩
  (conv=>whnf);(try(refine ⟨(rfl:(_:Heap)=_),?_⟩;(conv=>whnf)))
  refine ⟨_, _, (size_sound c hc).frame rfl _, ?_⟩; (conv=>whnf);(try(refine ⟨(rfl:(_:Heap)=_),?_⟩;(conv=>whnf)))
  refine ⟨fun h1 => ?_, fun h1 => ?_⟩
  · have e : checkV c = sizeE c := by unfold checkV; rw [if_pos (by simpa using h1)]
    rw [e]
    (conv=>whnf);(try(refine ⟨(rfl:(_:Heap)=_),?_⟩;(conv=>whnf)))
    (refine .inr ⟨by simp, ?_⟩); (conv => whnf)
    exact ⟨.inl rfl, _, .refl _, rfl⟩
  have h1 : (sizeE c).1 = 0 := by simpa using h1
  (conv=>whnf);(try(refine ⟨(rfl:(_:Heap)=_),?_⟩;(conv=>whnf)))
  refine .inl ⟨rfl, .step ?_⟩
  conv => whnf
  (refine ⟨fun _ => ?_, fun h => absurd (h.symm.trans rfl : false = true) (by decide)⟩); (conv=>whnf);(try(refine ⟨(rfl:(_:Heap)=_),?_⟩;(conv=>whnf)))
  refine ⟨by decide, _, rfl, ?_⟩
  (conv=>whnf);(try(refine ⟨(rfl:(_:Heap)=_),?_⟩;(conv=>whnf)))
  refine ⟨_, _, (listens_sound c hc).frame rfl _, ?_⟩; (conv=>whnf);(try(refine ⟨(rfl:(_:Heap)=_),?_⟩;(conv=>whnf)))
  refine ⟨fun h2 => ?_, fun h2 => ?_⟩
  · have e : checkV c = firstE (lisE c.listens) c.listens.length := by unfold checkV; rw [if_neg (by simp [h1]), if_pos (by simpa using h2)]
    rw [e]
    (conv=>whnf);(try(refine ⟨(rfl:(_:Heap)=_),?_⟩;(conv=>whnf)))
    (refine .inr ⟨by simp, ?_⟩); (conv => whnf)
    exact ⟨.inl rfl, _, .refl _, rfl⟩
  have h2 : (firstE (lisE c.listens) c.listens.length).1 = 0 := by simpa using h2
  (conv=>whnf);(try(refine ⟨(rfl:(_:Heap)=_),?_⟩;(conv=>whnf)))
  refine .inl ⟨rfl, .step ?_⟩
  conv => whnf
  (refine ⟨fun _ => ?_, fun h => absurd (h.symm.trans rfl : false = true) (by decide)⟩); (conv=>whnf);(try(refine ⟨(rfl:(_:Heap)=_),?_⟩;(conv=>whnf)))
  refine ⟨by decide, _, rfl, ?_⟩
  (conv=>whnf);(try(refine ⟨(rfl:(_:Heap)=_),?_⟩;(conv=>whnf)))
  refine ⟨_, _, (clusters_sound c hc).frame rfl _, ?_⟩; (conv=>whnf);(try(refine ⟨(rfl:(_:Heap)=_),?_⟩;(conv=>whnf)))
  refine ⟨fun h3 => ?_, fun h3 => ?_⟩
  · have e : checkV c = firstE (cluE c.clusters) c.clusters.length := by unfold checkV; rw [if_neg (by simp [h1]), if_neg (by simp [h2]), if_pos (by simpa using h3)]
    rw [e]
    (conv=>whnf);(try(refine ⟨(rfl:(_:Heap)=_),?_⟩;(conv=>whnf)))
    (refine .inr ⟨by simp, ?_⟩); (conv => whnf)
    exact ⟨.inl rfl, _, .refl _, rfl⟩
  have h3 : (firstE (cluE c.clusters) c.clusters.length).1 = 0 := by simpa using h3
  (conv=>whnf);(try(refine ⟨(rfl:(_:Heap)=_),?_⟩;(conv=>whnf)))
  refine .inl ⟨rfl, .step ?_⟩
  conv => whnf
  (refine ⟨fun _ => ?_, fun h => absurd (h.symm.trans rfl : false = true) (by decide)⟩); (conv=>whnf);(try(refine ⟨(rfl:(_:Heap)=_),?_⟩;(conv=>whnf)))
  refine ⟨by decide, _, rfl, ?_⟩
  (conv=>whnf);(try(refine ⟨(rfl:(_:Heap)=_),?_⟩;(conv=>whnf)))
  refine ⟨_, _, (routes_sound c hc).frame rfl _, ?_⟩; (conv=>whnf);(try(refine ⟨(rfl:(_:Heap)=_),?_⟩;(conv=>whnf)))
  refine ⟨fun h4 => ?_, fun h4 => ?_⟩
  · have e : checkV c = firstE (rouE c) c.routes.length := by unfold checkV; rw [if_neg (by simp [h1]), if_neg (by simp [h2]), if_neg (by simp [h3]), if_pos (by simpa using h4)]
    rw [e]
    (conv=>whnf);(try(refine ⟨(rfl:(_:Heap)=_),?_⟩;(conv=>whnf)))
    (refine .inr ⟨by simp, ?_⟩); (conv => whnf)
    exact ⟨.inl rfl, _, .refl _, rfl⟩
  have h4 : (firstE (rouE c) c.routes.length).1 = 0 := by simpa using h4
  (conv=>whnf);(try(refine ⟨(rfl:(_:Heap)=_),?_⟩;(conv=>whnf)))
  refine .inl ⟨rfl, .step ?_⟩
  conv => whnf
  (refine ⟨fun h => absurd (h.symm.trans rfl : true = false) (by decide), fun _ => ?_⟩); (conv=>whnf);(try(refine ⟨(rfl:(_:Heap)=_),?_⟩;(conv=>whnf)))
  (refine .inr ⟨by simp, ?_⟩); (conv => whnf)
  have e : checkV c = (0, 0) := by unfold checkV; rw [if_neg (by simp [h1]), if_neg (by simp [h2]), if_neg (by simp [h3]), if_neg (by simp [h4])]
  rw [e]
  exact ⟨.inl rfl, _, .refl _, rfl⟩
end Go.Con
namespace Go.Con
open Go.Ab Go.Proofs Go.Hy Go.Gat Go.Nam Go.Hos
set_option linter.unusedVariables false
set_option linter.unusedSimpArgs false
set_option maxRecDepth 8000
set_option maxHeartbeats 2000000
def idxN (l : List Clu) (s : Str) : Int := match l.findIdx? (fun x => x.name == s) with | some i => (i : Int) | none => -1
def cluB (c : Clu) : Bool := decide (50 < c.health.length) || decide (100 < c.name.length)
def rouB (r : Rou) : Bool := decide (100 < r.host.length) || decide (100 < r.path.length)
def bigC (c : Cfg) : Bool := decide (50 < c.listens.length) || decide (50 < c.routes.length) || decide (50 < c.clusters.length) || c.clusters.any cluB || c.routes.any rouB
end Go.Con
