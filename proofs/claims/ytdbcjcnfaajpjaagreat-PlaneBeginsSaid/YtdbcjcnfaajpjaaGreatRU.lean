import Derived.Test.YtdbcjcnfaajpjaaGreatRF
import Derived.Test.YtdbcjcnfaajpjaaGreatRS
import Derived.Test.YtdbcjcnfaajpjaaGreatRT
namespace Go.Wor
open Go.Ab Go.Proofs Go.Hy Go.Gat Go.Nam Go.Hos Go.Con Go.Sna
set_option linter.unusedVariables false
set_option linter.unusedSimpArgs false
set_option maxRecDepth 100000
set_option maxHeartbeats 4000000
def pickT (l : List Str) (n : Int) : Str := if 0 ≤ n ∧ n < l.length then (l[n.toNat]?).getD [] else []
def pickN (l : List Clu) (n : Int) : Str := if 0 ≤ n ∧ n < l.length then ((l[n.toNat]?).map (·.name)).getD [] else []
def rouV (s : Sna) (r : Rul) : Rou := ⟨pickT s.listens r.listen, r.host, r.path, pickN s.clusters r.cluster⟩
def cfgV (s : Sna) : Cfg := ⟨s.listens, s.rules.map (rouV s), s.clusters⟩
def snapV (s : Sna) : Bool := (checkV (cfgV s)).1 == 0
structure SmallN (s : Sna) : Prop where
  listens : s.listens.length < 1000000000000 ∧ ∀ x ∈ s.listens, x.length < 4000000000000000000
  rules : s.rules.length < 1000000000000 ∧ ∀ r ∈ s.rules, r.host.length < 1000000000000 ∧ r.path.length < 1000000000000
  clusters : s.clusters.length < 1000000000000 ∧ ∀ x ∈ s.clusters, x.name.length < 4000000000000000000 ∧ x.health.length < 4000000000000000000
theorem SmallN.cfg {s : Sna} (h : SmallN s) : SmallC (cfgV s) := by
  refine ⟨h.listens, ⟨by simpa [cfgV] using h.rules.1, fun r hr => ?_⟩, h.clusters⟩
  simp only [cfgV, List.mem_map] at hr
  obtain ⟨q, hq, rfl⟩ := hr
  refine ⟨?_, (h.rules.2 q hq).1, (h.rules.2 q hq).2, ?_⟩
  · show (pickT s.listens q.listen).length < _
    unfold pickT
    split
    · cases hx : s.listens[q.listen.toNat]? with
      | none => simp
      | some x => exact h.listens.2 x (List.mem_of_getElem? hx)
    · simp
  · show (pickN s.clusters q.cluster).length < _
    unfold pickN
    split
    · cases hx : s.clusters[q.cluster.toNat]? with
      | none => simp
      | some x => exact (h.clusters.2 x (List.mem_of_getElem? hx)).1
    · simp
theorem config_sound (s : Sna) (hs : SmallN s) : SoundAt Tryz.prog 73 [] [Cs s] (Cf (cfgV s)) [] := by
  have m1 : (s.rules.map encU4).length = s.rules.length := List.length_map ..
  have m2 : (s.listens.map encT).length = s.listens.length := List.length_map ..
  have m3 : (s.clusters.map encC).length = s.clusters.length := List.length_map ..
  have hl := hs.rules.1
  refine SoundAt.of_wpA1 (fn := Tryz.f73) Tryz.func73 rfl ?_
  conv => whnf
  rw [m1]
  refine Loops.seq s.rules.length (fun k => [.junk, .ref 0 [] 3 0 0, .ref 1 [] 3 0 0, .ref 2 [] 3 0 0, .junk, .junk, .junk, .junk, .junk, .junk, .junk, .junk, .junk, lRul s.rules, I s.rules.length, I k, .junk, .junk, .junk, .junk, .junk, .junk, .junk, .junk, .junk, .junk, .junk, .junk, .junk, .junk, .junk, .junk, .junk, .junk, .junk, .junk, .junk, .junk, .junk, .junk, .junk, .junk, .junk, .junk, .junk, .junk, .junk, .junk, .junk, .junk, .junk, .junk, .junk, .junk, .junk, .junk, .junk, .junk, .junk, .junk, .junk, .junk, .junk, .junk, .junk, .junk, .junk, .junk, .junk]) (fun k => [⟨1, 68, 3, [encS s], 0⟩, ⟨1, 26, 3, [[.lst 1 0 [], .lst 1 0 [], .lst 1 0 []]], 0⟩, ⟨1, 26, 3, [[lT s.listens, .gl 3 4 (((s.rules.take k).map (rouV s)).map encO), lC s.clusters]], 0⟩, ⟨4, 84, 4, ((s.rules.take k).map (rouV s)).map encO, 0⟩]) (fun k => True) ?_ trivial (fun k hk hr => ?_) (fun hr => ?_)
  · refine Weak.trans (Weak.growH 2 1 84 4 rfl rfl (.inl rfl) rfl rfl) ?_
    exact Weak.cov (by (conv => whnf); (repeat (refine ⟨rfl, ?_⟩; (conv => whnf))); exact trivial)
  · obtain ⟨r, hx⟩ : ∃ r, r = s.rules[k] := ⟨_, rfl⟩
    have hg : (s.rules.map encU4)[k]? = some (encU4 r) := by rw [List.getElem?_map, List.getElem?_eq_getElem hk, hx]; rfl
    have hlg : (((s.rules.take k).map (rouV s)).map encO).length = k := by simp; omega
    have eg : ((s.rules.take (k + 1)).map (rouV s)).map encO = ((s.rules.take k).map (rouV s)).map encO ++ [encO (rouV s r)] := by rw [List.take_succ_eq_append_getElem hk, ← hx]; simp
    have hv : ∀ a b, a = pickT s.listens r.listen → b = pickN s.clusters r.cluster → encO ⟨a, r.host, r.path, b⟩ = encO (rouV s r) := fun a b h1 h2 => by rw [h1, h2]; rfl
    conv => whnf
    (refine ⟨fun _ => ?_, fun h => absurd h (by simp; omega)⟩); (conv=>whnf);(try(refine ⟨(rfl:(_:Heap)=_),?_⟩;(conv=>whnf)))
    (refine ⟨by omega, _, by rw [toNat_cast]; exact hg, ?_⟩); (conv=>whnf);(try(refine ⟨(rfl:(_:Heap)=_),?_⟩;(conv=>whnf)))
    refine ⟨fun h1 => ?_, fun h1 => ?_⟩
    rotate_left
    · (conv=>whnf);(try(refine ⟨(rfl:(_:Heap)=_),?_⟩;(conv=>whnf)))
      (repeat (first | (refine ⟨fun _ => ?_, fun h => absurd h (by decide)⟩; (conv=>whnf);(try(refine ⟨(rfl:(_:Heap)=_),?_⟩;(conv=>whnf)))) | (refine ⟨fun h => absurd h (by decide), fun _ => ?_⟩; (conv=>whnf);(try(refine ⟨(rfl:(_:Heap)=_),?_⟩;(conv=>whnf))))))
      refine ⟨fun q1 => ?_, fun q1 => ?_⟩; rotate_left; (focus ((conv=>whnf);(try(refine ⟨(rfl:(_:Heap)=_),?_⟩;(conv=>whnf))); (repeat (first | (refine ⟨fun _ => ?_, fun h => absurd h (by decide)⟩; (conv=>whnf);(try(refine ⟨(rfl:(_:Heap)=_),?_⟩;(conv=>whnf)))) | (refine ⟨fun h => absurd h (by decide), fun _ => ?_⟩; (conv=>whnf);(try(refine ⟨(rfl:(_:Heap)=_),?_⟩;(conv=>whnf)))))); (refine ⟨rfl, .inr rfl, by rw [hlg]; simp [maxLen]; omega, by rw [hlg]; show (k + 1) * 64 ≤ _; omega, ?_⟩); (conv=>whnf);(try(refine ⟨(rfl:(_:Heap)=_),?_⟩;(conv=>whnf))); (refine .inl ⟨rfl, ?_, trivial⟩); (rw [i64_nat (by omega), eg, ← hv _ _ (by unfold pickT; rw [if_neg (by simp at h1; omega)]) (by unfold pickN; rw [if_neg (by simp at q1; omega)])]); exact Weak.covD 4 (by (conv => whnf); (repeat (refine ⟨rfl, ?_⟩; (conv => whnf))); exact trivial) rfl rfl rfl rfl rfl)); (conv=>whnf);(try(refine ⟨(rfl:(_:Heap)=_),?_⟩;(conv=>whnf))); (rw [m3]); refine ⟨fun q2 => ?_, fun q2 => ?_⟩; rotate_left; (focus ((conv=>whnf);(try(refine ⟨(rfl:(_:Heap)=_),?_⟩;(conv=>whnf))); (repeat (first | (refine ⟨fun _ => ?_, fun h => absurd h (by decide)⟩; (conv=>whnf);(try(refine ⟨(rfl:(_:Heap)=_),?_⟩;(conv=>whnf)))) | (refine ⟨fun h => absurd h (by decide), fun _ => ?_⟩; (conv=>whnf);(try(refine ⟨(rfl:(_:Heap)=_),?_⟩;(conv=>whnf)))))); (refine ⟨rfl, .inr rfl, by rw [hlg]; simp [maxLen]; omega, by rw [hlg]; show (k + 1) * 64 ≤ _; omega, ?_⟩); (conv=>whnf);(try(refine ⟨(rfl:(_:Heap)=_),?_⟩;(conv=>whnf))); (refine .inl ⟨rfl, ?_, trivial⟩); (rw [i64_nat (by omega), eg, ← hv _ _ (by unfold pickT; rw [if_neg (by simp at h1; omega)]) (by unfold pickN; rw [if_neg (by simp at q2; omega)])]); exact Weak.covD 4 (by (conv => whnf); (repeat (refine ⟨rfl, ?_⟩; (conv => whnf))); exact trivial) rfl rfl rfl rfl rfl)); (have q3 : r.cluster.toNat < s.clusters.length := by simp at q1 q2; omega); (have gq : (s.clusters.map encC)[r.cluster.toNat]? = some (encC s.clusters[r.cluster.toNat]) := by rw [List.getElem?_map, List.getElem?_eq_getElem q3]; rfl); (conv=>whnf);(try(refine ⟨(rfl:(_:Heap)=_),?_⟩;(conv=>whnf))); (repeat (first | (refine ⟨fun _ => ?_, fun h => absurd h (by decide)⟩; (conv=>whnf);(try(refine ⟨(rfl:(_:Heap)=_),?_⟩;(conv=>whnf)))) | (refine ⟨fun h => absurd h (by decide), fun _ => ?_⟩; (conv=>whnf);(try(refine ⟨(rfl:(_:Heap)=_),?_⟩;(conv=>whnf)))))); (refine ⟨by simp at q1; omega, _, gq, ?_⟩); (conv=>whnf);(try(refine ⟨(rfl:(_:Heap)=_),?_⟩;(conv=>whnf))); (refine ⟨rfl, .inr rfl, by rw [hlg]; simp [maxLen]; omega, by rw [hlg]; show (k + 1) * 64 ≤ _; omega, ?_⟩); (conv=>whnf);(try(refine ⟨(rfl:(_:Heap)=_),?_⟩;(conv=>whnf))); (refine .inl ⟨rfl, ?_, trivial⟩); (rw [i64_nat (by omega), eg, ← hv _ _ (by unfold pickT; rw [if_neg (by simp at h1; omega)]) (by unfold pickN; rw [if_pos (by simp at q1 q2; omega), List.getElem?_eq_getElem q3])]); exact Weak.covD 4 (by (conv => whnf); (repeat (refine ⟨rfl, ?_⟩; (conv => whnf))); exact trivial) rfl rfl rfl rfl rfl
    (conv=>whnf);(try(refine ⟨(rfl:(_:Heap)=_),?_⟩;(conv=>whnf)))
    rw [m2]
    refine ⟨fun h2 => ?_, fun h2 => ?_⟩
    rotate_left
    · (conv=>whnf);(try(refine ⟨(rfl:(_:Heap)=_),?_⟩;(conv=>whnf)))
      (repeat (first | (refine ⟨fun _ => ?_, fun h => absurd h (by decide)⟩; (conv=>whnf);(try(refine ⟨(rfl:(_:Heap)=_),?_⟩;(conv=>whnf)))) | (refine ⟨fun h => absurd h (by decide), fun _ => ?_⟩; (conv=>whnf);(try(refine ⟨(rfl:(_:Heap)=_),?_⟩;(conv=>whnf))))))
      refine ⟨fun q1 => ?_, fun q1 => ?_⟩; rotate_left; (focus ((conv=>whnf);(try(refine ⟨(rfl:(_:Heap)=_),?_⟩;(conv=>whnf))); (repeat (first | (refine ⟨fun _ => ?_, fun h => absurd h (by decide)⟩; (conv=>whnf);(try(refine ⟨(rfl:(_:Heap)=_),?_⟩;(conv=>whnf)))) | (refine ⟨fun h => absurd h (by decide), fun _ => ?_⟩; (conv=>whnf);(try(refine ⟨(rfl:(_:Heap)=_),?_⟩;(conv=>whnf)))))); (refine ⟨rfl, .inr rfl, by rw [hlg]; simp [maxLen]; omega, by rw [hlg]; show (k + 1) * 64 ≤ _; omega, ?_⟩); (conv=>whnf);(try(refine ⟨(rfl:(_:Heap)=_),?_⟩;(conv=>whnf))); (refine .inl ⟨rfl, ?_, trivial⟩); (rw [i64_nat (by omega), eg, ← hv _ _ (by unfold pickT; rw [if_neg (by simp at h2; omega)]) (by unfold pickN; rw [if_neg (by simp at q1; omega)])]); exact Weak.covD 4 (by (conv => whnf); (repeat (refine ⟨rfl, ?_⟩; (conv => whnf))); exact trivial) rfl rfl rfl rfl rfl)); (conv=>whnf);(try(refine ⟨(rfl:(_:Heap)=_),?_⟩;(conv=>whnf))); (rw [m3]); refine ⟨fun q2 => ?_, fun q2 => ?_⟩; rotate_left; (focus ((conv=>whnf);(try(refine ⟨(rfl:(_:Heap)=_),?_⟩;(conv=>whnf))); (repeat (first | (refine ⟨fun _ => ?_, fun h => absurd h (by decide)⟩; (conv=>whnf);(try(refine ⟨(rfl:(_:Heap)=_),?_⟩;(conv=>whnf)))) | (refine ⟨fun h => absurd h (by decide), fun _ => ?_⟩; (conv=>whnf);(try(refine ⟨(rfl:(_:Heap)=_),?_⟩;(conv=>whnf)))))); (refine ⟨rfl, .inr rfl, by rw [hlg]; simp [maxLen]; omega, by rw [hlg]; show (k + 1) * 64 ≤ _; omega, ?_⟩); (conv=>whnf);(try(refine ⟨(rfl:(_:Heap)=_),?_⟩;(conv=>whnf))); (refine .inl ⟨rfl, ?_, trivial⟩); (rw [i64_nat (by omega), eg, ← hv _ _ (by unfold pickT; rw [if_neg (by simp at h2; omega)]) (by unfold pickN; rw [if_neg (by simp at q2; omega)])]); exact Weak.covD 4 (by (conv => whnf); (repeat (refine ⟨rfl, ?_⟩; (conv => whnf))); exact trivial) rfl rfl rfl rfl rfl)); (have q3 : r.cluster.toNat < s.clusters.length := by simp at q1 q2; omega); (have gq : (s.clusters.map encC)[r.cluster.toNat]? = some (encC s.clusters[r.cluster.toNat]) := by rw [List.getElem?_map, List.getElem?_eq_getElem q3]; rfl); (conv=>whnf);(try(refine ⟨(rfl:(_:Heap)=_),?_⟩;(conv=>whnf))); (repeat (first | (refine ⟨fun _ => ?_, fun h => absurd h (by decide)⟩; (conv=>whnf);(try(refine ⟨(rfl:(_:Heap)=_),?_⟩;(conv=>whnf)))) | (refine ⟨fun h => absurd h (by decide), fun _ => ?_⟩; (conv=>whnf);(try(refine ⟨(rfl:(_:Heap)=_),?_⟩;(conv=>whnf)))))); (refine ⟨by simp at q1; omega, _, gq, ?_⟩); (conv=>whnf);(try(refine ⟨(rfl:(_:Heap)=_),?_⟩;(conv=>whnf))); (refine ⟨rfl, .inr rfl, by rw [hlg]; simp [maxLen]; omega, by rw [hlg]; show (k + 1) * 64 ≤ _; omega, ?_⟩); (conv=>whnf);(try(refine ⟨(rfl:(_:Heap)=_),?_⟩;(conv=>whnf))); (refine .inl ⟨rfl, ?_, trivial⟩); (rw [i64_nat (by omega), eg, ← hv _ _ (by unfold pickT; rw [if_neg (by simp at h2; omega)]) (by unfold pickN; rw [if_pos (by simp at q1 q2; omega), List.getElem?_eq_getElem q3])]); exact Weak.covD 4 (by (conv => whnf); (repeat (refine ⟨rfl, ?_⟩; (conv => whnf))); exact trivial) rfl rfl rfl rfl rfl
    have h3 : r.listen.toNat < s.listens.length := by simp at h1 h2; omega
    have gl : (s.listens.map encT)[r.listen.toNat]? = some (encT s.listens[r.listen.toNat]) := by rw [List.getElem?_map, List.getElem?_eq_getElem h3]; rfl
    (conv=>whnf);(try(refine ⟨(rfl:(_:Heap)=_),?_⟩;(conv=>whnf)))
    (repeat (first | (refine ⟨fun _ => ?_, fun h => absurd h (by decide)⟩; (conv=>whnf);(try(refine ⟨(rfl:(_:Heap)=_),?_⟩;(conv=>whnf)))) | (refine ⟨fun h => absurd h (by decide), fun _ => ?_⟩; (conv=>whnf);(try(refine ⟨(rfl:(_:Heap)=_),?_⟩;(conv=>whnf))))))
    refine ⟨by simp at h1; omega, _, gl, ?_⟩
    (conv=>whnf);(try(refine ⟨(rfl:(_:Heap)=_),?_⟩;(conv=>whnf)))
    refine ⟨fun q1 => ?_, fun q1 => ?_⟩; rotate_left; (focus ((conv=>whnf);(try(refine ⟨(rfl:(_:Heap)=_),?_⟩;(conv=>whnf))); (repeat (first | (refine ⟨fun _ => ?_, fun h => absurd h (by decide)⟩; (conv=>whnf);(try(refine ⟨(rfl:(_:Heap)=_),?_⟩;(conv=>whnf)))) | (refine ⟨fun h => absurd h (by decide), fun _ => ?_⟩; (conv=>whnf);(try(refine ⟨(rfl:(_:Heap)=_),?_⟩;(conv=>whnf)))))); (refine ⟨rfl, .inr rfl, by rw [hlg]; simp [maxLen]; omega, by rw [hlg]; show (k + 1) * 64 ≤ _; omega, ?_⟩); (conv=>whnf);(try(refine ⟨(rfl:(_:Heap)=_),?_⟩;(conv=>whnf))); (refine .inl ⟨rfl, ?_, trivial⟩); (rw [i64_nat (by omega), eg, ← hv _ _ (by unfold pickT; rw [if_pos (by simp at h1 h2; omega), List.getElem?_eq_getElem h3]) (by unfold pickN; rw [if_neg (by simp at q1; omega)])]); exact Weak.covD 4 (by (conv => whnf); (repeat (refine ⟨rfl, ?_⟩; (conv => whnf))); exact trivial) rfl rfl rfl rfl rfl)); (conv=>whnf);(try(refine ⟨(rfl:(_:Heap)=_),?_⟩;(conv=>whnf))); (rw [m3]); refine ⟨fun q2 => ?_, fun q2 => ?_⟩; rotate_left; (focus ((conv=>whnf);(try(refine ⟨(rfl:(_:Heap)=_),?_⟩;(conv=>whnf))); (repeat (first | (refine ⟨fun _ => ?_, fun h => absurd h (by decide)⟩; (conv=>whnf);(try(refine ⟨(rfl:(_:Heap)=_),?_⟩;(conv=>whnf)))) | (refine ⟨fun h => absurd h (by decide), fun _ => ?_⟩; (conv=>whnf);(try(refine ⟨(rfl:(_:Heap)=_),?_⟩;(conv=>whnf)))))); (refine ⟨rfl, .inr rfl, by rw [hlg]; simp [maxLen]; omega, by rw [hlg]; show (k + 1) * 64 ≤ _; omega, ?_⟩); (conv=>whnf);(try(refine ⟨(rfl:(_:Heap)=_),?_⟩;(conv=>whnf))); (refine .inl ⟨rfl, ?_, trivial⟩); (rw [i64_nat (by omega), eg, ← hv _ _ (by unfold pickT; rw [if_pos (by simp at h1 h2; omega), List.getElem?_eq_getElem h3]) (by unfold pickN; rw [if_neg (by simp at q2; omega)])]); exact Weak.covD 4 (by (conv => whnf); (repeat (refine ⟨rfl, ?_⟩; (conv => whnf))); exact trivial) rfl rfl rfl rfl rfl)); (have q3 : r.cluster.toNat < s.clusters.length := by simp at q1 q2; omega); (have gq : (s.clusters.map encC)[r.cluster.toNat]? = some (encC s.clusters[r.cluster.toNat]) := by rw [List.getElem?_map, List.getElem?_eq_getElem q3]; rfl); (conv=>whnf);(try(refine ⟨(rfl:(_:Heap)=_),?_⟩;(conv=>whnf))); (repeat (first | (refine ⟨fun _ => ?_, fun h => absurd h (by decide)⟩; (conv=>whnf);(try(refine ⟨(rfl:(_:Heap)=_),?_⟩;(conv=>whnf)))) | (refine ⟨fun h => absurd h (by decide), fun _ => ?_⟩; (conv=>whnf);(try(refine ⟨(rfl:(_:Heap)=_),?_⟩;(conv=>whnf)))))); (refine ⟨by simp at q1; omega, _, gq, ?_⟩); (conv=>whnf);(try(refine ⟨(rfl:(_:Heap)=_),?_⟩;(conv=>whnf))); (refine ⟨rfl, .inr rfl, by rw [hlg]; simp [maxLen]; omega, by rw [hlg]; show (k + 1) * 64 ≤ _; omega, ?_⟩); (conv=>whnf);(try(refine ⟨(rfl:(_:Heap)=_),?_⟩;(conv=>whnf))); (refine .inl ⟨rfl, ?_, trivial⟩); (rw [i64_nat (by omega), eg, ← hv _ _ (by unfold pickT; rw [if_pos (by simp at h1 h2; omega), List.getElem?_eq_getElem h3]) (by unfold pickN; rw [if_pos (by simp at q1 q2; omega), List.getElem?_eq_getElem q3])]); exact Weak.covD 4 (by (conv => whnf); (repeat (refine ⟨rfl, ?_⟩; (conv => whnf))); exact trivial) rfl rfl rfl rfl rfl
  · (conv => whnf); (refine ⟨fun h => absurd h (by simp), fun _ => ?_⟩); (conv=>whnf);(try(refine ⟨(rfl:(_:Heap)=_),?_⟩;(conv=>whnf))); (refine ⟨by simp, ?_⟩); (conv => whnf)
    rw [List.take_length]
    exact ⟨.inl rfl, _, .refl _, rfl⟩
theorem snapIs_sound (s : Sna) (hs : SmallN s) : SoundAt Tryz.prog 53 [] [Cs s] (Bo (snapV s)) [] := by
  refine SoundAt.of_wpA1 (fn := Tryz.f53) Tryz.func53 rfl ?_
  conv => whnf
  refine ⟨_, _, (config_sound s hs).frame rfl _, ?_⟩; (conv=>whnf);(try(refine ⟨(rfl:(_:Heap)=_),?_⟩;(conv=>whnf)))
  refine ⟨_, _, (check_sound (cfgV s) hs.cfg).frame rfl _, ?_⟩; (conv=>whnf);(try(refine ⟨(rfl:(_:Heap)=_),?_⟩;(conv=>whnf)))
  refine ⟨fun h => ?_, fun h => ?_⟩
  · (conv=>whnf);(try(refine ⟨(rfl:(_:Heap)=_),?_⟩;(conv=>whnf)))
    (exact ⟨.inl rfl, _, .refl _, congrArg (fun b => some (C.v (Value.bool b))) (by unfold snapV; exact h.symm)⟩)
  · (conv=>whnf);(try(refine ⟨(rfl:(_:Heap)=_),?_⟩;(conv=>whnf)))
    (exact ⟨.inl rfl, _, .refl _, congrArg (fun b => some (C.v (Value.bool b))) (by unfold snapV; exact h.symm)⟩)
end Go.Wor
namespace Go.Wor
open Go.Ab Go.Proofs Go.Hy Go.Gat Go.Nam Go.Hos Go.Con Go.Sna
open Go.Slp (freshV fresh_sound)
set_option linter.unusedVariables false
set_option linter.unusedSimpArgs false
set_option maxRecDepth 100000
set_option maxHeartbeats 4000000
theorem first0 {f : Nat → Int} {n : Nat} (h : (firstE f n).1 = 0) : ∀ j, j < n → f j = 0 := fun j hj => by
  unfold firstE at h
  split at h
  · rename_i i hi
    rw [List.find?_range_eq_some] at hi
    exact absurd h (by simpa using hi.1)
  · rename_i hn
    rw [List.find?_range_eq_none] at hn
    simpa using hn j hj
structure GoodC (x : Clu) : Prop where
  name : nameV x.name = true
  policy : x.policy = 1 ∨ x.policy = 2
  slots : 1 ≤ x.slots ∧ x.slots ≤ 4
  health : 1 ≤ x.health.length ∧ x.health.length ≤ 4
structure GoodN (s : Sna) : Prop where
  listens : 1 ≤ s.listens.length ∧ s.listens.length ≤ 4
  rules : 1 ≤ s.rules.length ∧ s.rules.length ≤ 8
  clusters : 1 ≤ s.clusters.length ∧ s.clusters.length ≤ 4
  all : ∀ x ∈ s.clusters, GoodC x
theorem snap_good {s : Sna} (h : snapV s = true) : GoodN s := by
  unfold snapV at h
  have h : (checkV (cfgV s)).1 = 0 := by simpa using h
  unfold checkV at h
  split at h
  · contradiction
  rename_i h1
  split at h
  · contradiction
  rename_i h2
  split at h
  · contradiction
  rename_i h3
  have h1 : (sizeE (cfgV s)).1 = 0 := by simpa using h1
  unfold sizeE at h1
  split at h1
  · cases h1
  rename_i h4
  have e : (cfgV s).routes.length = s.rules.length := by simp [cfgV]
  rw [e] at h4
  simp only [show (cfgV s).listens = s.listens from rfl, show (cfgV s).clusters = s.clusters from rfl] at h4
  have b : ∀ n : Nat, ∀ m : Int, ¬ (decide (1 ≤ (n : Int)) && decide ((n : Int) ≤ m)) = false → 1 ≤ n ∧ (n : Int) ≤ m := fun n m hh => by simp at hh; omega
  have q1 := b s.listens.length 4 fun hh => h4 (.inl (.inl hh))
  have q2 := b s.rules.length 8 fun hh => h4 (.inl (.inr hh))
  have q3 := b s.clusters.length 4 fun hh => h4 (.inr hh)
  refine ⟨by omega, by omega, by omega, fun x hx => ?_⟩
  obtain ⟨i, hi, rfl⟩ := List.mem_iff_getElem.1 hx
  have h5 := first0 (f := cluE s.clusters) (n := s.clusters.length) (Decidable.of_not_not h3) i hi
  unfold cluE at h5
  rw [List.getElem?_eq_getElem hi] at h5
  dsimp only at h5
  split at h5
  · cases h5
  rename_i p1
  split at h5
  · cases h5
  split at h5
  · cases h5
  rename_i p2
  split at h5
  · cases h5
  rename_i p3
  split at h5
  · cases h5
  rename_i p4
  refine ⟨by simpa using p1, ?_, ?_, ?_⟩
  · by_cases a : s.clusters[i].policy = 1
    · exact .inl a
    · by_cases a2 : s.clusters[i].policy = 2
      · exact .inr a2
      · exact absurd ⟨a, a2⟩ p2
  · simp at p3; omega
  · simp at p4; omega
abbrev freshE (x : Clu) : En := (freshV x.slots).1
theorem fresh_ok {x : Clu} (h : GoodC x) : freshV x.slots = (freshE x, 0) := by
  have := h.slots
  unfold freshE freshV
  rw [if_neg (by omega)]
def grpV (x : Clu) : Gr := ⟨0, List.replicate x.health.length (freshE x)⟩
abbrev noSna : Sna := ⟨[], [], []⟩
abbrev noVer : Ver := ⟨noSna, [], false⟩
def cellsV (s : Sna) : Ver × Int := if snapV s then (⟨s, s.clusters.map grpV, false⟩, 0) else (noVer, 1)
abbrev Cv (v : Ver) : C := .agg (encV v)
abbrev tV (r : Ver × Int) : C := .tup [Cv r.1, I r.2]
theorem cells_sound (s : Sna) (hs : SmallN s) : SoundAt Tryz.prog 60 [] [Cs s] (tV (cellsV s)) [] := by
  have m1 : (s.clusters.map encC).length = s.clusters.length := List.length_map ..
  refine SoundAt.of_wpA1 (fn := Tryz.f60) Tryz.func60 rfl ?_
  conv => whnf
  refine ⟨_, _, (snapIs_sound s hs).frame rfl _, ?_⟩; (conv=>whnf);(try(refine ⟨(rfl:(_:Heap)=_),?_⟩;(conv=>whnf)))
  refine ⟨fun h1 => ?_, fun h1 => ?_⟩
  rotate_left
  · have e : cellsV s = (noVer, 1) := by unfold cellsV; rw [if_neg (by rw [h1]; decide)]
    rw [e]
    (conv=>whnf);(try(refine ⟨(rfl:(_:Heap)=_),?_⟩;(conv=>whnf)))
    (repeat (first | (refine ⟨fun _ => ?_, fun h => absurd h (by decide)⟩; (conv=>whnf);(try(refine ⟨(rfl:(_:Heap)=_),?_⟩;(conv=>whnf)))) | (refine ⟨fun h => absurd h (by decide), fun _ => ?_⟩; (conv=>whnf);(try(refine ⟨(rfl:(_:Heap)=_),?_⟩;(conv=>whnf))))))
    exact ⟨.inl rfl, _, Weak.var 1 rfl rfl rfl (.cons (WC.nil 0 1) (.cons (WC.nil 0 4) (.cons (WC.nil 0 4) (.cons (WC.nil 0 2) (.cons (.refl _) .nil))))), rfl⟩
  have e : cellsV s = (⟨s, s.clusters.map grpV, false⟩, 0) := by unfold cellsV; rw [if_pos h1]
  have hg := snap_good h1
  rw [e]
  (conv=>whnf);(try(refine ⟨(rfl:(_:Heap)=_),?_⟩;(conv=>whnf)))
  (repeat (first | (refine ⟨fun _ => ?_, fun h => absurd h (by decide)⟩; (conv=>whnf);(try(refine ⟨(rfl:(_:Heap)=_),?_⟩;(conv=>whnf)))) | (refine ⟨fun h => absurd h (by decide), fun _ => ?_⟩; (conv=>whnf);(try(refine ⟨(rfl:(_:Heap)=_),?_⟩;(conv=>whnf))))))
  rw [m1]
  refine Loops.seq s.clusters.length (fun k => [.junk, .ref 0 [] 3 0 0, .ref 1 [] 5 0 0, I 0, .ref 2 [] 5 0 0, .junk, .junk, .junk, .junk, .junk, .junk, .junk, .junk, .junk, .junk, .junk, .junk, lC s.clusters, I s.clusters.length, I k, .junk, .junk, .junk, .junk, .junk, .junk, .junk, .junk, .junk, .junk, .junk, .junk, .junk, .junk, .junk, .junk, .junk, .junk, .junk, .junk, .junk, .junk, .junk, .junk, .junk, .junk, .junk, .junk, .junk, .junk, .junk, .junk, .junk]) (fun k => [⟨1, 68, 3, [encS s], 0⟩, ⟨1, 71, 5, [[.lst 1 0 [], .lst 1 0 [], .lst 1 0 [], .lst 1 0 [], Bo false]], 0⟩, ⟨1, 71, 5, [encS s ++ [.gl 3 2 (((s.clusters.take k).map grpV).map encG), Bo false]], 0⟩, ⟨4, 75, 2, ((s.clusters.take k).map grpV).map encG, 0⟩]) (fun k => True) ?_ trivial (fun k hk hr => ?_) (fun hr => ?_)
  · refine Weak.trans (Weak.growH 2 3 75 2 rfl rfl (.inl rfl) rfl rfl) ?_
    exact Weak.cov (by (conv => whnf); (repeat (refine ⟨rfl, ?_⟩; (conv => whnf))); exact trivial)
  · obtain ⟨x, hx⟩ : ∃ x, x = s.clusters[k] := ⟨_, rfl⟩
    have hgx : (s.clusters.map encC)[k]? = some (encC x) := by rw [List.getElem?_map, List.getElem?_eq_getElem hk, hx]; rfl
    have hgood := hg.all x (by rw [hx]; exact List.getElem_mem hk)
    have hc4 := hg.clusters.2
    have h4 := hgood.health.2
    have hlg : (((s.clusters.take k).map grpV).map encG).length = k := by simp; omega
    have eg : ((s.clusters.take (k + 1)).map grpV).map encG = ((s.clusters.take k).map grpV).map encG ++ [encG (grpV x)] := by rw [List.take_succ_eq_append_getElem hk, ← hx]; simp
    have mh : (x.health.map encB).length = x.health.length := List.length_map ..
    have fs : SoundAt Tryz.prog 80 [] [I x.slots] (.tup [.agg (encE (freshE x)), I 0]) [] := by
      have := fresh_sound x.slots
      rw [fresh_ok hgood] at this
      exact this
    conv => whnf
    (refine ⟨fun _ => ?_, fun h => absurd h (by simp; omega)⟩); (conv=>whnf);(try(refine ⟨(rfl:(_:Heap)=_),?_⟩;(conv=>whnf)))
    (refine ⟨by omega, _, by rw [toNat_cast]; exact hgx, ?_⟩); (conv=>whnf);(try(refine ⟨(rfl:(_:Heap)=_),?_⟩;(conv=>whnf)))
    rw [mh]
    refine Loops.seq x.health.length (fun j => [.junk, .ref 0 [] 3 0 0, .ref 1 [] 5 0 0, I 0, .ref 2 [] 5 0 0, .junk, .ref 4 [] 4 0 0, .ref 5 [] 2 0 0, .junk, .junk, .junk, .junk, .junk, .junk, .junk, .junk, .junk, lC s.clusters, I s.clusters.length, I k, .junk, .junk, .junk, .junk, .junk, I x.health.length, I j, .junk, .junk, .junk, .junk, .junk, .junk, .junk, .junk, .junk, .junk, .junk, .junk, .junk, .junk, .junk, .junk, .junk, .junk, .junk, .junk, .junk, .junk, .junk, .junk, .junk, .junk]) (fun j => [⟨1, 68, 3, [encS s], 0⟩, ⟨1, 71, 5, [[.lst 1 0 [], .lst 1 0 [], .lst 1 0 [], .lst 1 0 [], Bo false]], 0⟩, ⟨1, 71, 5, [encS s ++ [.gl 3 2 (((s.clusters.take k).map grpV).map encG), Bo false]], 0⟩, ⟨4, 75, 2, ((s.clusters.take k).map grpV).map encG, 0⟩, ⟨1, 82, 4, [encC x], 0⟩, ⟨1, 75, 2, [[U 0, .gl 6 3 ((List.replicate j (freshE x)).map encE)]], 0⟩, ⟨4, 79, 3, ((List.replicate j (freshE x)).map encE), 0⟩]) (fun k => True) ?_ trivial (fun j hj hr => ?_) (fun hr => ?_)
    · refine Weak.trans (Weak.growH 5 1 79 3 rfl rfl (.inl rfl) rfl rfl) ?_
      exact Weak.cov (by (conv => whnf); (repeat (refine ⟨rfl, ?_⟩; (conv => whnf))); exact trivial)
    · have hle : (((List.replicate j (freshE x)).map encE)).length = j := by simp
      have ee : ((List.replicate (j + 1) (freshE x)).map encE) = ((List.replicate j (freshE x)).map encE) ++ [encE (freshE x)] := by rw [List.replicate_succ', List.map_append]; rfl
      conv => whnf
      (refine ⟨fun _ => ?_, fun h => absurd h (by simp; omega)⟩); (conv=>whnf);(try(refine ⟨(rfl:(_:Heap)=_),?_⟩;(conv=>whnf)))
      refine ⟨_, _, (fs).frame rfl _, ?_⟩; (conv=>whnf);(try(refine ⟨(rfl:(_:Heap)=_),?_⟩;(conv=>whnf)))
      (repeat (first | (refine ⟨fun _ => ?_, fun h => absurd h (by decide)⟩; (conv=>whnf);(try(refine ⟨(rfl:(_:Heap)=_),?_⟩;(conv=>whnf)))) | (refine ⟨fun h => absurd h (by decide), fun _ => ?_⟩; (conv=>whnf);(try(refine ⟨(rfl:(_:Heap)=_),?_⟩;(conv=>whnf))))))
      refine ⟨rfl, .inr rfl, by rw [hle]; simp [maxLen]; omega, by rw [hle]; show (j + 1) * 40 ≤ _; omega, ?_⟩
      (conv=>whnf);(try(refine ⟨(rfl:(_:Heap)=_),?_⟩;(conv=>whnf)))
      refine .inl ⟨rfl, ?_, trivial⟩
      rw [i64_nat (by omega), ee]
      exact Weak.covD 7 (by (conv => whnf); (repeat (refine ⟨rfl, ?_⟩; (conv => whnf))); exact trivial) rfl rfl rfl rfl rfl
    · (conv => whnf); (refine ⟨fun h => absurd h (by simp), fun _ => ?_⟩); (conv=>whnf);(try(refine ⟨(rfl:(_:Heap)=_),?_⟩;(conv=>whnf))); (refine ⟨by simp, ?_⟩); (conv => whnf)
      refine ⟨rfl, .inr rfl, by rw [hlg]; simp [maxLen]; omega, by rw [hlg]; show (k + 1) * 32 ≤ _; omega, ?_⟩
      (conv=>whnf);(try(refine ⟨(rfl:(_:Heap)=_),?_⟩;(conv=>whnf)))
      refine .inl ⟨rfl, ?_, trivial⟩
      rw [i64_nat (by omega), eg]
      exact Weak.covD 4 (by (conv => whnf); (repeat (refine ⟨rfl, ?_⟩; (conv => whnf))); exact trivial) rfl rfl rfl rfl rfl
  · (conv => whnf); (refine ⟨fun h => absurd h (by simp), fun _ => ?_⟩); (conv=>whnf);(try(refine ⟨(rfl:(_:Heap)=_),?_⟩;(conv=>whnf))); (refine ⟨by simp, ?_⟩); (conv => whnf)
    rw [List.take_length]
    exact ⟨.inl rfl, _, .refl _, rfl⟩
def shardV (n : Int) : List (List Int) × Int := if n < 1 ∨ 8 < n then ([], 1) else (List.replicate n.toNat [0, 0, 0, 0, 0, 0], 0)
abbrev tC0 (r : List (List Int) × Int) : C := .tup [lCo r.1, I r.2]
def shardIs (c : List (List Int)) : Bool := c.all (fun r => r.length == 6) && decide (1 ≤ c.length) && decide (c.length ≤ 8)
theorem shut_all {rows : List (List C)} (h : (rows.all fun r => r.all fun c => shutC c && noOwn c) = true) : ∀ r ∈ rows, ∀ c ∈ r, shutC c = true ∧ noOwn c = true := fun r hr c hc => by
  have := List.all_eq_true.1 (List.all_eq_true.1 h r hr) c hc
  simpa using this
theorem shut_map {α : Type} {enc : α → List C} (h : ∀ x, (enc x).all (fun c => shutC c && noOwn c) = true) (l : List α) : ∀ r ∈ l.map enc, ∀ c ∈ r, shutC c = true ∧ noOwn c = true :=
  shut_all (by rw [List.all_map]; exact List.all_eq_true.2 fun x _ => h x)
theorem low_kept {n ty sz fz : Nat} {rows : List (List C)} (h : ∀ r ∈ rows, ∀ c ∈ r, lowC n 9 c = true) : rowsLow n [⟨1, ty, sz, rows, fz⟩] = true := by
  unfold rowsLow
  simp only [List.all_cons, List.all_nil, Bool.and_true]
  simp
  exact h
theorem rep_set {α : Type} (a b : α) {k n : Nat} (h : k < n) : (List.replicate k a ++ List.replicate (n - k) b).set k a = List.replicate (k + 1) a ++ List.replicate (n - (k + 1)) b := by
  rw [List.set_append_right _ _ (by simp)]
  have e : n - k = (n - (k + 1)) + 1 := by omega
  simp only [List.length_replicate, Nat.sub_self]
  rw [e, List.replicate_succ, List.set_cons_zero, List.replicate_succ', List.append_assoc]
  rfl
theorem rep_get {α : Type} (a b : α) {k n : Nat} (h : k < n) : (List.replicate k a ++ List.replicate (n - k) b)[k]? = some b := by
  rw [List.getElem?_append_right (by simp)]
  simp only [List.length_replicate, Nat.sub_self]
  have e : n - k = (n - (k + 1)) + 1 := by omega
  rw [e, List.replicate_succ]
  rfl
theorem shardNew_sound (n : Int) : SoundAt Tryz.prog 61 [] [I n] (tC0 (shardV n)) [] := by
  refine SoundAt.of_wpA1 (fn := Tryz.f61) Tryz.func61 rfl ?_
  conv => whnf
  refine ⟨fun h1 => ?_, fun h1 => ?_⟩
  · have e : shardV n = ([], 1) := by unfold shardV; rw [if_pos (by simp at h1; omega)]
    rw [e]
    (conv=>whnf);(try(refine ⟨(rfl:(_:Heap)=_),?_⟩;(conv=>whnf)))
    (repeat (first | (refine ⟨fun _ => ?_, fun h => absurd h (by decide)⟩; (conv=>whnf);(try(refine ⟨(rfl:(_:Heap)=_),?_⟩;(conv=>whnf)))) | (refine ⟨fun h => absurd h (by decide), fun _ => ?_⟩; (conv=>whnf);(try(refine ⟨(rfl:(_:Heap)=_),?_⟩;(conv=>whnf))))))
    exact ⟨.inl rfl, _, Weak.cell 2 rfl (WC.nil 0 1), rfl⟩
  (conv=>whnf);(try(refine ⟨(rfl:(_:Heap)=_),?_⟩;(conv=>whnf)))
  refine ⟨fun h2 => ?_, fun h2 => ?_⟩
  · have e : shardV n = ([], 1) := by unfold shardV; rw [if_pos (by simp at h2; omega)]
    rw [e]
    (conv=>whnf);(try(refine ⟨(rfl:(_:Heap)=_),?_⟩;(conv=>whnf)))
    (repeat (first | (refine ⟨fun _ => ?_, fun h => absurd h (by decide)⟩; (conv=>whnf);(try(refine ⟨(rfl:(_:Heap)=_),?_⟩;(conv=>whnf)))) | (refine ⟨fun h => absurd h (by decide), fun _ => ?_⟩; (conv=>whnf);(try(refine ⟨(rfl:(_:Heap)=_),?_⟩;(conv=>whnf))))))
    exact ⟨.inl rfl, _, Weak.cell 2 rfl (WC.nil 0 1), rfl⟩
  have b1 : 1 ≤ n ∧ n ≤ 8 := by simp at h1 h2; omega
  have e : shardV n = (List.replicate n.toNat [0, 0, 0, 0, 0, 0], 0) := by unfold shardV; rw [if_neg (by omega)]
  rw [e]
  (conv=>whnf);(try(refine ⟨(rfl:(_:Heap)=_),?_⟩;(conv=>whnf)))
  refine ⟨rfl, by omega, by show (24 : Int) * n ≤ _; omega, by omega, ?_⟩
  (conv=>whnf);(try(refine ⟨(rfl:(_:Heap)=_),?_⟩;(conv=>whnf)))
  refine Loops.seq n.toNat (fun k => [I n, .junk, .lst 1 0 [], I 0, .sl 0 [] 1 0 n.toNat false, .junk, .junk, .junk, .junk, .junk, .junk, .junk, .junk, .junk, .junk, I n.toNat, I k, .junk, .junk, .junk, .junk, .junk, .junk, .junk, .junk]) (fun k => [⟨1, 0, 1, (List.replicate k [lU [0, 0, 0, 0, 0, 0]] ++ List.replicate (n.toNat - k) [C.lst 1 0 []]), 0⟩]) (fun k => True) ?_ trivial (fun k hk hr => ?_) (fun hr => ?_)
  · refine Weak.trans (Weak.keptA 0 rfl (by intro r hr c hc; rw [List.eq_of_mem_replicate hr] at hc; rw [List.mem_singleton.1 hc]; rfl)) ?_
    exact Weak.cov (by (conv => whnf); (repeat (refine ⟨rfl, ?_⟩; (conv => whnf))); exact trivial)
  · conv => whnf
    (refine ⟨fun _ => ?_, fun h => absurd h (by simp; omega)⟩); (conv=>whnf);(try(refine ⟨(rfl:(_:Heap)=_),?_⟩;(conv=>whnf)))
    refine ⟨rfl, by decide, by show (8 : Int) * 6 ≤ _; decide, by decide, ?_⟩
    (conv=>whnf);(try(refine ⟨(rfl:(_:Heap)=_),?_⟩;(conv=>whnf)))
    refine ⟨by omega, by simp; omega, ?_⟩
    (conv=>whnf);(try(refine ⟨(rfl:(_:Heap)=_),?_⟩;(conv=>whnf)))
    have e1 : 0 + (k : Int).toNat = k := by simp
    rw [e1]
    refine ⟨_, rep_get _ _ hk, rfl, ?_⟩
    (conv=>whnf);(try(refine ⟨(rfl:(_:Heap)=_),?_⟩;(conv=>whnf)))
    refine .inl ⟨rfl, ?_, trivial⟩
    refine Weak.trans (Weak.freezeC 0 k 0 (r := [.sl 1 [] 1 0 6 false]) rfl (by rw [List.getElem?_set, if_pos rfl, if_pos (by simp; omega)]; rfl) rfl rfl (.inr rfl) rfl rfl ?_ ?_) ?_
    · exact shut_all (rows := List.replicate 6 [U 0]) rfl
    · intro r hr c hc
      rcases List.mem_or_eq_of_mem_set hr with hr | rfl
      · rcases List.mem_append.1 hr with hr | hr <;> (rw [List.eq_of_mem_replicate hr] at hc; rw [List.mem_singleton.1 hc]; rfl)
      · rw [List.mem_singleton.1 hc]; rfl
    · have e3 : (List.replicate k [lU [0, 0, 0, 0, 0, 0]] ++ List.replicate (n.toNat - k) [C.lst 1 0 []]).set k [lU [0, 0, 0, 0, 0, 0]] = (List.replicate (k + 1) [lU [0, 0, 0, 0, 0, 0]] ++ List.replicate (n.toNat - (k + 1)) [C.lst 1 0 []]) := rep_set _ _ hk
      rw [List.set_set, ← e3, i64_nat (by omega)]
      refine Weak.covD 1 (by (conv => whnf); (repeat (refine ⟨rfl, ?_⟩; (conv => whnf))); exact trivial) rfl rfl rfl (low_kept (rows := (List.replicate k [lU [0, 0, 0, 0, 0, 0]] ++ List.replicate (n.toNat - k) [C.lst 1 0 []]).set k [lU [0, 0, 0, 0, 0, 0]]) fun r hr c hc => ?_) rfl
      rw [e3] at hr
      rcases List.mem_append.1 hr with hr | hr <;> (rw [List.eq_of_mem_replicate hr] at hc; rw [List.mem_singleton.1 hc]; rfl)
  · (conv => whnf); (refine ⟨fun h => absurd h (by simp), fun _ => ?_⟩); (conv=>whnf);(try(refine ⟨(rfl:(_:Heap)=_),?_⟩;(conv=>whnf))); (refine ⟨by simp, ?_⟩); (conv => whnf)
    have e4 : (List.replicate n.toNat [(0 : Int), 0, 0, 0, 0, 0]).map encCo = (List.replicate n.toNat [lU [0, 0, 0, 0, 0, 0]] ++ List.replicate (n.toNat - n.toNat) [C.lst 1 0 []]) := by rw [List.map_replicate, Nat.sub_self, List.replicate_zero, List.append_nil]; rfl
    have sh : ∀ r ∈ (List.replicate n.toNat [lU [0, 0, 0, 0, 0, 0]] ++ List.replicate (n.toNat - n.toNat) [C.lst 1 0 []]), ∀ c ∈ r, shutC c = true ∧ noOwn c = true := by
      rw [Nat.sub_self, List.replicate_zero, List.append_nil]
      intro r hr c hc
      rw [List.eq_of_mem_replicate hr] at hc
      rw [List.mem_singleton.1 hc]
      exact ⟨rfl, rfl⟩
    refine ⟨.inl rfl, _, Weak.freezeT 2 rfl rfl (.inl rfl) (by simp) sh, ?_⟩
    rw [← e4]
    rfl
theorem shardIs_sound (c : List (List Int)) (hc : c.length < 4000000000000000000) : SoundAt Tryz.prog 49 [] [lCo c] (Bo (shardIs c)) [] := by
  have m1 : (c.map encCo).length = c.length := List.length_map ..
  refine SoundAt.of_wpA1 (fn := Tryz.f49) Tryz.func49 rfl ?_
  conv => whnf
  rw [m1]
  refine Loops.seq c.length (fun k => [lCo c, .junk, Bo false, .junk, .junk, lCo c, I c.length, I k, .junk, .junk, .junk, .junk, .junk, .junk, .junk, .junk, .junk, .junk, .junk, .junk, .junk, .junk, .junk]) (fun k => []) (fun k => ∀ j, (h : j < c.length) → j < k → (c[j].length == 6) = true) ?_ (by simp) (fun k hk hr => ?_) (fun hr => ?_)
  · exact Weak.cov (by (conv => whnf); (repeat (refine ⟨rfl, ?_⟩; (conv => whnf))); exact trivial)
  · obtain ⟨x, hx⟩ : ∃ x, x = c[k] := ⟨_, rfl⟩
    have hg : (c.map encCo)[k]? = some (encCo x) := by rw [List.getElem?_map, List.getElem?_eq_getElem hk, hx]; rfl
    have mx : (x.map encU).length = x.length := List.length_map ..
    conv => whnf
    (refine ⟨fun _ => ?_, fun h => absurd h (by simp; omega)⟩); (conv=>whnf);(try(refine ⟨(rfl:(_:Heap)=_),?_⟩;(conv=>whnf)))
    (refine ⟨by omega, _, by rw [toNat_cast]; exact hg, ?_⟩); (conv=>whnf);(try(refine ⟨(rfl:(_:Heap)=_),?_⟩;(conv=>whnf)))
    rw [mx]
    refine ⟨fun h1 => ?_, fun h1 => ?_⟩
    · have hf : c.all (fun r => r.length == 6) = false := by
        rw [List.all_eq_false]
        exact ⟨x, by rw [hx]; exact List.getElem_mem hk, by simp at h1 ⊢; omega⟩
      have e : shardIs c = false := by unfold shardIs; rw [hf]; rfl
      rw [e]
      (conv=>whnf);(try(refine ⟨(rfl:(_:Heap)=_),?_⟩;(conv=>whnf)))
      (refine .inr ⟨by simp, ?_⟩); (conv => whnf)
      exact ⟨.inl rfl, _, .refl _, rfl⟩
    · (conv=>whnf);(try(refine ⟨(rfl:(_:Heap)=_),?_⟩;(conv=>whnf)))
      refine .inl ⟨rfl, ?_, fun j hj hjk => ?_⟩
      · rw [i64_nat (by omega)]
        exact Weak.covD 0 (by (conv => whnf); (repeat (refine ⟨rfl, ?_⟩; (conv => whnf))); exact trivial) rfl rfl rfl rfl rfl
      · by_cases e : j = k
        · subst e; rw [← hx]; simp at h1 ⊢; omega
        · exact hr j hj (by omega)
  · have ht : c.all (fun r => r.length == 6) = true := by
      rw [List.all_eq_true]
      intro r hr'
      obtain ⟨j, hj, rfl⟩ := List.mem_iff_getElem.1 hr'
      exact hr j hj hj
    have e : shardIs c = (decide (1 ≤ c.length) && decide (c.length ≤ 8)) := by unfold shardIs; rw [ht]; rfl
    rw [e]
    (conv => whnf); (refine ⟨fun h => absurd h (by simp), fun _ => ?_⟩); (conv=>whnf);(try(refine ⟨(rfl:(_:Heap)=_),?_⟩;(conv=>whnf))); (refine ⟨by simp, ?_⟩); (conv => whnf)
    rw [m1]
    refine ⟨fun h1 => ?_, fun h1 => ?_⟩
    · (conv=>whnf);(try(refine ⟨(rfl:(_:Heap)=_),?_⟩;(conv=>whnf)))
      rw [m1]
      refine ⟨fun h2 => ?_, fun h2 => ?_⟩
      · (conv=>whnf);(try(refine ⟨(rfl:(_:Heap)=_),?_⟩;(conv=>whnf)))
        (repeat (first | (refine ⟨fun _ => ?_, fun h => absurd h (by decide)⟩; (conv=>whnf);(try(refine ⟨(rfl:(_:Heap)=_),?_⟩;(conv=>whnf)))) | (refine ⟨fun h => absurd h (by decide), fun _ => ?_⟩; (conv=>whnf);(try(refine ⟨(rfl:(_:Heap)=_),?_⟩;(conv=>whnf))))))
        (exact ⟨.inl rfl, _, .refl _, congrArg (fun b => some (C.v (Value.bool b))) (by symm; simp at h1 h2 ⊢; omega)⟩)
      · (conv=>whnf);(try(refine ⟨(rfl:(_:Heap)=_),?_⟩;(conv=>whnf)))
        (repeat (first | (refine ⟨fun _ => ?_, fun h => absurd h (by decide)⟩; (conv=>whnf);(try(refine ⟨(rfl:(_:Heap)=_),?_⟩;(conv=>whnf)))) | (refine ⟨fun h => absurd h (by decide), fun _ => ?_⟩; (conv=>whnf);(try(refine ⟨(rfl:(_:Heap)=_),?_⟩;(conv=>whnf))))))
        (exact ⟨.inl rfl, _, .refl _, congrArg (fun b => some (C.v (Value.bool b))) (by symm; simp at h1 h2 ⊢; omega)⟩)
    · (conv=>whnf);(try(refine ⟨(rfl:(_:Heap)=_),?_⟩;(conv=>whnf)))
      (repeat (first | (refine ⟨fun _ => ?_, fun h => absurd h (by decide)⟩; (conv=>whnf);(try(refine ⟨(rfl:(_:Heap)=_),?_⟩;(conv=>whnf)))) | (refine ⟨fun h => absurd h (by decide), fun _ => ?_⟩; (conv=>whnf);(try(refine ⟨(rfl:(_:Heap)=_),?_⟩;(conv=>whnf))))))
      (exact ⟨.inl rfl, _, .refl _, congrArg (fun b => some (C.v (Value.bool b))) (by symm; simp at h1 ⊢; omega)⟩)
end Go.Wor
namespace Go.Wor
open Go.Ab Go.Proofs Go.Hy Go.Gat Go.Nam Go.Hos Go.Con Go.Sna
open Go.Slp (freshV fresh_sound)
set_option linter.unusedVariables false
set_option linter.unusedSimpArgs false
set_option maxRecDepth 100000
set_option maxHeartbeats 4000000
abbrev Cw (w : Wor) : C := .agg (encW w)
abbrev tW (r : Wor × Int) : C := .tup [Cw r.1, I r.2]
abbrev noWor : Wor := ⟨0, 0, 0, [], [], [], [], []⟩
def lis0 (s : Str) : Lis := ⟨s, false, 0, false⟩
def nameOk (l : List Str) (i : Nat) : Bool := match l[i]? with
  | some s => nameV s && decide (placeV ((l.take i).map lis0) s < 0)
  | none => true
def namesOk (l : List Str) : Bool := (List.range l.length).all (nameOk l)
def newV (s : Sna) (l : List Str) (n : Int) : Wor × Int :=
  if snapV s = false ∨ n < 1 ∨ 8 < n ∨ namesOk l = false then (noWor, 1)
  else (⟨0, 0, 0, List.replicate n.toNat 0, [(cellsV s).1], l.map lis0, List.replicate n.toNat [0, 0, 0, 0, 0, 0], []⟩, 0)
theorem new_sound (s : Sna) (l : List Str) (n : Int) (hs : SmallN s) (hl : l.length < 1000000000 ∧ ∀ x ∈ l, x.length < 4000000000000000000) : SoundAt Tryz.prog 44 [] [Cs s, lT l, I n] (tW (newV s l n)) [] := by
  have m1 : (l.map encT).length = l.length := List.length_map ..
  have cs := cells_sound s hs
  refine SoundAt.of_wpA1 (fn := Tryz.f44) Tryz.func44 rfl ?_
  conv => whnf
  by_cases h0 : snapV s = true
  rotate_left
  · have e : newV s l n = (noWor, 1) := by unfold newV; rw [if_pos (.inl (by simpa using h0))]
    have e2 : cellsV s = (noVer, 1) := by unfold cellsV; rw [if_neg h0]
    rw [e2] at cs
    have cs : SoundAt Tryz.prog 60 [] [Cs s] (.tup [Cv noVer, I 1]) [] := cs
    rw [e]
    refine ⟨_, _, (cs).frame rfl _, ?_⟩; (conv=>whnf);(try(refine ⟨(rfl:(_:Heap)=_),?_⟩;(conv=>whnf)))
    (repeat (first | (refine ⟨fun _ => ?_, fun h => absurd h (by decide)⟩; (conv=>whnf);(try(refine ⟨(rfl:(_:Heap)=_),?_⟩;(conv=>whnf)))) | (refine ⟨fun h => absurd h (by decide), fun _ => ?_⟩; (conv=>whnf);(try(refine ⟨(rfl:(_:Heap)=_),?_⟩;(conv=>whnf))))))
    exact ⟨.inl rfl, _, Weak.var 1 rfl rfl rfl (.cons (.refl _) (.cons (.refl _) (.cons (.refl _) (.cons (WC.nil 0 1) (.cons (WC.nil 0 5) (.cons (WC.nil 0 4) (.cons (WC.nil 0 1) (.cons (WC.nil 0 3) .nil)))))))), rfl⟩
  have e2 : cellsV s = ((cellsV s).1, 0) := by unfold cellsV; rw [if_pos h0]
  rw [e2] at cs
  have cs : SoundAt Tryz.prog 60 [] [Cs s] (.tup [Cv (cellsV s).1, I 0]) [] := cs
  have hn := shardNew_sound n
  refine ⟨_, _, (cs).frame rfl _, ?_⟩; (conv=>whnf);(try(refine ⟨(rfl:(_:Heap)=_),?_⟩;(conv=>whnf)))
  (repeat (first | (refine ⟨fun _ => ?_, fun h => absurd h (by decide)⟩; (conv=>whnf);(try(refine ⟨(rfl:(_:Heap)=_),?_⟩;(conv=>whnf)))) | (refine ⟨fun h => absurd h (by decide), fun _ => ?_⟩; (conv=>whnf);(try(refine ⟨(rfl:(_:Heap)=_),?_⟩;(conv=>whnf))))))
  by_cases h1 : n < 1 ∨ 8 < n
  · have e : newV s l n = (noWor, 1) := by unfold newV; rw [if_pos (by omega)]
    have e3 : shardV n = ([], 1) := by unfold shardV; rw [if_pos h1]
    rw [e3] at hn
    have hn : SoundAt Tryz.prog 61 [] [I n] (.tup [lCo [], I 1]) [] := hn
    rw [e]
    refine ⟨_, _, (hn).frame rfl _, ?_⟩; (conv=>whnf);(try(refine ⟨(rfl:(_:Heap)=_),?_⟩;(conv=>whnf)))
    (repeat (first | (refine ⟨fun _ => ?_, fun h => absurd h (by decide)⟩; (conv=>whnf);(try(refine ⟨(rfl:(_:Heap)=_),?_⟩;(conv=>whnf)))) | (refine ⟨fun h => absurd h (by decide), fun _ => ?_⟩; (conv=>whnf);(try(refine ⟨(rfl:(_:Heap)=_),?_⟩;(conv=>whnf))))))
    exact ⟨.inl rfl, _, Weak.var 1 rfl rfl rfl (.cons (.refl _) (.cons (.refl _) (.cons (.refl _) (.cons (WC.nil 0 1) (.cons (WC.nil 0 5) (.cons (WC.nil 0 4) (.cons (WC.nil 0 1) (.cons (WC.nil 0 3) .nil)))))))), rfl⟩
  have e3 : shardV n = (List.replicate n.toNat [0, 0, 0, 0, 0, 0], 0) := by unfold shardV; rw [if_neg h1]
  rw [e3] at hn
  have hn : SoundAt Tryz.prog 61 [] [I n] (.tup [lCo (List.replicate n.toNat [0, 0, 0, 0, 0, 0]), I 0]) [] := hn
  refine ⟨_, _, (hn).frame rfl _, ?_⟩; (conv=>whnf);(try(refine ⟨(rfl:(_:Heap)=_),?_⟩;(conv=>whnf)))
  (repeat (first | (refine ⟨fun _ => ?_, fun h => absurd h (by decide)⟩; (conv=>whnf);(try(refine ⟨(rfl:(_:Heap)=_),?_⟩;(conv=>whnf)))) | (refine ⟨fun h => absurd h (by decide), fun _ => ?_⟩; (conv=>whnf);(try(refine ⟨(rfl:(_:Heap)=_),?_⟩;(conv=>whnf))))))
  refine .inl ⟨⟨false, [0, 3], [2], []⟩, by kernel_rfl, ?_⟩; (conv => whnf)
  refine ⟨rfl, by omega, by show (8 : Int) * n ≤ _; omega, by omega, ?_⟩
  (conv=>whnf);(try(refine ⟨(rfl:(_:Heap)=_),?_⟩;(conv=>whnf)))
  repeat (refine ⟨rfl, ?_⟩; ((conv=>whnf);(try(refine ⟨(rfl:(_:Heap)=_),?_⟩;(conv=>whnf)))))
  rw [m1]
  have hb : namesOk l = false → newV s l n = (noWor, 1) := fun h => by unfold newV; rw [if_pos (.inr (.inr (.inr h)))]
  refine Loops.seq l.length (fun k => [.junk, .junk, .junk, .ref 0 [] 3 0 0, .junk, .junk, .ref 1 [] 8 0 0, I 0, .junk, .junk, .junk, .ref 3 [] 8 0 0, .junk, .junk, .junk, .junk, .junk, .junk, .junk, .junk, .junk, .junk, .junk, .junk, .junk, .junk, .junk, .junk, .junk, .junk, .junk, .junk, .junk, .junk, .junk, .junk, .junk, .junk, lT l, I l.length, I k, .junk, .junk, .junk, .junk, .junk, .junk, .junk, .junk, .junk, .junk, .junk, .junk, .junk, .junk, .junk, .junk, .junk, .junk, .junk, .junk, .junk, .junk, .junk]) (fun k => [⟨1, 68, 3, [encS s], 0⟩, ⟨1, 48, 8, [[I 0, I 0, I 0, .lst 1 0 [], .lst 1 0 [], .lst 1 0 [], .lst 1 0 [], .lst 1 0 []]], 0⟩, ⟨1, 71, 5, [encV (cellsV s).1], 0⟩, ⟨1, 48, 8, [[I 0, I 0, I 0, .lst 0 1 (List.replicate n.toNat [I 0]), .lst 1 5 [encV (cellsV s).1], .gl 4 4 (((l.take k).map lis0).map encL), lCo (List.replicate n.toNat [0, 0, 0, 0, 0, 0]), .lst 1 0 []]], 0⟩, ⟨4, 77, 4, ((l.take k).map lis0).map encL, 0⟩]) (fun k => ∀ j, j < k → nameOk l j = true) ?_ (by simp) (fun k hk hr => ?_) (fun hr => ?_)
  · refine Weak.trans (Weak.growH 3 5 77 4 rfl rfl (.inl rfl) rfl rfl) ?_
    exact Weak.cov (by (conv => whnf); (repeat (refine ⟨rfl, ?_⟩; (conv => whnf))); exact trivial)
  · obtain ⟨x, hx⟩ : ∃ x, x = l[k] := ⟨_, rfl⟩
    have hx2 : l[k]? = some x := by rw [List.getElem?_eq_getElem hk, hx]
    have hg : (l.map encT)[k]? = some (encT x) := by rw [List.getElem?_map, hx2]; rfl
    have hxm : x ∈ l := by rw [hx]; exact List.getElem_mem hk
    have hno : nameOk l k = (nameV x && decide (placeV ((l.take k).map lis0) x < 0)) := by unfold nameOk; rw [hx2]
    have bad : nameOk l k = false → newV s l n = (noWor, 1) := fun h => hb (by unfold namesOk; rw [List.all_eq_false]; exact ⟨k, by simpa using hk, by simp [h]⟩)
    have hlg : (((l.take k).map lis0).map encL).length = k := by simp; omega
    have eg : ((l.take (k + 1)).map lis0).map encL = ((l.take k).map lis0).map encL ++ [encL (lis0 x)] := by rw [List.take_succ_eq_append_getElem hk, ← hx]; simp
    conv => whnf
    (refine ⟨fun _ => ?_, fun h => absurd h (by simp; omega)⟩); (conv=>whnf);(try(refine ⟨(rfl:(_:Heap)=_),?_⟩;(conv=>whnf)))
    (refine ⟨by omega, _, by rw [toNat_cast]; exact hg, ?_⟩); (conv=>whnf);(try(refine ⟨(rfl:(_:Heap)=_),?_⟩;(conv=>whnf)))
    refine ⟨_, _, (name_sound x (by have := hl.2 x hxm; omega)).frame rfl _, ?_⟩; (conv=>whnf);(try(refine ⟨(rfl:(_:Heap)=_),?_⟩;(conv=>whnf)))
    refine ⟨fun h2 => ?_, fun h2 => ?_⟩
    rotate_left
    · rw [bad (by rw [hno, h2]; rfl)]
      (conv=>whnf);(try(refine ⟨(rfl:(_:Heap)=_),?_⟩;(conv=>whnf)))
      (repeat (first | (refine ⟨fun _ => ?_, fun h => absurd h (by decide)⟩; (conv=>whnf);(try(refine ⟨(rfl:(_:Heap)=_),?_⟩;(conv=>whnf)))) | (refine ⟨fun h => absurd h (by decide), fun _ => ?_⟩; (conv=>whnf);(try(refine ⟨(rfl:(_:Heap)=_),?_⟩;(conv=>whnf))))))
      (refine .inr ⟨by simp, ?_⟩); (conv => whnf)
      exact ⟨.inl rfl, _, Weak.var 1 rfl rfl rfl (.cons (.refl _) (.cons (.refl _) (.cons (.refl _) (.cons (WC.nil 0 1) (.cons (WC.nil 0 5) (.cons (WC.nil 0 4) (.cons (WC.nil 0 1) (.cons (WC.nil 0 3) .nil)))))))), rfl⟩
    (conv=>whnf);(try(refine ⟨(rfl:(_:Heap)=_),?_⟩;(conv=>whnf)))
    refine ⟨_, _, (place_sound ((l.take k).map lis0) x (by simp; omega)).frame rfl _, ?_⟩; (conv=>whnf);(try(refine ⟨(rfl:(_:Heap)=_),?_⟩;(conv=>whnf)))
    refine ⟨fun h3 => ?_, fun h3 => ?_⟩
    · rw [bad (by rw [hno, show decide (placeV ((l.take k).map lis0) x < 0) = false from by simp at h3 ⊢; omega, Bool.and_false])]
      (conv=>whnf);(try(refine ⟨(rfl:(_:Heap)=_),?_⟩;(conv=>whnf)))
      (repeat (first | (refine ⟨fun _ => ?_, fun h => absurd h (by decide)⟩; (conv=>whnf);(try(refine ⟨(rfl:(_:Heap)=_),?_⟩;(conv=>whnf)))) | (refine ⟨fun h => absurd h (by decide), fun _ => ?_⟩; (conv=>whnf);(try(refine ⟨(rfl:(_:Heap)=_),?_⟩;(conv=>whnf))))))
      (refine .inr ⟨by simp, ?_⟩); (conv => whnf)
      exact ⟨.inl rfl, _, Weak.var 1 rfl rfl rfl (.cons (.refl _) (.cons (.refl _) (.cons (.refl _) (.cons (WC.nil 0 1) (.cons (WC.nil 0 5) (.cons (WC.nil 0 4) (.cons (WC.nil 0 1) (.cons (WC.nil 0 3) .nil)))))))), rfl⟩
    (conv=>whnf);(try(refine ⟨(rfl:(_:Heap)=_),?_⟩;(conv=>whnf)))
    (repeat (first | (refine ⟨fun _ => ?_, fun h => absurd h (by decide)⟩; (conv=>whnf);(try(refine ⟨(rfl:(_:Heap)=_),?_⟩;(conv=>whnf)))) | (refine ⟨fun h => absurd h (by decide), fun _ => ?_⟩; (conv=>whnf);(try(refine ⟨(rfl:(_:Heap)=_),?_⟩;(conv=>whnf))))))
    refine ⟨rfl, .inr rfl, by rw [hlg]; simp [maxLen]; omega, by rw [hlg]; show (k + 1) * 40 ≤ _; omega, ?_⟩
    (conv=>whnf);(try(refine ⟨(rfl:(_:Heap)=_),?_⟩;(conv=>whnf)))
    refine .inl ⟨rfl, ?_, fun j hj => ?_⟩
    · rw [i64_nat (by omega), eg]
      exact Weak.covD 5 (by (conv => whnf); (repeat (refine ⟨rfl, ?_⟩; (conv => whnf))); exact trivial) rfl rfl rfl rfl rfl
    · by_cases e : j = k
      · subst e
        rw [hno, h2]
        simp at h3 ⊢
        omega
      · exact hr j (by omega)
  · have hall : namesOk l = true := by
      unfold namesOk
      rw [List.all_eq_true]
      intro i hi
      exact hr i (by simpa using hi)
    have e : newV s l n = (⟨0, 0, 0, List.replicate n.toNat 0, [(cellsV s).1], l.map lis0, List.replicate n.toNat [0, 0, 0, 0, 0, 0], []⟩, 0) := by unfold newV; rw [if_neg (by simp only [h0, hall]; simp; omega)]
    rw [e]
    (conv => whnf); (refine ⟨fun h => absurd h (by simp), fun _ => ?_⟩); (conv=>whnf);(try(refine ⟨(rfl:(_:Heap)=_),?_⟩;(conv=>whnf))); (refine ⟨by simp, ?_⟩); (conv => whnf)
    rw [List.take_length]
    refine ⟨.inl rfl, _, Weak.var 1 rfl rfl rfl (.cons (.refl _) (.cons (.refl _) (.cons (.refl _) (.cons (.refl _) (.cons (WC.share 1 5 _) (.cons (.refl _) (.cons (.refl _) (.cons (WC.nil 0 3) .nil)))))))), ?_⟩
    have e9 : encW ⟨0, 0, 0, List.replicate n.toNat 0, [(cellsV s).1], l.map lis0, List.replicate n.toNat [0, 0, 0, 0, 0, 0], []⟩ = [I 0, I 0, I 0, .lst 0 1 (List.replicate n.toNat [I 0]), .lst 0 5 [encV (cellsV s).1], lL (l.map lis0), lCo (List.replicate n.toNat [0, 0, 0, 0, 0, 0]), .lst 0 3 []] := by
      have e8 : (List.replicate n.toNat (0 : Int)).map encI = List.replicate n.toNat [I 0] := List.map_replicate
      show [I 0, I 0, I 0, C.lst 0 1 ((List.replicate n.toNat (0 : Int)).map encI), _, _, _, _] = _
      rw [e8]
      rfl
    show _ = some (C.tup [C.agg (encW ⟨0, 0, 0, List.replicate n.toNat 0, [(cellsV s).1], l.map lis0, List.replicate n.toNat [0, 0, 0, 0, 0, 0], []⟩), I 0])
    rw [e9]
    rfl
end Go.Wor
namespace Go.Wor
open Go.Ab Go.Proofs Go.Hy Go.Gat Go.Nam Go.Hos Go.Con Go.Sna
set_option linter.unusedVariables false
set_option linter.unusedSimpArgs false
set_option maxRecDepth 100000
set_option maxHeartbeats 4000000
theorem fill_get {F : List (List C)} {z : List C} {k n : Nat} (hF : F.length = n) (h : k < n) : (F.take k ++ (List.replicate n z).drop k)[k]? = some z := by
  rw [List.getElem?_append_right (by simp; omega), List.length_take, List.getElem?_drop, List.getElem?_replicate, if_pos (by omega)]
theorem fill_set {F : List (List C)} {x z : List C} {k n : Nat} (hx : F[k]? = some x) (hn : k < n) : (F.take k ++ (List.replicate n z).drop k).set k x = F.take (k + 1) ++ (List.replicate n z).drop (k + 1) := by
  obtain ⟨hk, rfl⟩ := List.getElem?_eq_some_iff.1 hx
  have e1 : (F.take k).length = k := by simp; omega
  rw [List.set_append_right _ _ (by omega), e1, Nat.sub_self, List.drop_replicate, List.drop_replicate, List.take_succ_eq_append_getElem hk, List.append_assoc]
  have e2 : n - k = (n - (k + 1)) + 1 := by omega
  rw [e2, List.replicate_succ]
  rfl
theorem fill_done {F : List (List C)} {z : List C} {n : Nat} (hF : F.length = n) : F.take n ++ (List.replicate n z).drop n = F := by
  rw [List.take_of_length_le (by omega), List.drop_of_length_le (by simp), List.append_nil]
theorem cloI_arr (x : Int) (l : List Int) (hl : l.length < 1000000000) : SoundAt Tryz.prog 126 [] [lI (x :: l)] (.sl 0 [] 1 0 (x :: l).length false) [⟨2, 3, 1, (x :: l).map encI, 0⟩] := by
  have e : 0 + ((l.map encI).length + 1) = (x :: l).length := by simp
  rw [← e]
  refine SoundAt.of_wpA (fn := Tryz.f126) Tryz.func126 rfl ?_
  conv => whnf
  refine ⟨by simp, ?_⟩
  conv => whnf
  refine .inr ⟨.inl rfl, by simp [maxLen]; omega, by show _ * 8 ≤ _; simp; omega, ?_⟩
  conv => whnf
  exact ⟨.inl rfl, _, .refl _, rfl, rfl⟩
theorem cloI_val (l : List Int) (hl : l.length < 1000000000) : SoundAt Tryz.prog 126 [] [lI l] (lI l) [] := by
  cases l with
  | nil =>
    refine SoundAt.of_wpA1 (fn := Tryz.f126) Tryz.func126 rfl ?_
    conv => whnf
    refine ⟨?_, ?_⟩
    · (conv=>whnf);(try(refine ⟨(rfl:(_:Heap)=_),?_⟩;(conv=>whnf)))
      exact ⟨.inl rfl, _, Weak.cell 2 rfl (WC.nil 0 1), rfl⟩
    · (conv=>whnf);(try(refine ⟨(rfl:(_:Heap)=_),?_⟩;(conv=>whnf)))
      refine .inr ⟨rfl, ?_⟩
      (conv=>whnf);(try(refine ⟨(rfl:(_:Heap)=_),?_⟩;(conv=>whnf)))
      exact ⟨.inl rfl, _, Weak.cell 2 rfl ((WC.none 1 1 1).trans (WC.share 1 1 [])), rfl⟩
  | cons x l =>
    have hl3 : l.length + 1 < 1000000000 := by simpa using hl
    refine SoundAt.of_wpA1 (fn := Tryz.f126) Tryz.func126 rfl ?_
    conv => whnf
    refine ⟨by simp, ?_⟩
    conv => whnf
    refine .inr ⟨.inl rfl, by simp [maxLen]; omega, by show _ * 8 ≤ _; simp; omega, ?_⟩
    conv => whnf
    exact ⟨.inl rfl, _, Weak.freezeT 2 rfl rfl (.inr rfl) (by simp) (shut_map (fun _ => rfl) (x :: l)), rfl⟩
theorem cloU_arr (x : Int) (l : List Int) (hl : l.length < 1000000000) : SoundAt Tryz.prog 164 [] [lU (x :: l)] (.sl 0 [] 1 0 (x :: l).length false) [⟨2, 32, 1, (x :: l).map encU, 0⟩] := by
  have e : 0 + ((l.map encU).length + 1) = (x :: l).length := by simp
  rw [← e]
  refine SoundAt.of_wpA (fn := Tryz.f164) Tryz.func164 rfl ?_
  conv => whnf
  refine ⟨by simp, ?_⟩
  conv => whnf
  refine .inr ⟨.inl rfl, by simp [maxLen]; omega, by show _ * 8 ≤ _; simp; omega, ?_⟩
  conv => whnf
  exact ⟨.inl rfl, _, .refl _, rfl, rfl⟩
theorem cloU_val (l : List Int) (hl : l.length < 1000000000) : SoundAt Tryz.prog 164 [] [lU l] (lU l) [] := by
  cases l with
  | nil =>
    refine SoundAt.of_wpA1 (fn := Tryz.f164) Tryz.func164 rfl ?_
    conv => whnf
    refine ⟨?_, ?_⟩
    · (conv=>whnf);(try(refine ⟨(rfl:(_:Heap)=_),?_⟩;(conv=>whnf)))
      exact ⟨.inl rfl, _, Weak.cell 2 rfl (WC.nil 0 1), rfl⟩
    · (conv=>whnf);(try(refine ⟨(rfl:(_:Heap)=_),?_⟩;(conv=>whnf)))
      refine .inr ⟨rfl, ?_⟩
      (conv=>whnf);(try(refine ⟨(rfl:(_:Heap)=_),?_⟩;(conv=>whnf)))
      exact ⟨.inl rfl, _, Weak.cell 2 rfl ((WC.none 1 1 1).trans (WC.share 1 1 [])), rfl⟩
  | cons x l =>
    have hl3 : l.length + 1 < 1000000000 := by simpa using hl
    refine SoundAt.of_wpA1 (fn := Tryz.f164) Tryz.func164 rfl ?_
    conv => whnf
    refine ⟨by simp, ?_⟩
    conv => whnf
    refine .inr ⟨.inl rfl, by simp [maxLen]; omega, by show _ * 8 ≤ _; simp; omega, ?_⟩
    conv => whnf
    exact ⟨.inl rfl, _, Weak.freezeT 2 rfl rfl (.inr rfl) (by simp) (shut_map (fun _ => rfl) (x :: l)), rfl⟩
theorem cloL_arr (x : Lis) (l : List Lis) (hl : l.length < 1000000000) : SoundAt Tryz.prog 129 [] [lL (x :: l)] (.sl 0 [] 4 0 (x :: l).length false) [⟨2, 77, 4, (x :: l).map encL, 0⟩] := by
  have e : 0 + ((l.map encL).length + 1) = (x :: l).length := by simp
  rw [← e]
  refine SoundAt.of_wpA (fn := Tryz.f129) Tryz.func129 rfl ?_
  conv => whnf
  refine ⟨by simp, ?_⟩
  conv => whnf
  refine .inr ⟨.inl rfl, by simp [maxLen]; omega, by show _ * 40 ≤ _; simp; omega, ?_⟩
  conv => whnf
  exact ⟨.inl rfl, _, .refl _, rfl, rfl⟩
theorem cloL_val (l : List Lis) (hl : l.length < 1000000000) : SoundAt Tryz.prog 129 [] [lL l] (lL l) [] := by
  cases l with
  | nil =>
    refine SoundAt.of_wpA1 (fn := Tryz.f129) Tryz.func129 rfl ?_
    conv => whnf
    refine ⟨?_, ?_⟩
    · (conv=>whnf);(try(refine ⟨(rfl:(_:Heap)=_),?_⟩;(conv=>whnf)))
      exact ⟨.inl rfl, _, Weak.cell 2 rfl (WC.nil 0 4), rfl⟩
    · (conv=>whnf);(try(refine ⟨(rfl:(_:Heap)=_),?_⟩;(conv=>whnf)))
      refine .inr ⟨rfl, ?_⟩
      (conv=>whnf);(try(refine ⟨(rfl:(_:Heap)=_),?_⟩;(conv=>whnf)))
      exact ⟨.inl rfl, _, Weak.cell 2 rfl ((WC.none 1 4 4).trans (WC.share 1 4 [])), rfl⟩
  | cons x l =>
    have hl3 : l.length + 1 < 1000000000 := by simpa using hl
    refine SoundAt.of_wpA1 (fn := Tryz.f129) Tryz.func129 rfl ?_
    conv => whnf
    refine ⟨by simp, ?_⟩
    conv => whnf
    refine .inr ⟨.inl rfl, by simp [maxLen]; omega, by show _ * 40 ≤ _; simp; omega, ?_⟩
    conv => whnf
    exact ⟨.inl rfl, _, Weak.freezeT 2 rfl rfl (.inr rfl) (by simp) (shut_map (fun _ => rfl) (x :: l)), rfl⟩
theorem cloR_val (l : List Ret) (hl : l.length < 1000000000) : SoundAt Tryz.prog 132 [] [lR l] (lR l) [] := by
  cases l with
  | nil =>
    refine SoundAt.of_wpA1 (fn := Tryz.f132) Tryz.func132 rfl ?_
    conv => whnf
    refine ⟨?_, ?_⟩
    · (conv=>whnf);(try(refine ⟨(rfl:(_:Heap)=_),?_⟩;(conv=>whnf)))
      exact ⟨.inl rfl, _, Weak.cell 2 rfl (WC.nil 0 3), rfl⟩
    · (conv=>whnf);(try(refine ⟨(rfl:(_:Heap)=_),?_⟩;(conv=>whnf)))
      refine .inr ⟨rfl, ?_⟩
      (conv=>whnf);(try(refine ⟨(rfl:(_:Heap)=_),?_⟩;(conv=>whnf)))
      exact ⟨.inl rfl, _, Weak.cell 2 rfl ((WC.none 1 3 3).trans (WC.share 1 3 [])), rfl⟩
  | cons x l =>
    have hl3 : l.length + 1 < 1000000000 := by simpa using hl
    refine SoundAt.of_wpA1 (fn := Tryz.f132) Tryz.func132 rfl ?_
    conv => whnf
    refine ⟨by simp, ?_⟩
    conv => whnf
    refine .inr ⟨.inl rfl, by simp [maxLen]; omega, by show _ * 24 ≤ _; simp; omega, ?_⟩
    conv => whnf
    exact ⟨.inl rfl, _, Weak.freezeT 2 rfl rfl (.inr rfl) (by simp) (shut_map (fun _ => rfl) (x :: l)), rfl⟩
theorem endV_sound (e : En) (he : e.next.length < 1000000000) : SoundAt Tryz.prog 176 [] [.agg [], .agg (encE e)] (.agg (encE e)) [] := by
  refine SoundAt.of_wpA1 (fn := Tryz.f176) Tryz.func176 rfl ?_
  conv => whnf
  refine ⟨_, _, (cloI_val e.next he).frame rfl _, ?_⟩; (conv=>whnf);(try(refine ⟨(rfl:(_:Heap)=_),?_⟩;(conv=>whnf)))
  exact ⟨.inl rfl, _, .refl _, rfl⟩
theorem eaE_arr (l : List En) (hl : l.length < 1000000000) (hp : ∀ x ∈ l, SoundAt Tryz.prog 176 [] [.agg [], .agg (encE x)] (.agg (encE x)) []) : SoundAt Tryz.prog 175 [] [lE l, .fn 176 [] [], .agg []] (.sl 0 [] 3 0 l.length false) [⟨2, 79, 3, l.map encE, 0⟩] := by
  have m1 : (l.map encE).length = l.length := List.length_map ..
  refine SoundAt.of_wpA (fn := Tryz.f175) Tryz.func175 rfl ?_
  conv => whnf
  rw [m1]
  refine ⟨rfl, by omega, by show (40 : Int) * _ ≤ _; omega, by omega, ?_⟩
  (conv=>whnf);(try(refine ⟨(rfl:(_:Heap)=_),?_⟩;(conv=>whnf)))
  rw [m1, toNat_cast]
  refine Loops.seq l.length (fun k => [lE l, .fn 176 [] [], .junk, .junk, .junk, .ref 0 [] 0 0 0, .lst 1 0 [], .sl 1 [] 3 0 l.length false, .junk, .junk, .junk, .junk, .junk, lE l, I l.length, I k, .junk, .junk, .junk, .junk, .junk, .junk, .junk, .junk, .junk, .junk, .junk, .junk, .junk]) (fun k => [⟨1, 187, 0, [[]], 0⟩, ⟨2, 79, 3, (l.map encE).take k ++ (List.replicate l.length [U 0, .lst 1 0 [], I 0]).drop k, 0⟩]) (fun k => True) ?_ trivial (fun k hk hr => ?_) (fun hr => ?_)
  · exact Weak.cov (by (conv => whnf); (repeat (refine ⟨rfl, ?_⟩; (conv => whnf))); exact trivial)
  · obtain ⟨x, hx⟩ : ∃ x, x = l[k] := ⟨_, rfl⟩
    have hx2 : l[k]? = some x := by rw [List.getElem?_eq_getElem hk, hx]
    have hg : (l.map encE)[k]? = some (encE x) := by rw [List.getElem?_map, hx2]; rfl
    conv => whnf
    (refine ⟨fun _ => ?_, fun h => absurd h (by simp; omega)⟩); (conv=>whnf);(try(refine ⟨(rfl:(_:Heap)=_),?_⟩;(conv=>whnf)))
    (refine ⟨by omega, _, by rw [toNat_cast]; exact hg, ?_⟩); (conv=>whnf);(try(refine ⟨(rfl:(_:Heap)=_),?_⟩;(conv=>whnf)))
    refine ⟨_, _, (hp x (by rw [hx]; exact List.getElem_mem hk)).frame rfl _, ?_⟩; (conv=>whnf);(try(refine ⟨(rfl:(_:Heap)=_),?_⟩;(conv=>whnf)))
    refine ⟨by omega, by simp; omega, ?_⟩
    (conv=>whnf);(try(refine ⟨(rfl:(_:Heap)=_),?_⟩;(conv=>whnf)))
    have e1 : 0 + (k : Int).toNat = k := by simp
    rw [e1]
    refine ⟨_, fill_get (by simp) hk, rfl, ?_⟩
    (conv=>whnf);(try(refine ⟨(rfl:(_:Heap)=_),?_⟩;(conv=>whnf)))
    refine .inl ⟨rfl, ?_, trivial⟩
    have e2 := fill_set (z := [U 0, .lst 1 0 [], I 0]) (n := l.length) hg hk
    rw [i64_nat (by omega), ← e2]
    exact Weak.covD 2 (by (conv => whnf); (repeat (refine ⟨rfl, ?_⟩; (conv => whnf))); exact trivial) rfl rfl rfl rfl rfl
  · (conv => whnf); (refine ⟨fun h => absurd h (by simp), fun _ => ?_⟩); (conv=>whnf);(try(refine ⟨(rfl:(_:Heap)=_),?_⟩;(conv=>whnf))); (refine ⟨by simp, ?_⟩); (conv => whnf)
    rw [fill_done (by simp)]
    exact ⟨.inl rfl, _, Weak.ren [1] [6] _ _ rfl rfl rfl rfl, rfl, rfl⟩
theorem one_noOwn {r : List C} (h : r.all noOwn = true) : ∀ q ∈ [r], ∀ c ∈ q, noOwn c = true := fun q hq c hc => by
  rw [List.mem_singleton.1 hq] at hc
  exact List.all_eq_true.1 h c hc
def SmGr (g : Gr) : Prop := g.ends.length < 1000000000 ∧ ∀ e ∈ g.ends, e.next.length < 1000000000
def SmVer (v : Ver) : Prop := v.groups.length < 1000000000 ∧ ∀ g ∈ v.groups, SmGr g
structure SmWor (w : Wor) : Prop where
  pins : w.pins.length < 1000000000
  versions : w.versions.length < 1000000000 ∧ ∀ v ∈ w.versions, SmVer v
  listens : w.listens.length < 1000000000
  counts : w.counts.length < 1000000000 ∧ ∀ r ∈ w.counts, r.length < 1000000000
  limbo : w.limbo.length < 1000000000
theorem groupV_sound (g : Gr) (hg : SmGr g) : SoundAt Tryz.prog 163 [] [.agg [], .agg (encG g)] (.agg (encG g)) [] := by
  refine SoundAt.of_wpA1 (fn := Tryz.f163) Tryz.func163 rfl ?_
  conv => whnf
  refine callPart [] (eaE_arr g.ends hg.1 fun e he => endV_sound e (hg.2 e he)) rfl rfl rfl rfl rfl rfl ?_; (conv=>whnf);(try(refine ⟨(rfl:(_:Heap)=_),?_⟩;(conv=>whnf)))
  exact ⟨.inl rfl, _, Weak.freezeC 2 0 1 rfl rfl rfl rfl (.inr rfl) rfl (by simp) (shut_map (enc := encE) (fun _ => rfl) g.ends) (one_noOwn rfl), rfl⟩
theorem eaG_arr (l : List Gr) (hl : l.length < 1000000000) (hp : ∀ x ∈ l, SoundAt Tryz.prog 163 [] [.agg [], .agg (encG x)] (.agg (encG x)) []) : SoundAt Tryz.prog 162 [] [lG l, .fn 163 [] [], .agg []] (.sl 0 [] 2 0 l.length false) [⟨2, 75, 2, l.map encG, 0⟩] := by
  have m1 : (l.map encG).length = l.length := List.length_map ..
  refine SoundAt.of_wpA (fn := Tryz.f162) Tryz.func162 rfl ?_
  conv => whnf
  rw [m1]
  refine ⟨rfl, by omega, by show (32 : Int) * _ ≤ _; omega, by omega, ?_⟩
  (conv=>whnf);(try(refine ⟨(rfl:(_:Heap)=_),?_⟩;(conv=>whnf)))
  rw [m1, toNat_cast]
  refine Loops.seq l.length (fun k => [lG l, .fn 163 [] [], .junk, .junk, .junk, .ref 0 [] 0 0 0, .lst 1 0 [], .sl 1 [] 2 0 l.length false, .junk, .junk, .junk, .junk, .junk, lG l, I l.length, I k, .junk, .junk, .junk, .junk, .junk, .junk, .junk, .junk, .junk, .junk, .junk, .junk, .junk]) (fun k => [⟨1, 187, 0, [[]], 0⟩, ⟨2, 75, 2, (l.map encG).take k ++ (List.replicate l.length ([U 0, .lst 1 0 []] : List C)).drop k, 0⟩]) (fun k => True) ?_ trivial (fun k hk hr => ?_) (fun hr => ?_)
  · exact Weak.cov (by (conv => whnf); (repeat (refine ⟨rfl, ?_⟩; (conv => whnf))); exact trivial)
  · obtain ⟨x, hx⟩ : ∃ x, x = l[k] := ⟨_, rfl⟩
    have hx2 : l[k]? = some x := by rw [List.getElem?_eq_getElem hk, hx]
    have hg : (l.map encG)[k]? = some (encG x) := by rw [List.getElem?_map, hx2]; rfl
    conv => whnf
    (refine ⟨fun _ => ?_, fun h => absurd h (by simp; omega)⟩); (conv=>whnf);(try(refine ⟨(rfl:(_:Heap)=_),?_⟩;(conv=>whnf)))
    (refine ⟨by omega, _, by rw [toNat_cast]; exact hg, ?_⟩); (conv=>whnf);(try(refine ⟨(rfl:(_:Heap)=_),?_⟩;(conv=>whnf)))
    refine ⟨_, _, (hp x (by rw [hx]; exact List.getElem_mem hk)).frame rfl _, ?_⟩; (conv=>whnf);(try(refine ⟨(rfl:(_:Heap)=_),?_⟩;(conv=>whnf)))
    refine ⟨by omega, by simp; omega, ?_⟩
    (conv=>whnf);(try(refine ⟨(rfl:(_:Heap)=_),?_⟩;(conv=>whnf)))
    have e1 : 0 + (k : Int).toNat = k := by simp
    rw [e1]
    refine ⟨_, fill_get (by simp) hk, rfl, ?_⟩
    (conv=>whnf);(try(refine ⟨(rfl:(_:Heap)=_),?_⟩;(conv=>whnf)))
    refine .inl ⟨rfl, ?_, trivial⟩
    have e2 := fill_set (z := ([U 0, .lst 1 0 []] : List C)) (n := l.length) hg hk
    rw [i64_nat (by omega), ← e2]
    exact Weak.covD 2 (by (conv => whnf); (repeat (refine ⟨rfl, ?_⟩; (conv => whnf))); exact trivial) rfl rfl rfl rfl rfl
  · (conv => whnf); (refine ⟨fun h => absurd h (by simp), fun _ => ?_⟩); (conv=>whnf);(try(refine ⟨(rfl:(_:Heap)=_),?_⟩;(conv=>whnf))); (refine ⟨by simp, ?_⟩); (conv => whnf)
    rw [fill_done (by simp)]
    exact ⟨.inl rfl, _, Weak.ren [1] [6] _ _ rfl rfl rfl rfl, rfl, rfl⟩
theorem versionV_sound (v : Ver) (hv : SmVer v) : SoundAt Tryz.prog 128 [] [.agg [], .agg (encV v)] (.agg (encV v)) [] := by
  refine SoundAt.of_wpA1 (fn := Tryz.f128) Tryz.func128 rfl ?_
  conv => whnf
  refine callPart [] (eaG_arr v.groups hv.1 fun g hg => groupV_sound g (hv.2 g hg)) rfl rfl rfl rfl rfl rfl ?_; (conv=>whnf);(try(refine ⟨(rfl:(_:Heap)=_),?_⟩;(conv=>whnf)))
  exact ⟨.inl rfl, _, Weak.freezeC 2 0 3 rfl rfl rfl rfl (.inr rfl) rfl (by simp) (shut_map (enc := encG) (fun _ => rfl) v.groups) (one_noOwn rfl), rfl⟩
theorem eaV_arr (l : List Ver) (hl : l.length < 1000000000) (hp : ∀ x ∈ l, SoundAt Tryz.prog 128 [] [.agg [], .agg (encV x)] (.agg (encV x)) []) : SoundAt Tryz.prog 127 [] [lV l, .fn 128 [] [], .agg []] (.sl 0 [] 5 0 l.length false) [⟨2, 71, 5, l.map encV, 0⟩] := by
  have m1 : (l.map encV).length = l.length := List.length_map ..
  refine SoundAt.of_wpA (fn := Tryz.f127) Tryz.func127 rfl ?_
  conv => whnf
  rw [m1]
  refine ⟨rfl, by omega, by show (104 : Int) * _ ≤ _; omega, by omega, ?_⟩
  (conv=>whnf);(try(refine ⟨(rfl:(_:Heap)=_),?_⟩;(conv=>whnf)))
  rw [m1, toNat_cast]
  refine Loops.seq l.length (fun k => [lV l, .fn 128 [] [], .junk, .junk, .junk, .ref 0 [] 0 0 0, .lst 1 0 [], .sl 1 [] 5 0 l.length false, .junk, .junk, .junk, .junk, .junk, lV l, I l.length, I k, .junk, .junk, .junk, .junk, .junk, .junk, .junk, .junk, .junk, .junk, .junk, .junk, .junk]) (fun k => [⟨1, 187, 0, [[]], 0⟩, ⟨2, 71, 5, (l.map encV).take k ++ (List.replicate l.length ([.lst 1 0 [], .lst 1 0 [], .lst 1 0 [], .lst 1 0 [], Bo false] : List C)).drop k, 0⟩]) (fun k => True) ?_ trivial (fun k hk hr => ?_) (fun hr => ?_)
  · exact Weak.cov (by (conv => whnf); (repeat (refine ⟨rfl, ?_⟩; (conv => whnf))); exact trivial)
  · obtain ⟨x, hx⟩ : ∃ x, x = l[k] := ⟨_, rfl⟩
    have hx2 : l[k]? = some x := by rw [List.getElem?_eq_getElem hk, hx]
    have hg : (l.map encV)[k]? = some (encV x) := by rw [List.getElem?_map, hx2]; rfl
    conv => whnf
    (refine ⟨fun _ => ?_, fun h => absurd h (by simp; omega)⟩); (conv=>whnf);(try(refine ⟨(rfl:(_:Heap)=_),?_⟩;(conv=>whnf)))
    (refine ⟨by omega, _, by rw [toNat_cast]; exact hg, ?_⟩); (conv=>whnf);(try(refine ⟨(rfl:(_:Heap)=_),?_⟩;(conv=>whnf)))
    refine ⟨_, _, (hp x (by rw [hx]; exact List.getElem_mem hk)).frame rfl _, ?_⟩; (conv=>whnf);(try(refine ⟨(rfl:(_:Heap)=_),?_⟩;(conv=>whnf)))
    refine ⟨by omega, by simp; omega, ?_⟩
    (conv=>whnf);(try(refine ⟨(rfl:(_:Heap)=_),?_⟩;(conv=>whnf)))
    have e1 : 0 + (k : Int).toNat = k := by simp
    rw [e1]
    refine ⟨_, fill_get (by simp) hk, rfl, ?_⟩
    (conv=>whnf);(try(refine ⟨(rfl:(_:Heap)=_),?_⟩;(conv=>whnf)))
    refine .inl ⟨rfl, ?_, trivial⟩
    have e2 := fill_set (z := ([.lst 1 0 [], .lst 1 0 [], .lst 1 0 [], .lst 1 0 [], Bo false] : List C)) (n := l.length) hg hk
    rw [i64_nat (by omega), ← e2]
    exact Weak.covD 2 (by (conv => whnf); (repeat (refine ⟨rfl, ?_⟩; (conv => whnf))); exact trivial) rfl rfl rfl rfl rfl
  · (conv => whnf); (refine ⟨fun h => absurd h (by simp), fun _ => ?_⟩); (conv=>whnf);(try(refine ⟨(rfl:(_:Heap)=_),?_⟩;(conv=>whnf))); (refine ⟨by simp, ?_⟩); (conv => whnf)
    rw [fill_done (by simp)]
    exact ⟨.inl rfl, _, Weak.ren [1] [6] _ _ rfl rfl rfl rfl, rfl, rfl⟩
theorem rowV_sound (r : List Int) (hr : r.length < 1000000000) : SoundAt Tryz.prog 131 [] [.agg [], lU r] (lU r) [] := by
  refine SoundAt.of_wpA1 (fn := Tryz.f131) Tryz.func131 rfl ?_
  conv => whnf
  refine ⟨_, _, (cloU_val r hr).frame rfl _, ?_⟩; (conv=>whnf);(try(refine ⟨(rfl:(_:Heap)=_),?_⟩;(conv=>whnf)))
  exact ⟨.inl rfl, _, .refl _, rfl⟩
end Go.Wor
namespace Go.Wor
open Go.Ab Go.Proofs Go.Hy Go.Gat Go.Nam Go.Hos Go.Con Go.Sna
set_option linter.unusedVariables false
set_option linter.unusedSimpArgs false
set_option maxRecDepth 100000
set_option maxHeartbeats 4000000
theorem plugA_none (H' : Heap) (ρ : Nat → Nat) : ∀ (i : Nat) (K : Heap), plugA [] H' ρ i K = K
  | _, [] => rfl
  | i, ob :: K => by unfold plugA; rw [plugA_none H' ρ (i + 1) K]; rfl
theorem any_of {P : Program} {f : FuncId} {args : List C} {r : C} {H' : Heap} (h : SoundAt P f [] args r H') (hR : flatH H' = true) (ha : args.map (renC [] 9) = args) (H : Heap) (hf : flatH H = true) :
    SoundAt P f H args (mapC (backI [] H.length) 9 r) (H ++ H'.map (mapOb (backI [] H.length))) := by
  have := h.part [] hR (K := H) rfl ha rfl rfl hf
  have e : plug [] H H' = H ++ H'.map (mapOb (backI [] H.length)) := by unfold plug; rw [plugA_none]; rfl
  rwa [e] at this
theorem map_rows {α : Type} {enc : α → List C} {f : C → C} (hf : ∀ x, (enc x).map f = enc x) (l : List α) (v : Nat) (row : List C) : (((l.map enc).set v row).map fun r => r.map f) = (l.map enc).set v (row.map f) := by
  rw [List.map_set, List.map_map]
  congr 1
  exact List.map_congr_left fun x _ => hf x
theorem low_cons {n : Nat} {x : Ob} {H : Heap} (h1 : rowsLow n [x] = true) (h2 : rowsLow n H = true) : rowsLow n (x :: H) = true := by
  unfold rowsLow at *
  simp only [List.all_cons, List.all_nil, Bool.and_true] at *
  rw [h1, h2]; rfl
theorem flat_cons {x : Ob} {H : Heap} (h1 : flatH [x] = true) (h2 : flatH H = true) : flatH (x :: H) = true := by
  unfold flatH at *
  simp only [List.all_cons, List.all_nil, Bool.and_true] at *
  rw [h1, h2]; rfl
theorem flat_kept {ty sz fz : Nat} {rows : List (List C)} (h : ∀ r ∈ rows, ∀ c ∈ r, noOwn c = true) : flatH [⟨1, ty, sz, rows, fz⟩] = true := by
  unfold flatH
  simp only [List.all_cons, List.all_nil, Bool.and_true]
  rw [List.all_eq_true]
  exact fun r hr => List.all_eq_true.2 fun c hc => h r hr c hc
theorem set_all {α : Type} {enc : α → List C} {p : C → Bool} (h : ∀ x, (enc x).all p = true) {row : List C} (hr : row.all p = true) (l : List α) (v : Nat) : ∀ r ∈ (l.map enc).set v row, ∀ c ∈ r, p c = true := fun r hm c hc => by
  rcases List.mem_or_eq_of_mem_set hm with hm | rfl
  · obtain ⟨x, _, rfl⟩ := List.mem_map.1 hm
    exact List.all_eq_true.1 (h x) c hc
  · exact List.all_eq_true.1 hr c hc
theorem fill_all {α : Type} {enc : α → List C} {p : C → Bool} (h : ∀ x, (enc x).all p = true) {row z : List C} (hz : z.all p = true) (l : List α) {v k : Nat} (n : Nat) (hr : k ≤ v ∨ row.all p = true) : ∀ r ∈ ((l.map enc).set v row).take k ++ (List.replicate n z).drop k, ∀ c ∈ r, p c = true := fun r hm c hc => by
  rcases List.mem_append.1 hm with hm | hm
  · rcases hr with hr | hr
    · rw [List.take_set_of_le hr] at hm
      obtain ⟨x, _, rfl⟩ := List.mem_map.1 (List.mem_of_mem_take hm)
      exact List.all_eq_true.1 (h x) c hc
    · exact set_all h hr l v r (List.mem_of_mem_take hm) c hc
  · rw [List.eq_of_mem_replicate (List.mem_of_mem_drop hm)] at hc
    exact List.all_eq_true.1 hz c hc
theorem endA_sound (e0 : En) (x : Int) (l : List Int) (he : e0.next = x :: l) (hl : l.length < 1000000000) : SoundAt Tryz.prog 176 [] [.agg [], .agg (encE e0)] (.agg [U e0.head, C.sl 0 [] 1 0 e0.next.length false, I e0.active]) [⟨2, 3, 1, e0.next.map encI, 0⟩] := by
  have h1 : SoundAt Tryz.prog 176 [] [.agg [], .agg (encE e0)] (.agg [U e0.head, C.sl 3 [] 1 0 e0.next.length false, I e0.active]) [⟨1, 187, 0, [[]], 0⟩, ⟨1, 79, 3, [[U e0.head, C.sl 3 [] 1 0 e0.next.length false, I e0.active]], 0⟩, ⟨1, 79, 3, [[U e0.head, C.sl 3 [] 1 0 e0.next.length false, I e0.active]], 0⟩, ⟨2, 3, 1, e0.next.map encI, 0⟩] := by
    have hc := cloI_arr x l hl
    rw [← he] at hc
    refine SoundAt.of_wpA (fn := Tryz.f176) Tryz.func176 rfl ?_
    conv => whnf
    refine callPart [] (hc) rfl rfl rfl rfl rfl rfl ?_; (conv=>whnf);(try(refine ⟨(rfl:(_:Heap)=_),?_⟩;(conv=>whnf)))
    exact ⟨.inl rfl, _, .refl _, rfl, rfl⟩
  exact h1.weak (fun B h _ => Weak.ren [3] [0] _ _ (by rw [show B = 0 from by simpa using h]; rfl) rfl rfl rfl) (Nat.zero_le _)
theorem endA_any (e0 : En) (x : Int) (l : List Int) (he : e0.next = x :: l) (hl : l.length < 1000000000) (H : Heap) (hf : flatH H = true) : SoundAt Tryz.prog 176 H [.agg [], .agg (encE e0)] (.agg ([U e0.head, C.sl H.length [] 1 0 e0.next.length false, I e0.active])) (H ++ [⟨2, 3, 1, e0.next.map encI, 0⟩]) :=
  any_of (endA_sound e0 x l he hl) rfl rfl H hf
theorem ren_kept {α : Type} {enc : α → List C} {sel : List Nat} (hf : ∀ x, (enc x).map (renC sel 9) = enc x) (l : List α) (v : Nat) (row : List C) (ty sz fz : Nat) : renOb sel ⟨1, ty, sz, (l.map enc).set v row, fz⟩ = ⟨1, ty, sz, (l.map enc).set v (row.map (renC sel 9)), fz⟩ := by
  show (⟨1, ty, sz, ((l.map enc).set v row).map (fun r => r.map (renC sel 9)), fz⟩ : Ob) = _
  rw [map_rows hf]
theorem map_kept {α : Type} {enc : α → List C} {ρ : Nat → Nat} (hf : ∀ x, (enc x).map (mapC ρ 9) = enc x) (l : List α) (v : Nat) (row : List C) (ty sz fz : Nat) : mapOb ρ ⟨1, ty, sz, (l.map enc).set v row, fz⟩ = ⟨1, ty, sz, (l.map enc).set v (row.map (mapC ρ 9)), fz⟩ := by
  show (⟨1, ty, sz, ((l.map enc).set v row).map (fun r => r.map (mapC ρ 9)), fz⟩ : Ob) = _
  rw [map_rows hf]
theorem eaE_path  (l : List En) (e : Nat) (e0 : En) (hv : l[e]? = some e0) (hl : l.length < 1000000000) (hp : ∀ x ∈ l, SoundAt Tryz.prog 176 [] [.agg [], .agg (encE x)] (.agg (encE x)) [])
    (hA : ∀ H, flatH H = true → SoundAt Tryz.prog 176 H [.agg [], .agg (encE e0)] (.agg ([U e0.head, C.sl H.length [] 1 0 e0.next.length false, I e0.active])) (H ++ [⟨2, 3, 1, e0.next.map encI, 0⟩])) :
    SoundAt Tryz.prog 175 [] [lE l, .fn 176 [] [], .agg []] (.sl 0 [] 3 0 l.length false) [⟨1, 0, 3, (l.map encE).set e ([U e0.head, C.sl 1 [] 1 0 e0.next.length false, I e0.active]), 0⟩, ⟨2, 3, 1, e0.next.map encI, 0⟩] := by
  have m1 : (l.map encE).length = l.length := List.length_map ..
  have hvl := (List.getElem?_eq_some_iff.1 hv).1
  have h1 : SoundAt Tryz.prog 175 [] [lE l, .fn 176 [] [], .agg []] (.sl 1 [] 3 0 l.length false) [⟨1, 187, 0, [[]], 0⟩, ⟨1, 0, 3, (l.map encE).set e ([U e0.head, C.sl 3 [] 1 0 e0.next.length false, I e0.active]), 0⟩, ⟨1, 79, 3, [encE e0], 0⟩, ⟨2, 3, 1, e0.next.map encI, 0⟩] := by
    refine SoundAt.of_wpA (fn := Tryz.f175) Tryz.func175 rfl ?_
    conv => whnf
    rw [m1]
    refine ⟨rfl, by omega, by show (40 : Int) * _ ≤ _; omega, by omega, ?_⟩
    (conv=>whnf);(try(refine ⟨(rfl:(_:Heap)=_),?_⟩;(conv=>whnf)))
    rw [m1, toNat_cast]
    have ZZ : List C := ([U 0, .lst 1 0 [], I 0] : List C)
    refine Loops.seq l.length (fun k => [lE l, .fn 176 [] [], .junk, .junk, .junk, .ref 0 [] 0 0 0, .lst 1 0 [], .sl 1 [] 3 0 l.length false, .junk, .junk, .junk, .junk, .junk, lE l, I l.length, I k, .junk, .junk, .junk, .junk, .junk, .junk, .junk, .junk, .junk, .junk, .junk, .junk, .junk]) (fun k => if k ≤ e then [⟨1, 187, 0, [[]], 0⟩, ⟨1, 0, 3, ((l.map encE).set e ([U e0.head, C.sl 3 [] 1 0 e0.next.length false, I e0.active])).take k ++ (List.replicate l.length ([U 0, .lst 1 0 [], I 0] : List C)).drop k, 0⟩] else [⟨1, 187, 0, [[]], 0⟩, ⟨1, 0, 3, ((l.map encE).set e ([U e0.head, C.sl 3 [] 1 0 e0.next.length false, I e0.active])).take k ++ (List.replicate l.length ([U 0, .lst 1 0 [], I 0] : List C)).drop k, 0⟩, ⟨1, 79, 3, [encE e0], 0⟩, ⟨2, 3, 1, e0.next.map encI, 0⟩]) (fun k => True) ?_ trivial (fun k hk hr => ?_) (fun hr => ?_)
    · rw [if_pos (Nat.zero_le _)]
      refine Weak.trans (Weak.keptA 1 rfl fun r hr c hc => ?_) (Weak.cov (by (conv => whnf); (repeat (refine ⟨rfl, ?_⟩; (conv => whnf))); exact trivial))
      rw [List.eq_of_mem_replicate hr] at hc
      exact List.all_eq_true.1 (rfl : ([U 0, .lst 1 0 [], I 0] : List C).all noOwn = true) c hc
    · obtain ⟨x, hx⟩ : ∃ x, x = l[k] := ⟨_, rfl⟩
      have hx2 : l[k]? = some x := by rw [List.getElem?_eq_getElem hk, hx]
      have hxm : x ∈ l := by rw [hx]; exact List.getElem_mem hk
      have hg : (l.map encE)[k]? = some (encE x) := by rw [List.getElem?_map, hx2]; rfl
      have e1 : 0 + (k : Int).toNat = k := by simp
      have low : ∀ n j, j ≤ e ∨ 3 < n → ∀ r ∈ ((l.map encE).set e ([U e0.head, C.sl 3 [] 1 0 e0.next.length false, I e0.active])).take j ++ (List.replicate l.length ([U 0, .lst 1 0 [], I 0] : List C)).drop j, ∀ c ∈ r, lowC n 9 c = true := fun n j h => fill_all (enc := encE) (fun _ => rfl) rfl l l.length (h.imp_right fun h => by simp [lowC, encS]; omega)
      have own : ∀ j, ∀ r ∈ ((l.map encE).set e ([U e0.head, C.sl 3 [] 1 0 e0.next.length false, I e0.active])).take j ++ (List.replicate l.length ([U 0, .lst 1 0 [], I 0] : List C)).drop j, ∀ c ∈ r, noOwn c = true := fun j => fill_all (enc := encE) (fun _ => rfl) rfl l l.length (.inr rfl)
      by_cases hkv : k = e
      · subst hkv
        obtain rfl : e0 = x := by rw [hv] at hx2; exact Option.some.inj hx2
        have hF : ((l.map encE).set k ([U e0.head, C.sl 3 [] 1 0 e0.next.length false, I e0.active]))[k]? = some ([U e0.head, C.sl 3 [] 1 0 e0.next.length false, I e0.active]) := by rw [List.getElem?_set, if_pos rfl, if_pos (by simpa using hk)]
        rw [if_pos (Nat.le_refl _), if_neg (by omega)]
        conv => whnf
        (refine ⟨fun _ => ?_, fun h => absurd h (by simp; omega)⟩); (conv=>whnf);(try(refine ⟨(rfl:(_:Heap)=_),?_⟩;(conv=>whnf)))
        (refine ⟨by omega, _, by rw [toNat_cast]; exact hg, ?_⟩); (conv=>whnf);(try(refine ⟨(rfl:(_:Heap)=_),?_⟩;(conv=>whnf)))
        refine ⟨_, _, hA _ (flat_cons rfl (flat_cons (flat_kept (own k)) rfl)), ?_⟩
        (conv=>whnf);(try(refine ⟨(rfl:(_:Heap)=_),?_⟩;(conv=>whnf)))
        refine ⟨by omega, by simp; omega, ?_⟩
        (conv=>whnf);(try(refine ⟨(rfl:(_:Heap)=_),?_⟩;(conv=>whnf)))
        rw [e1]
        refine ⟨_, fill_get (by simp) hk, rfl, ?_⟩
        (conv=>whnf);(try(refine ⟨(rfl:(_:Heap)=_),?_⟩;(conv=>whnf)))
        refine .inl ⟨rfl, ?_, trivial⟩
        rw [i64_nat (by omega), ← fill_set hF hk]
        exact Weak.cov (by (conv => whnf); (repeat (refine ⟨rfl, ?_⟩; (conv => whnf))); exact trivial)
      · have hF : ((l.map encE).set e ([U e0.head, C.sl 3 [] 1 0 e0.next.length false, I e0.active]))[k]? = some (encE x) := by rw [List.getElem?_set_ne (fun h => hkv h.symm)]; exact hg
        by_cases hlt : k < e
        · rw [if_pos (by omega), if_pos (by omega)]
          conv => whnf
          (refine ⟨fun _ => ?_, fun h => absurd h (by simp; omega)⟩); (conv=>whnf);(try(refine ⟨(rfl:(_:Heap)=_),?_⟩;(conv=>whnf)))
          (refine ⟨by omega, _, by rw [toNat_cast]; exact hg, ?_⟩); (conv=>whnf);(try(refine ⟨(rfl:(_:Heap)=_),?_⟩;(conv=>whnf)))
          refine ⟨_, _, (hp x hxm).frame rfl _, ?_⟩; (conv=>whnf);(try(refine ⟨(rfl:(_:Heap)=_),?_⟩;(conv=>whnf)))
          refine ⟨by omega, by simp; omega, ?_⟩
          (conv=>whnf);(try(refine ⟨(rfl:(_:Heap)=_),?_⟩;(conv=>whnf)))
          rw [e1]
          refine ⟨_, fill_get (by simp) hk, rfl, ?_⟩
          (conv=>whnf);(try(refine ⟨(rfl:(_:Heap)=_),?_⟩;(conv=>whnf)))
          refine .inl ⟨rfl, ?_, trivial⟩
          rw [i64_nat (by omega), ← fill_set hF hk]
          refine Weak.covD 2 (by (conv => whnf); (repeat (refine ⟨rfl, ?_⟩; (conv => whnf))); exact trivial) rfl rfl rfl (low_cons rfl (low_kept ?_)) rfl
          have lw := low 2 (k + 1) (.inl (by omega))
          rw [← fill_set (z := ([U 0, .lst 1 0 [], I 0] : List C)) (n := l.length) hF hk] at lw
          exact lw
        · rw [if_neg (by omega), if_neg (by omega)]
          conv => whnf
          (refine ⟨fun _ => ?_, fun h => absurd h (by simp; omega)⟩); (conv=>whnf);(try(refine ⟨(rfl:(_:Heap)=_),?_⟩;(conv=>whnf)))
          (refine ⟨by omega, _, by rw [toNat_cast]; exact hg, ?_⟩); (conv=>whnf);(try(refine ⟨(rfl:(_:Heap)=_),?_⟩;(conv=>whnf)))
          refine ⟨_, _, (hp x hxm).frame rfl _, ?_⟩; (conv=>whnf);(try(refine ⟨(rfl:(_:Heap)=_),?_⟩;(conv=>whnf)))
          refine ⟨by omega, by simp; omega, ?_⟩
          (conv=>whnf);(try(refine ⟨(rfl:(_:Heap)=_),?_⟩;(conv=>whnf)))
          rw [e1]
          refine ⟨_, fill_get (by simp) hk, rfl, ?_⟩
          (conv=>whnf);(try(refine ⟨(rfl:(_:Heap)=_),?_⟩;(conv=>whnf)))
          refine .inl ⟨rfl, ?_, trivial⟩
          rw [i64_nat (by omega), ← fill_set hF hk]
          refine Weak.covD 4 (by (conv => whnf); (repeat (refine ⟨rfl, ?_⟩; (conv => whnf))); exact trivial) rfl rfl rfl (low_cons rfl (low_cons (low_kept ?_) (low_cons rfl rfl))) rfl
          have lw := low 4 (k + 1) (.inr (by omega))
          rw [← fill_set (z := ([U 0, .lst 1 0 [], I 0] : List C)) (n := l.length) hF hk] at lw
          exact lw
    · rw [if_neg (by omega)]
      (conv => whnf); (refine ⟨fun h => absurd h (by simp), fun _ => ?_⟩); (conv=>whnf);(try(refine ⟨(rfl:(_:Heap)=_),?_⟩;(conv=>whnf))); (refine ⟨by simp, ?_⟩); (conv => whnf)
      rw [fill_done (by simp)]
      exact ⟨.inl rfl, _, .refl _, rfl, rfl⟩
  refine h1.weak (fun B h _ => ?_) (Nat.zero_le _)
  have hw := Weak.ren (B := B) [1, 3] [0] [.sl 1 [] 3 0 l.length false] [⟨1, 187, 0, [[]], 0⟩, ⟨1, 0, 3, (l.map encE).set e ([U e0.head, C.sl 3 [] 1 0 e0.next.length false, I e0.active]), 0⟩, ⟨1, 79, 3, [encE e0], 0⟩, ⟨2, 3, 1, e0.next.map encI, 0⟩] (by rw [show B = 0 from by simpa using h]; rfl) rfl rfl (flat_cons rfl (flat_cons (flat_kept (set_all (enc := encE) (fun _ => rfl) rfl l e)) (flat_cons rfl rfl)))
  have e : renH [1, 3] [⟨1, 187, 0, [[]], 0⟩, ⟨1, 0, 3, (l.map encE).set e ([U e0.head, C.sl 3 [] 1 0 e0.next.length false, I e0.active]), 0⟩, ⟨1, 79, 3, [encE e0], 0⟩, ⟨2, 3, 1, e0.next.map encI, 0⟩] = [⟨1, 0, 3, (l.map encE).set e ([U e0.head, C.sl 1 [] 1 0 e0.next.length false, I e0.active]), 0⟩, ⟨2, 3, 1, e0.next.map encI, 0⟩] := by
    show renOb [1, 3] ⟨1, 0, 3, (l.map encE).set e ([U e0.head, C.sl 3 [] 1 0 e0.next.length false, I e0.active]), 0⟩ :: _ = _
    rw [ren_kept (enc := encE) (fun _ => rfl)]
    rfl
  rw [e] at hw
  exact hw
structure PathE (g0 : Gr) (e : Nat) (e0 : En) : Prop where
  sm : SmGr g0
  at_ : g0.ends[e]? = some e0
  ne : e0.next ≠ []
theorem eaE_any {g0 : Gr} {e : Nat} {e0 : En} (h : PathE g0 e e0) (H : Heap) (hf : flatH H = true) : SoundAt Tryz.prog 175 H [lE g0.ends, .fn 176 [] [], .agg []] (.sl H.length [] 3 0 g0.ends.length false) (H ++ [⟨1, 0, 3, (g0.ends.map encE).set e ([U e0.head, C.sl (H.length + 1) [] 1 0 e0.next.length false, I e0.active]), 0⟩, ⟨2, 3, 1, e0.next.map encI, 0⟩]) := by
  obtain ⟨x, l, hx⟩ : ∃ x l, e0.next = x :: l := by
    cases hh : e0.next with
    | nil => exact absurd hh h.ne
    | cons x l => exact ⟨x, l, rfl⟩
  have hlen : l.length < 1000000000 := by
    have := h.sm.2 e0 (List.mem_of_getElem? h.at_)
    rw [hx] at this
    simp at this
    omega
  have := any_of (eaE_path g0.ends e e0 h.at_ h.sm.1 (fun y hy => endV_sound y (h.sm.2 y hy)) (endA_any e0 x l hx hlen)) (flat_cons (flat_kept (set_all (enc := encE) (fun _ => rfl) rfl _ _)) rfl) rfl H hf
  have e9 : [(⟨1, 0, 3, (g0.ends.map encE).set e ([U e0.head, C.sl 1 [] 1 0 e0.next.length false, I e0.active]), 0⟩ : Ob), ⟨2, 3, 1, e0.next.map encI, 0⟩].map (mapOb (backI [] H.length)) = [⟨1, 0, 3, (g0.ends.map encE).set e ([U e0.head, C.sl (H.length + 1) [] 1 0 e0.next.length false, I e0.active]), 0⟩, ⟨2, 3, 1, e0.next.map encI, 0⟩] := by
    show mapOb _ ⟨1, 0, 3, _, 0⟩ :: _ = _
    rw [map_kept (enc := encE) (fun _ => rfl)]
    rfl
  rw [e9] at this
  exact this
theorem groupA_sound {g0 : Gr} {e : Nat} {e0 : En} (h : PathE g0 e e0) : SoundAt Tryz.prog 163 [] [.agg [], .agg (encG g0)] (.agg [U g0.ticket, C.sl 0 [] 3 0 g0.ends.length false]) [⟨1, 0, 3, (g0.ends.map encE).set e ([U e0.head, C.sl 1 [] 1 0 e0.next.length false, I e0.active]), 0⟩, ⟨2, 3, 1, e0.next.map encI, 0⟩] := by
  have own : ∀ i, ∀ r ∈ (g0.ends.map encE).set e ([U e0.head, C.sl i [] 1 0 e0.next.length false, I e0.active]), ∀ c ∈ r, noOwn c = true := fun i => set_all (enc := encE) (fun _ => rfl) rfl _ _
  have h1 : SoundAt Tryz.prog 163 [] [.agg [], .agg (encG g0)] (.agg [U g0.ticket, C.sl 3 [] 3 0 g0.ends.length false]) [⟨1, 187, 0, [[]], 0⟩, ⟨1, 75, 2, [[U g0.ticket, C.sl 3 [] 3 0 g0.ends.length false]], 0⟩, ⟨1, 75, 2, [[U g0.ticket, C.sl 3 [] 3 0 g0.ends.length false]], 0⟩, ⟨1, 0, 3, (g0.ends.map encE).set e ([U e0.head, C.sl 4 [] 1 0 e0.next.length false, I e0.active]), 0⟩, ⟨2, 3, 1, e0.next.map encI, 0⟩] := by
    refine SoundAt.of_wpA (fn := Tryz.f163) Tryz.func163 rfl ?_
    conv => whnf
    refine ⟨_, _, eaE_any h _ rfl, ?_⟩
    (conv=>whnf);(try(refine ⟨(rfl:(_:Heap)=_),?_⟩;(conv=>whnf)))
    exact ⟨.inl rfl, _, .refl _, rfl, rfl⟩
  refine h1.weak (fun B hB _ => ?_) (Nat.zero_le _)
  have hw := Weak.ren (B := B) [3, 4] [0] [.agg [U g0.ticket, C.sl 3 [] 3 0 g0.ends.length false]] [⟨1, 187, 0, [[]], 0⟩, ⟨1, 75, 2, [[U g0.ticket, C.sl 3 [] 3 0 g0.ends.length false]], 0⟩, ⟨1, 75, 2, [[U g0.ticket, C.sl 3 [] 3 0 g0.ends.length false]], 0⟩, ⟨1, 0, 3, (g0.ends.map encE).set e ([U e0.head, C.sl 4 [] 1 0 e0.next.length false, I e0.active]), 0⟩, ⟨2, 3, 1, e0.next.map encI, 0⟩] (by rw [show B = 0 from by simpa using hB]; rfl) rfl rfl (flat_cons rfl (flat_cons rfl (flat_cons rfl (flat_cons (flat_kept (own 4)) rfl))))
  have e : renH [3, 4] [⟨1, 187, 0, [[]], 0⟩, ⟨1, 75, 2, [[U g0.ticket, C.sl 3 [] 3 0 g0.ends.length false]], 0⟩, ⟨1, 75, 2, [[U g0.ticket, C.sl 3 [] 3 0 g0.ends.length false]], 0⟩, ⟨1, 0, 3, (g0.ends.map encE).set e ([U e0.head, C.sl 4 [] 1 0 e0.next.length false, I e0.active]), 0⟩, ⟨2, 3, 1, e0.next.map encI, 0⟩] = [⟨1, 0, 3, (g0.ends.map encE).set e ([U e0.head, C.sl 1 [] 1 0 e0.next.length false, I e0.active]), 0⟩, ⟨2, 3, 1, e0.next.map encI, 0⟩] := by
    show renOb [3, 4] ⟨1, 0, 3, (g0.ends.map encE).set e ([U e0.head, C.sl 4 [] 1 0 e0.next.length false, I e0.active]), 0⟩ :: _ = _
    rw [ren_kept (enc := encE) (fun _ => rfl)]
    rfl
  rw [e] at hw
  exact hw
theorem groupA_any {g0 : Gr} {e : Nat} {e0 : En} (h : PathE g0 e e0) (H : Heap) (hf : flatH H = true) : SoundAt Tryz.prog 163 H [.agg [], .agg (encG g0)] (.agg ([U g0.ticket, C.sl H.length [] 3 0 g0.ends.length false])) (H ++ [⟨1, 0, 3, (g0.ends.map encE).set e ([U e0.head, C.sl (H.length + 1) [] 1 0 e0.next.length false, I e0.active]), 0⟩, ⟨2, 3, 1, e0.next.map encI, 0⟩]) := by
  have := any_of (groupA_sound h) (flat_cons (flat_kept (set_all (enc := encE) (fun _ => rfl) rfl _ _)) rfl) rfl H hf
  have e9 : [(⟨1, 0, 3, (g0.ends.map encE).set e ([U e0.head, C.sl 1 [] 1 0 e0.next.length false, I e0.active]), 0⟩ : Ob), ⟨2, 3, 1, e0.next.map encI, 0⟩].map (mapOb (backI [] H.length)) = [⟨1, 0, 3, (g0.ends.map encE).set e ([U e0.head, C.sl (H.length + 1) [] 1 0 e0.next.length false, I e0.active]), 0⟩, ⟨2, 3, 1, e0.next.map encI, 0⟩] := by
    show mapOb _ ⟨1, 0, 3, _, 0⟩ :: _ = _
    rw [map_kept (enc := encE) (fun _ => rfl)]
    rfl
  rw [e9] at this
  exact this
end Go.Wor
namespace Go.Wor
open Go.Ab Go.Proofs Go.Hy Go.Gat Go.Nam Go.Hos Go.Con Go.Sna
set_option linter.unusedVariables false
set_option linter.unusedSimpArgs false
set_option maxRecDepth 100000
set_option maxHeartbeats 4000000
theorem eaG_path (e0 : En) (e : Nat) (l : List Gr) (g : Nat) (g0 : Gr) (hv : l[g]? = some g0) (hl : l.length < 1000000000) (hp : ∀ x ∈ l, SoundAt Tryz.prog 163 [] [.agg [], .agg (encG x)] (.agg (encG x)) [])
    (hA : ∀ H, flatH H = true → SoundAt Tryz.prog 163 H [.agg [], .agg (encG g0)] (.agg ([U g0.ticket, C.sl H.length [] 3 0 g0.ends.length false])) (H ++ [⟨1, 0, 3, (g0.ends.map encE).set e ([U e0.head, C.sl (H.length + 1) [] 1 0 e0.next.length false, I e0.active]), 0⟩, ⟨2, 3, 1, e0.next.map encI, 0⟩])) :
    SoundAt Tryz.prog 162 [] [lG l, .fn 163 [] [], .agg []] (.sl 0 [] 2 0 l.length false) [⟨1, 0, 2, (l.map encG).set g ([U g0.ticket, C.sl 1 [] 3 0 g0.ends.length false]), 0⟩, ⟨1, 0, 3, (g0.ends.map encE).set e ([U e0.head, C.sl 2 [] 1 0 e0.next.length false, I e0.active]), 0⟩, ⟨2, 3, 1, e0.next.map encI, 0⟩] := by
  have m1 : (l.map encG).length = l.length := List.length_map ..
  have hvl := (List.getElem?_eq_some_iff.1 hv).1
  have h1 : SoundAt Tryz.prog 162 [] [lG l, .fn 163 [] [], .agg []] (.sl 1 [] 2 0 l.length false) [⟨1, 187, 0, [[]], 0⟩, ⟨1, 0, 2, (l.map encG).set g ([U g0.ticket, C.sl 3 [] 3 0 g0.ends.length false]), 0⟩, ⟨1, 75, 2, [encG g0], 0⟩, ⟨1, 0, 3, (g0.ends.map encE).set e ([U e0.head, C.sl 4 [] 1 0 e0.next.length false, I e0.active]), 0⟩, ⟨2, 3, 1, e0.next.map encI, 0⟩] := by
    refine SoundAt.of_wpA (fn := Tryz.f162) Tryz.func162 rfl ?_
    conv => whnf
    rw [m1]
    refine ⟨rfl, by omega, by show (32 : Int) * _ ≤ _; omega, by omega, ?_⟩
    (conv=>whnf);(try(refine ⟨(rfl:(_:Heap)=_),?_⟩;(conv=>whnf)))
    rw [m1, toNat_cast]
    have ZZ : List C := ([U 0, .lst 1 0 []] : List C)
    refine Loops.seq l.length (fun k => [lG l, .fn 163 [] [], .junk, .junk, .junk, .ref 0 [] 0 0 0, .lst 1 0 [], .sl 1 [] 2 0 l.length false, .junk, .junk, .junk, .junk, .junk, lG l, I l.length, I k, .junk, .junk, .junk, .junk, .junk, .junk, .junk, .junk, .junk, .junk, .junk, .junk, .junk]) (fun k => if k ≤ g then [⟨1, 187, 0, [[]], 0⟩, ⟨1, 0, 2, ((l.map encG).set g ([U g0.ticket, C.sl 3 [] 3 0 g0.ends.length false])).take k ++ (List.replicate l.length ([U 0, .lst 1 0 []] : List C)).drop k, 0⟩] else [⟨1, 187, 0, [[]], 0⟩, ⟨1, 0, 2, ((l.map encG).set g ([U g0.ticket, C.sl 3 [] 3 0 g0.ends.length false])).take k ++ (List.replicate l.length ([U 0, .lst 1 0 []] : List C)).drop k, 0⟩, ⟨1, 75, 2, [encG g0], 0⟩, ⟨1, 0, 3, (g0.ends.map encE).set e ([U e0.head, C.sl 4 [] 1 0 e0.next.length false, I e0.active]), 0⟩, ⟨2, 3, 1, e0.next.map encI, 0⟩]) (fun k => True) ?_ trivial (fun k hk hr => ?_) (fun hr => ?_)
    · rw [if_pos (Nat.zero_le _)]
      refine Weak.trans (Weak.keptA 1 rfl fun r hr c hc => ?_) (Weak.cov (by (conv => whnf); (repeat (refine ⟨rfl, ?_⟩; (conv => whnf))); exact trivial))
      rw [List.eq_of_mem_replicate hr] at hc
      exact List.all_eq_true.1 (rfl : ([U 0, .lst 1 0 []] : List C).all noOwn = true) c hc
    · obtain ⟨x, hx⟩ : ∃ x, x = l[k] := ⟨_, rfl⟩
      have hx2 : l[k]? = some x := by rw [List.getElem?_eq_getElem hk, hx]
      have hxm : x ∈ l := by rw [hx]; exact List.getElem_mem hk
      have hg : (l.map encG)[k]? = some (encG x) := by rw [List.getElem?_map, hx2]; rfl
      have e1 : 0 + (k : Int).toNat = k := by simp
      have low : ∀ n j, j ≤ g ∨ 3 < n → ∀ r ∈ ((l.map encG).set g ([U g0.ticket, C.sl 3 [] 3 0 g0.ends.length false])).take j ++ (List.replicate l.length ([U 0, .lst 1 0 []] : List C)).drop j, ∀ c ∈ r, lowC n 9 c = true := fun n j h => fill_all (enc := encG) (fun _ => rfl) rfl l l.length (h.imp_right fun h => by simp [lowC, encS]; omega)
      have own : ∀ j, ∀ r ∈ ((l.map encG).set g ([U g0.ticket, C.sl 3 [] 3 0 g0.ends.length false])).take j ++ (List.replicate l.length ([U 0, .lst 1 0 []] : List C)).drop j, ∀ c ∈ r, noOwn c = true := fun j => fill_all (enc := encG) (fun _ => rfl) rfl l l.length (.inr rfl)
      by_cases hkv : k = g
      · subst hkv
        obtain rfl : g0 = x := by rw [hv] at hx2; exact Option.some.inj hx2
        have hF : ((l.map encG).set k ([U g0.ticket, C.sl 3 [] 3 0 g0.ends.length false]))[k]? = some ([U g0.ticket, C.sl 3 [] 3 0 g0.ends.length false]) := by rw [List.getElem?_set, if_pos rfl, if_pos (by simpa using hk)]
        rw [if_pos (Nat.le_refl _), if_neg (by omega)]
        conv => whnf
        (refine ⟨fun _ => ?_, fun h => absurd h (by simp; omega)⟩); (conv=>whnf);(try(refine ⟨(rfl:(_:Heap)=_),?_⟩;(conv=>whnf)))
        (refine ⟨by omega, _, by rw [toNat_cast]; exact hg, ?_⟩); (conv=>whnf);(try(refine ⟨(rfl:(_:Heap)=_),?_⟩;(conv=>whnf)))
        refine ⟨_, _, hA _ (flat_cons rfl (flat_cons (flat_kept (own k)) rfl)), ?_⟩
        (conv=>whnf);(try(refine ⟨(rfl:(_:Heap)=_),?_⟩;(conv=>whnf)))
        refine ⟨by omega, by simp; omega, ?_⟩
        (conv=>whnf);(try(refine ⟨(rfl:(_:Heap)=_),?_⟩;(conv=>whnf)))
        rw [e1]
        refine ⟨_, fill_get (by simp) hk, rfl, ?_⟩
        (conv=>whnf);(try(refine ⟨(rfl:(_:Heap)=_),?_⟩;(conv=>whnf)))
        refine .inl ⟨rfl, ?_, trivial⟩
        rw [i64_nat (by omega), ← fill_set hF hk]
        exact Weak.cov (by (conv => whnf); (repeat (refine ⟨rfl, ?_⟩; (conv => whnf))); exact trivial)
      · have hF : ((l.map encG).set g ([U g0.ticket, C.sl 3 [] 3 0 g0.ends.length false]))[k]? = some (encG x) := by rw [List.getElem?_set_ne (fun h => hkv h.symm)]; exact hg
        by_cases hlt : k < g
        · rw [if_pos (by omega), if_pos (by omega)]
          conv => whnf
          (refine ⟨fun _ => ?_, fun h => absurd h (by simp; omega)⟩); (conv=>whnf);(try(refine ⟨(rfl:(_:Heap)=_),?_⟩;(conv=>whnf)))
          (refine ⟨by omega, _, by rw [toNat_cast]; exact hg, ?_⟩); (conv=>whnf);(try(refine ⟨(rfl:(_:Heap)=_),?_⟩;(conv=>whnf)))
          refine ⟨_, _, (hp x hxm).frame rfl _, ?_⟩; (conv=>whnf);(try(refine ⟨(rfl:(_:Heap)=_),?_⟩;(conv=>whnf)))
          refine ⟨by omega, by simp; omega, ?_⟩
          (conv=>whnf);(try(refine ⟨(rfl:(_:Heap)=_),?_⟩;(conv=>whnf)))
          rw [e1]
          refine ⟨_, fill_get (by simp) hk, rfl, ?_⟩
          (conv=>whnf);(try(refine ⟨(rfl:(_:Heap)=_),?_⟩;(conv=>whnf)))
          refine .inl ⟨rfl, ?_, trivial⟩
          rw [i64_nat (by omega), ← fill_set hF hk]
          refine Weak.covD 2 (by (conv => whnf); (repeat (refine ⟨rfl, ?_⟩; (conv => whnf))); exact trivial) rfl rfl rfl (low_cons rfl (low_kept ?_)) rfl
          have lw := low 2 (k + 1) (.inl (by omega))
          rw [← fill_set (z := ([U 0, .lst 1 0 []] : List C)) (n := l.length) hF hk] at lw
          exact lw
        · rw [if_neg (by omega), if_neg (by omega)]
          conv => whnf
          (refine ⟨fun _ => ?_, fun h => absurd h (by simp; omega)⟩); (conv=>whnf);(try(refine ⟨(rfl:(_:Heap)=_),?_⟩;(conv=>whnf)))
          (refine ⟨by omega, _, by rw [toNat_cast]; exact hg, ?_⟩); (conv=>whnf);(try(refine ⟨(rfl:(_:Heap)=_),?_⟩;(conv=>whnf)))
          refine ⟨_, _, (hp x hxm).frame rfl _, ?_⟩; (conv=>whnf);(try(refine ⟨(rfl:(_:Heap)=_),?_⟩;(conv=>whnf)))
          refine ⟨by omega, by simp; omega, ?_⟩
          (conv=>whnf);(try(refine ⟨(rfl:(_:Heap)=_),?_⟩;(conv=>whnf)))
          rw [e1]
          refine ⟨_, fill_get (by simp) hk, rfl, ?_⟩
          (conv=>whnf);(try(refine ⟨(rfl:(_:Heap)=_),?_⟩;(conv=>whnf)))
          refine .inl ⟨rfl, ?_, trivial⟩
          rw [i64_nat (by omega), ← fill_set hF hk]
          refine Weak.covD 5 (by (conv => whnf); (repeat (refine ⟨rfl, ?_⟩; (conv => whnf))); exact trivial) rfl rfl rfl (low_cons rfl (low_cons (low_kept ?_) (low_cons rfl (low_cons (low_kept (set_all (enc := encE) (fun _ => rfl) rfl _ _)) rfl)))) rfl
          have lw := low 5 (k + 1) (.inr (by omega))
          rw [← fill_set (z := ([U 0, .lst 1 0 []] : List C)) (n := l.length) hF hk] at lw
          exact lw
    · rw [if_neg (by omega)]
      (conv => whnf); (refine ⟨fun h => absurd h (by simp), fun _ => ?_⟩); (conv=>whnf);(try(refine ⟨(rfl:(_:Heap)=_),?_⟩;(conv=>whnf))); (refine ⟨by simp, ?_⟩); (conv => whnf)
      rw [fill_done (by simp)]
      exact ⟨.inl rfl, _, .refl _, rfl, rfl⟩
  refine h1.weak (fun B h _ => ?_) (Nat.zero_le _)
  have hw := Weak.ren (B := B) [1, 3, 4] [0] [.sl 1 [] 2 0 l.length false] [⟨1, 187, 0, [[]], 0⟩, ⟨1, 0, 2, (l.map encG).set g ([U g0.ticket, C.sl 3 [] 3 0 g0.ends.length false]), 0⟩, ⟨1, 75, 2, [encG g0], 0⟩, ⟨1, 0, 3, (g0.ends.map encE).set e ([U e0.head, C.sl 4 [] 1 0 e0.next.length false, I e0.active]), 0⟩, ⟨2, 3, 1, e0.next.map encI, 0⟩] (by rw [show B = 0 from by simpa using h]; rfl) rfl rfl (flat_cons rfl (flat_cons (flat_kept (set_all (enc := encG) (fun _ => rfl) rfl l g)) (flat_cons rfl (flat_cons (flat_kept (set_all (enc := encE) (fun _ => rfl) rfl _ _)) rfl))))
  have e : renH [1, 3, 4] [⟨1, 187, 0, [[]], 0⟩, ⟨1, 0, 2, (l.map encG).set g ([U g0.ticket, C.sl 3 [] 3 0 g0.ends.length false]), 0⟩, ⟨1, 75, 2, [encG g0], 0⟩, ⟨1, 0, 3, (g0.ends.map encE).set e ([U e0.head, C.sl 4 [] 1 0 e0.next.length false, I e0.active]), 0⟩, ⟨2, 3, 1, e0.next.map encI, 0⟩] = [⟨1, 0, 2, (l.map encG).set g ([U g0.ticket, C.sl 1 [] 3 0 g0.ends.length false]), 0⟩, ⟨1, 0, 3, (g0.ends.map encE).set e ([U e0.head, C.sl 2 [] 1 0 e0.next.length false, I e0.active]), 0⟩, ⟨2, 3, 1, e0.next.map encI, 0⟩] := by
    show renOb [1, 3, 4] ⟨1, 0, 2, (l.map encG).set g ([U g0.ticket, C.sl 3 [] 3 0 g0.ends.length false]), 0⟩ :: _ = _
    rw [ren_kept (enc := encG) (fun _ => rfl)]
    show _ :: renOb [1, 3, 4] ⟨1, 0, 3, (g0.ends.map encE).set e ([U e0.head, C.sl 4 [] 1 0 e0.next.length false, I e0.active]), 0⟩ :: _ = _; rw [ren_kept (enc := encE) (fun _ => rfl)]; rfl
  rw [e] at hw
  exact hw
structure PathG (v0 : Ver) (g : Nat) (g0 : Gr) (e : Nat) (e0 : En) : Prop extends PathE g0 e e0 where
  smv : SmVer v0
  atg : v0.groups[g]? = some g0
theorem eaG_any {v0 : Ver} {g : Nat} {g0 : Gr} {e : Nat} {e0 : En} (h : PathG v0 g g0 e e0) (H : Heap) (hf : flatH H = true) : SoundAt Tryz.prog 162 H [lG v0.groups, .fn 163 [] [], .agg []] (.sl H.length [] 2 0 v0.groups.length false) (H ++ [⟨1, 0, 2, (v0.groups.map encG).set g ([U g0.ticket, C.sl (H.length + 1) [] 3 0 g0.ends.length false]), 0⟩, ⟨1, 0, 3, (g0.ends.map encE).set e ([U e0.head, C.sl (H.length + 2) [] 1 0 e0.next.length false, I e0.active]), 0⟩, ⟨2, 3, 1, e0.next.map encI, 0⟩]) := by
  have := any_of (eaG_path e0 e v0.groups g g0 h.atg h.smv.1 (fun y hy => groupV_sound y (h.smv.2 y hy)) (groupA_any h.toPathE)) (flat_cons (flat_kept (set_all (enc := encG) (fun _ => rfl) rfl _ _)) (flat_cons (flat_kept (set_all (enc := encE) (fun _ => rfl) rfl _ _)) rfl)) rfl H hf
  have e9 : [(⟨1, 0, 2, (v0.groups.map encG).set g ([U g0.ticket, C.sl 1 [] 3 0 g0.ends.length false]), 0⟩ : Ob), ⟨1, 0, 3, (g0.ends.map encE).set e ([U e0.head, C.sl 2 [] 1 0 e0.next.length false, I e0.active]), 0⟩, ⟨2, 3, 1, e0.next.map encI, 0⟩].map (mapOb (backI [] H.length)) = [⟨1, 0, 2, (v0.groups.map encG).set g ([U g0.ticket, C.sl (H.length + 1) [] 3 0 g0.ends.length false]), 0⟩, ⟨1, 0, 3, (g0.ends.map encE).set e ([U e0.head, C.sl (H.length + 2) [] 1 0 e0.next.length false, I e0.active]), 0⟩, ⟨2, 3, 1, e0.next.map encI, 0⟩] := by
    show mapOb _ ⟨1, 0, 2, _, 0⟩ :: mapOb _ ⟨1, 0, 3, _, 0⟩ :: _ = _
    rw [map_kept (enc := encG) (fun _ => rfl), map_kept (enc := encE) (fun _ => rfl)]
    rfl
  rw [e9] at this
  exact this
theorem versionA_sound {v0 : Ver} {g : Nat} {g0 : Gr} {e : Nat} {e0 : En} (h : PathG v0 g g0 e e0) : SoundAt Tryz.prog 128 [] [.agg [], .agg (encV v0)] (.agg (encS v0.snap ++ [C.sl 0 [] 2 0 v0.groups.length false, Bo v0.freed])) [⟨1, 0, 2, (v0.groups.map encG).set g ([U g0.ticket, C.sl 1 [] 3 0 g0.ends.length false]), 0⟩, ⟨1, 0, 3, (g0.ends.map encE).set e ([U e0.head, C.sl 2 [] 1 0 e0.next.length false, I e0.active]), 0⟩, ⟨2, 3, 1, e0.next.map encI, 0⟩] := by
  have h1 : SoundAt Tryz.prog 128 [] [.agg [], .agg (encV v0)] (.agg (encS v0.snap ++ [C.sl 3 [] 2 0 v0.groups.length false, Bo v0.freed])) [⟨1, 187, 0, [[]], 0⟩, ⟨1, 71, 5, [(encS v0.snap ++ [C.sl 3 [] 2 0 v0.groups.length false, Bo v0.freed])], 0⟩, ⟨1, 71, 5, [(encS v0.snap ++ [C.sl 3 [] 2 0 v0.groups.length false, Bo v0.freed])], 0⟩, ⟨1, 0, 2, (v0.groups.map encG).set g ([U g0.ticket, C.sl 4 [] 3 0 g0.ends.length false]), 0⟩, ⟨1, 0, 3, (g0.ends.map encE).set e ([U e0.head, C.sl 5 [] 1 0 e0.next.length false, I e0.active]), 0⟩, ⟨2, 3, 1, e0.next.map encI, 0⟩] := by
    refine SoundAt.of_wpA (fn := Tryz.f128) Tryz.func128 rfl ?_
    conv => whnf
    refine ⟨_, _, eaG_any h _ rfl, ?_⟩
    (conv=>whnf);(try(refine ⟨(rfl:(_:Heap)=_),?_⟩;(conv=>whnf)))
    exact ⟨.inl rfl, _, .refl _, rfl, rfl⟩
  refine h1.weak (fun B hB _ => ?_) (Nat.zero_le _)
  have hw := Weak.ren (B := B) [3, 4, 5] [0] [.agg (encS v0.snap ++ [C.sl 3 [] 2 0 v0.groups.length false, Bo v0.freed])] [⟨1, 187, 0, [[]], 0⟩, ⟨1, 71, 5, [(encS v0.snap ++ [C.sl 3 [] 2 0 v0.groups.length false, Bo v0.freed])], 0⟩, ⟨1, 71, 5, [(encS v0.snap ++ [C.sl 3 [] 2 0 v0.groups.length false, Bo v0.freed])], 0⟩, ⟨1, 0, 2, (v0.groups.map encG).set g ([U g0.ticket, C.sl 4 [] 3 0 g0.ends.length false]), 0⟩, ⟨1, 0, 3, (g0.ends.map encE).set e ([U e0.head, C.sl 5 [] 1 0 e0.next.length false, I e0.active]), 0⟩, ⟨2, 3, 1, e0.next.map encI, 0⟩] (by rw [show B = 0 from by simpa using hB]; rfl) rfl rfl (flat_cons rfl (flat_cons rfl (flat_cons rfl (flat_cons (flat_kept (set_all (enc := encG) (fun _ => rfl) rfl _ _)) (flat_cons (flat_kept (set_all (enc := encE) (fun _ => rfl) rfl _ _)) rfl)))))
  have e : renH [3, 4, 5] [⟨1, 187, 0, [[]], 0⟩, ⟨1, 71, 5, [(encS v0.snap ++ [C.sl 3 [] 2 0 v0.groups.length false, Bo v0.freed])], 0⟩, ⟨1, 71, 5, [(encS v0.snap ++ [C.sl 3 [] 2 0 v0.groups.length false, Bo v0.freed])], 0⟩, ⟨1, 0, 2, (v0.groups.map encG).set g ([U g0.ticket, C.sl 4 [] 3 0 g0.ends.length false]), 0⟩, ⟨1, 0, 3, (g0.ends.map encE).set e ([U e0.head, C.sl 5 [] 1 0 e0.next.length false, I e0.active]), 0⟩, ⟨2, 3, 1, e0.next.map encI, 0⟩] = [⟨1, 0, 2, (v0.groups.map encG).set g ([U g0.ticket, C.sl 1 [] 3 0 g0.ends.length false]), 0⟩, ⟨1, 0, 3, (g0.ends.map encE).set e ([U e0.head, C.sl 2 [] 1 0 e0.next.length false, I e0.active]), 0⟩, ⟨2, 3, 1, e0.next.map encI, 0⟩] := by
    show renOb [3, 4, 5] ⟨1, 0, 2, (v0.groups.map encG).set g ([U g0.ticket, C.sl 4 [] 3 0 g0.ends.length false]), 0⟩ :: renOb [3, 4, 5] ⟨1, 0, 3, (g0.ends.map encE).set e ([U e0.head, C.sl 5 [] 1 0 e0.next.length false, I e0.active]), 0⟩ :: _ = _
    rw [ren_kept (enc := encG) (fun _ => rfl), ren_kept (enc := encE) (fun _ => rfl)]
    rfl
  rw [e] at hw
  exact hw
theorem versionA_any {v0 : Ver} {g : Nat} {g0 : Gr} {e : Nat} {e0 : En} (h : PathG v0 g g0 e e0) (H : Heap) (hf : flatH H = true) : SoundAt Tryz.prog 128 H [.agg [], .agg (encV v0)] (.agg ((encS v0.snap ++ [C.sl H.length [] 2 0 v0.groups.length false, Bo v0.freed]))) (H ++ [⟨1, 0, 2, (v0.groups.map encG).set g ([U g0.ticket, C.sl (H.length + 1) [] 3 0 g0.ends.length false]), 0⟩, ⟨1, 0, 3, (g0.ends.map encE).set e ([U e0.head, C.sl (H.length + 2) [] 1 0 e0.next.length false, I e0.active]), 0⟩, ⟨2, 3, 1, e0.next.map encI, 0⟩]) := by
  have := any_of (versionA_sound h) (flat_cons (flat_kept (set_all (enc := encG) (fun _ => rfl) rfl _ _)) (flat_cons (flat_kept (set_all (enc := encE) (fun _ => rfl) rfl _ _)) rfl)) rfl H hf
  have e9 : [(⟨1, 0, 2, (v0.groups.map encG).set g ([U g0.ticket, C.sl 1 [] 3 0 g0.ends.length false]), 0⟩ : Ob), ⟨1, 0, 3, (g0.ends.map encE).set e ([U e0.head, C.sl 2 [] 1 0 e0.next.length false, I e0.active]), 0⟩, ⟨2, 3, 1, e0.next.map encI, 0⟩].map (mapOb (backI [] H.length)) = [⟨1, 0, 2, (v0.groups.map encG).set g ([U g0.ticket, C.sl (H.length + 1) [] 3 0 g0.ends.length false]), 0⟩, ⟨1, 0, 3, (g0.ends.map encE).set e ([U e0.head, C.sl (H.length + 2) [] 1 0 e0.next.length false, I e0.active]), 0⟩, ⟨2, 3, 1, e0.next.map encI, 0⟩] := by
    show mapOb _ ⟨1, 0, 2, _, 0⟩ :: mapOb _ ⟨1, 0, 3, _, 0⟩ :: _ = _
    rw [map_kept (enc := encG) (fun _ => rfl), map_kept (enc := encE) (fun _ => rfl)]
    rfl
  rw [e9] at this
  exact this
theorem eaV_path (g0 : Gr) (g : Nat) (e0 : En) (e : Nat) (l : List Ver) (v : Nat) (v0 : Ver) (hv : l[v]? = some v0) (hl : l.length < 1000000000) (hp : ∀ x ∈ l, SoundAt Tryz.prog 128 [] [.agg [], .agg (encV x)] (.agg (encV x)) [])
    (hA : ∀ H, flatH H = true → SoundAt Tryz.prog 128 H [.agg [], .agg (encV v0)] (.agg ((encS v0.snap ++ [C.sl H.length [] 2 0 v0.groups.length false, Bo v0.freed]))) (H ++ [⟨1, 0, 2, (v0.groups.map encG).set g ([U g0.ticket, C.sl (H.length + 1) [] 3 0 g0.ends.length false]), 0⟩, ⟨1, 0, 3, (g0.ends.map encE).set e ([U e0.head, C.sl (H.length + 2) [] 1 0 e0.next.length false, I e0.active]), 0⟩, ⟨2, 3, 1, e0.next.map encI, 0⟩])) :
    SoundAt Tryz.prog 127 [] [lV l, .fn 128 [] [], .agg []] (.sl 0 [] 5 0 l.length false) [⟨1, 0, 5, (l.map encV).set v ((encS v0.snap ++ [C.sl 1 [] 2 0 v0.groups.length false, Bo v0.freed])), 0⟩, ⟨1, 0, 2, (v0.groups.map encG).set g ([U g0.ticket, C.sl 2 [] 3 0 g0.ends.length false]), 0⟩, ⟨1, 0, 3, (g0.ends.map encE).set e ([U e0.head, C.sl 3 [] 1 0 e0.next.length false, I e0.active]), 0⟩, ⟨2, 3, 1, e0.next.map encI, 0⟩] := by
  have m1 : (l.map encV).length = l.length := List.length_map ..
  have hvl := (List.getElem?_eq_some_iff.1 hv).1
  have h1 : SoundAt Tryz.prog 127 [] [lV l, .fn 128 [] [], .agg []] (.sl 1 [] 5 0 l.length false) [⟨1, 187, 0, [[]], 0⟩, ⟨1, 0, 5, (l.map encV).set v ((encS v0.snap ++ [C.sl 3 [] 2 0 v0.groups.length false, Bo v0.freed])), 0⟩, ⟨1, 71, 5, [encV v0], 0⟩, ⟨1, 0, 2, (v0.groups.map encG).set g ([U g0.ticket, C.sl 4 [] 3 0 g0.ends.length false]), 0⟩, ⟨1, 0, 3, (g0.ends.map encE).set e ([U e0.head, C.sl 5 [] 1 0 e0.next.length false, I e0.active]), 0⟩, ⟨2, 3, 1, e0.next.map encI, 0⟩] := by
    refine SoundAt.of_wpA (fn := Tryz.f127) Tryz.func127 rfl ?_
    conv => whnf
    rw [m1]
    refine ⟨rfl, by omega, by show (104 : Int) * _ ≤ _; omega, by omega, ?_⟩
    (conv=>whnf);(try(refine ⟨(rfl:(_:Heap)=_),?_⟩;(conv=>whnf)))
    rw [m1, toNat_cast]
    have ZZ : List C := ([.lst 1 0 [], .lst 1 0 [], .lst 1 0 [], .lst 1 0 [], Bo false] : List C)
    refine Loops.seq l.length (fun k => [lV l, .fn 128 [] [], .junk, .junk, .junk, .ref 0 [] 0 0 0, .lst 1 0 [], .sl 1 [] 5 0 l.length false, .junk, .junk, .junk, .junk, .junk, lV l, I l.length, I k, .junk, .junk, .junk, .junk, .junk, .junk, .junk, .junk, .junk, .junk, .junk, .junk, .junk]) (fun k => if k ≤ v then [⟨1, 187, 0, [[]], 0⟩, ⟨1, 0, 5, ((l.map encV).set v ((encS v0.snap ++ [C.sl 3 [] 2 0 v0.groups.length false, Bo v0.freed]))).take k ++ (List.replicate l.length ([.lst 1 0 [], .lst 1 0 [], .lst 1 0 [], .lst 1 0 [], Bo false] : List C)).drop k, 0⟩] else [⟨1, 187, 0, [[]], 0⟩, ⟨1, 0, 5, ((l.map encV).set v ((encS v0.snap ++ [C.sl 3 [] 2 0 v0.groups.length false, Bo v0.freed]))).take k ++ (List.replicate l.length ([.lst 1 0 [], .lst 1 0 [], .lst 1 0 [], .lst 1 0 [], Bo false] : List C)).drop k, 0⟩, ⟨1, 71, 5, [encV v0], 0⟩, ⟨1, 0, 2, (v0.groups.map encG).set g ([U g0.ticket, C.sl 4 [] 3 0 g0.ends.length false]), 0⟩, ⟨1, 0, 3, (g0.ends.map encE).set e ([U e0.head, C.sl 5 [] 1 0 e0.next.length false, I e0.active]), 0⟩, ⟨2, 3, 1, e0.next.map encI, 0⟩]) (fun k => True) ?_ trivial (fun k hk hr => ?_) (fun hr => ?_)
    · rw [if_pos (Nat.zero_le _)]
      refine Weak.trans (Weak.keptA 1 rfl fun r hr c hc => ?_) (Weak.cov (by (conv => whnf); (repeat (refine ⟨rfl, ?_⟩; (conv => whnf))); exact trivial))
      rw [List.eq_of_mem_replicate hr] at hc
      exact List.all_eq_true.1 (rfl : ([.lst 1 0 [], .lst 1 0 [], .lst 1 0 [], .lst 1 0 [], Bo false] : List C).all noOwn = true) c hc
    · obtain ⟨x, hx⟩ : ∃ x, x = l[k] := ⟨_, rfl⟩
      have hx2 : l[k]? = some x := by rw [List.getElem?_eq_getElem hk, hx]
      have hxm : x ∈ l := by rw [hx]; exact List.getElem_mem hk
      have hg : (l.map encV)[k]? = some (encV x) := by rw [List.getElem?_map, hx2]; rfl
      have e1 : 0 + (k : Int).toNat = k := by simp
      have low : ∀ n j, j ≤ v ∨ 3 < n → ∀ r ∈ ((l.map encV).set v ((encS v0.snap ++ [C.sl 3 [] 2 0 v0.groups.length false, Bo v0.freed]))).take j ++ (List.replicate l.length ([.lst 1 0 [], .lst 1 0 [], .lst 1 0 [], .lst 1 0 [], Bo false] : List C)).drop j, ∀ c ∈ r, lowC n 9 c = true := fun n j h => fill_all (enc := encV) (fun _ => rfl) rfl l l.length (h.imp_right fun h => by simp [lowC, encS]; omega)
      have own : ∀ j, ∀ r ∈ ((l.map encV).set v ((encS v0.snap ++ [C.sl 3 [] 2 0 v0.groups.length false, Bo v0.freed]))).take j ++ (List.replicate l.length ([.lst 1 0 [], .lst 1 0 [], .lst 1 0 [], .lst 1 0 [], Bo false] : List C)).drop j, ∀ c ∈ r, noOwn c = true := fun j => fill_all (enc := encV) (fun _ => rfl) rfl l l.length (.inr rfl)
      by_cases hkv : k = v
      · subst hkv
        obtain rfl : v0 = x := by rw [hv] at hx2; exact Option.some.inj hx2
        have hF : ((l.map encV).set k ((encS v0.snap ++ [C.sl 3 [] 2 0 v0.groups.length false, Bo v0.freed])))[k]? = some ((encS v0.snap ++ [C.sl 3 [] 2 0 v0.groups.length false, Bo v0.freed])) := by rw [List.getElem?_set, if_pos rfl, if_pos (by simpa using hk)]
        rw [if_pos (Nat.le_refl _), if_neg (by omega)]
        conv => whnf
        (refine ⟨fun _ => ?_, fun h => absurd h (by simp; omega)⟩); (conv=>whnf);(try(refine ⟨(rfl:(_:Heap)=_),?_⟩;(conv=>whnf)))
        (refine ⟨by omega, _, by rw [toNat_cast]; exact hg, ?_⟩); (conv=>whnf);(try(refine ⟨(rfl:(_:Heap)=_),?_⟩;(conv=>whnf)))
        refine ⟨_, _, hA _ (flat_cons rfl (flat_cons (flat_kept (own k)) rfl)), ?_⟩
        (conv=>whnf);(try(refine ⟨(rfl:(_:Heap)=_),?_⟩;(conv=>whnf)))
        refine ⟨by omega, by simp; omega, ?_⟩
        (conv=>whnf);(try(refine ⟨(rfl:(_:Heap)=_),?_⟩;(conv=>whnf)))
        rw [e1]
        refine ⟨_, fill_get (by simp) hk, rfl, ?_⟩
        (conv=>whnf);(try(refine ⟨(rfl:(_:Heap)=_),?_⟩;(conv=>whnf)))
        refine .inl ⟨rfl, ?_, trivial⟩
        rw [i64_nat (by omega), ← fill_set hF hk]
        exact Weak.cov (by (conv => whnf); (repeat (refine ⟨rfl, ?_⟩; (conv => whnf))); exact trivial)
      · have hF : ((l.map encV).set v ((encS v0.snap ++ [C.sl 3 [] 2 0 v0.groups.length false, Bo v0.freed])))[k]? = some (encV x) := by rw [List.getElem?_set_ne (fun h => hkv h.symm)]; exact hg
        by_cases hlt : k < v
        · rw [if_pos (by omega), if_pos (by omega)]
          conv => whnf
          (refine ⟨fun _ => ?_, fun h => absurd h (by simp; omega)⟩); (conv=>whnf);(try(refine ⟨(rfl:(_:Heap)=_),?_⟩;(conv=>whnf)))
          (refine ⟨by omega, _, by rw [toNat_cast]; exact hg, ?_⟩); (conv=>whnf);(try(refine ⟨(rfl:(_:Heap)=_),?_⟩;(conv=>whnf)))
          refine ⟨_, _, (hp x hxm).frame rfl _, ?_⟩; (conv=>whnf);(try(refine ⟨(rfl:(_:Heap)=_),?_⟩;(conv=>whnf)))
          refine ⟨by omega, by simp; omega, ?_⟩
          (conv=>whnf);(try(refine ⟨(rfl:(_:Heap)=_),?_⟩;(conv=>whnf)))
          rw [e1]
          refine ⟨_, fill_get (by simp) hk, rfl, ?_⟩
          (conv=>whnf);(try(refine ⟨(rfl:(_:Heap)=_),?_⟩;(conv=>whnf)))
          refine .inl ⟨rfl, ?_, trivial⟩
          rw [i64_nat (by omega), ← fill_set hF hk]
          refine Weak.covD 2 (by (conv => whnf); (repeat (refine ⟨rfl, ?_⟩; (conv => whnf))); exact trivial) rfl rfl rfl (low_cons rfl (low_kept ?_)) rfl
          have lw := low 2 (k + 1) (.inl (by omega))
          rw [← fill_set (z := ([.lst 1 0 [], .lst 1 0 [], .lst 1 0 [], .lst 1 0 [], Bo false] : List C)) (n := l.length) hF hk] at lw
          exact lw
        · rw [if_neg (by omega), if_neg (by omega)]
          conv => whnf
          (refine ⟨fun _ => ?_, fun h => absurd h (by simp; omega)⟩); (conv=>whnf);(try(refine ⟨(rfl:(_:Heap)=_),?_⟩;(conv=>whnf)))
          (refine ⟨by omega, _, by rw [toNat_cast]; exact hg, ?_⟩); (conv=>whnf);(try(refine ⟨(rfl:(_:Heap)=_),?_⟩;(conv=>whnf)))
          refine ⟨_, _, (hp x hxm).frame rfl _, ?_⟩; (conv=>whnf);(try(refine ⟨(rfl:(_:Heap)=_),?_⟩;(conv=>whnf)))
          refine ⟨by omega, by simp; omega, ?_⟩
          (conv=>whnf);(try(refine ⟨(rfl:(_:Heap)=_),?_⟩;(conv=>whnf)))
          rw [e1]
          refine ⟨_, fill_get (by simp) hk, rfl, ?_⟩
          (conv=>whnf);(try(refine ⟨(rfl:(_:Heap)=_),?_⟩;(conv=>whnf)))
          refine .inl ⟨rfl, ?_, trivial⟩
          rw [i64_nat (by omega), ← fill_set hF hk]
          refine Weak.covD 6 (by (conv => whnf); (repeat (refine ⟨rfl, ?_⟩; (conv => whnf))); exact trivial) rfl rfl rfl (low_cons rfl (low_cons (low_kept ?_) (low_cons rfl (low_cons (low_kept (set_all (enc := encG) (fun _ => rfl) rfl _ _)) (low_cons (low_kept (set_all (enc := encE) (fun _ => rfl) rfl _ _)) rfl))))) rfl
          have lw := low 6 (k + 1) (.inr (by omega))
          rw [← fill_set (z := ([.lst 1 0 [], .lst 1 0 [], .lst 1 0 [], .lst 1 0 [], Bo false] : List C)) (n := l.length) hF hk] at lw
          exact lw
    · rw [if_neg (by omega)]
      (conv => whnf); (refine ⟨fun h => absurd h (by simp), fun _ => ?_⟩); (conv=>whnf);(try(refine ⟨(rfl:(_:Heap)=_),?_⟩;(conv=>whnf))); (refine ⟨by simp, ?_⟩); (conv => whnf)
      rw [fill_done (by simp)]
      exact ⟨.inl rfl, _, .refl _, rfl, rfl⟩
  refine h1.weak (fun B h _ => ?_) (Nat.zero_le _)
  have hw := Weak.ren (B := B) [1, 3, 4, 5] [0] [.sl 1 [] 5 0 l.length false] [⟨1, 187, 0, [[]], 0⟩, ⟨1, 0, 5, (l.map encV).set v ((encS v0.snap ++ [C.sl 3 [] 2 0 v0.groups.length false, Bo v0.freed])), 0⟩, ⟨1, 71, 5, [encV v0], 0⟩, ⟨1, 0, 2, (v0.groups.map encG).set g ([U g0.ticket, C.sl 4 [] 3 0 g0.ends.length false]), 0⟩, ⟨1, 0, 3, (g0.ends.map encE).set e ([U e0.head, C.sl 5 [] 1 0 e0.next.length false, I e0.active]), 0⟩, ⟨2, 3, 1, e0.next.map encI, 0⟩] (by rw [show B = 0 from by simpa using h]; rfl) rfl rfl (flat_cons rfl (flat_cons (flat_kept (set_all (enc := encV) (fun _ => rfl) rfl l v)) (flat_cons rfl (flat_cons (flat_kept (set_all (enc := encG) (fun _ => rfl) rfl _ _)) (flat_cons (flat_kept (set_all (enc := encE) (fun _ => rfl) rfl _ _)) rfl)))))
  have e : renH [1, 3, 4, 5] [⟨1, 187, 0, [[]], 0⟩, ⟨1, 0, 5, (l.map encV).set v ((encS v0.snap ++ [C.sl 3 [] 2 0 v0.groups.length false, Bo v0.freed])), 0⟩, ⟨1, 71, 5, [encV v0], 0⟩, ⟨1, 0, 2, (v0.groups.map encG).set g ([U g0.ticket, C.sl 4 [] 3 0 g0.ends.length false]), 0⟩, ⟨1, 0, 3, (g0.ends.map encE).set e ([U e0.head, C.sl 5 [] 1 0 e0.next.length false, I e0.active]), 0⟩, ⟨2, 3, 1, e0.next.map encI, 0⟩] = [⟨1, 0, 5, (l.map encV).set v ((encS v0.snap ++ [C.sl 1 [] 2 0 v0.groups.length false, Bo v0.freed])), 0⟩, ⟨1, 0, 2, (v0.groups.map encG).set g ([U g0.ticket, C.sl 2 [] 3 0 g0.ends.length false]), 0⟩, ⟨1, 0, 3, (g0.ends.map encE).set e ([U e0.head, C.sl 3 [] 1 0 e0.next.length false, I e0.active]), 0⟩, ⟨2, 3, 1, e0.next.map encI, 0⟩] := by
    show renOb [1, 3, 4, 5] ⟨1, 0, 5, (l.map encV).set v ((encS v0.snap ++ [C.sl 3 [] 2 0 v0.groups.length false, Bo v0.freed])), 0⟩ :: _ = _
    rw [ren_kept (enc := encV) (fun _ => rfl)]
    show _ :: renOb [1, 3, 4, 5] ⟨1, 0, 2, (v0.groups.map encG).set g ([U g0.ticket, C.sl 4 [] 3 0 g0.ends.length false]), 0⟩ :: renOb [1, 3, 4, 5] ⟨1, 0, 3, (g0.ends.map encE).set e ([U e0.head, C.sl 5 [] 1 0 e0.next.length false, I e0.active]), 0⟩ :: _ = _; rw [ren_kept (enc := encG) (fun _ => rfl), ren_kept (enc := encE) (fun _ => rfl)]; rfl
  rw [e] at hw
  exact hw
structure PathV (vs : List Ver) (v : Nat) (v0 : Ver) (g : Nat) (g0 : Gr) (e : Nat) (e0 : En) : Prop extends PathG v0 g g0 e e0 where
  smvs : vs.length < 1000000000 ∧ ∀ v ∈ vs, SmVer v
  atv : vs[v]? = some v0
theorem eaV_any {vs : List Ver} {v : Nat} {v0 : Ver} {g : Nat} {g0 : Gr} {e : Nat} {e0 : En} (h : PathV vs v v0 g g0 e e0) (H : Heap) (hf : flatH H = true) : SoundAt Tryz.prog 127 H [lV vs, .fn 128 [] [], .agg []] (.sl H.length [] 5 0 vs.length false) (H ++ [⟨1, 0, 5, (vs.map encV).set v ((encS v0.snap ++ [C.sl (H.length + 1) [] 2 0 v0.groups.length false, Bo v0.freed])), 0⟩, ⟨1, 0, 2, (v0.groups.map encG).set g ([U g0.ticket, C.sl (H.length + 2) [] 3 0 g0.ends.length false]), 0⟩, ⟨1, 0, 3, (g0.ends.map encE).set e ([U e0.head, C.sl (H.length + 3) [] 1 0 e0.next.length false, I e0.active]), 0⟩, ⟨2, 3, 1, e0.next.map encI, 0⟩]) := by
  have := any_of (eaV_path g0 g e0 e vs v v0 h.atv h.smvs.1 (fun y hy => versionV_sound y (h.smvs.2 y hy)) (versionA_any h.toPathG)) (flat_cons (flat_kept (set_all (enc := encV) (fun _ => rfl) rfl _ _)) (flat_cons (flat_kept (set_all (enc := encG) (fun _ => rfl) rfl _ _)) (flat_cons (flat_kept (set_all (enc := encE) (fun _ => rfl) rfl _ _)) rfl))) rfl H hf
  have e9 : [(⟨1, 0, 5, (vs.map encV).set v ((encS v0.snap ++ [C.sl 1 [] 2 0 v0.groups.length false, Bo v0.freed])), 0⟩ : Ob), ⟨1, 0, 2, (v0.groups.map encG).set g ([U g0.ticket, C.sl 2 [] 3 0 g0.ends.length false]), 0⟩, ⟨1, 0, 3, (g0.ends.map encE).set e ([U e0.head, C.sl 3 [] 1 0 e0.next.length false, I e0.active]), 0⟩, ⟨2, 3, 1, e0.next.map encI, 0⟩].map (mapOb (backI [] H.length)) = [⟨1, 0, 5, (vs.map encV).set v ((encS v0.snap ++ [C.sl (H.length + 1) [] 2 0 v0.groups.length false, Bo v0.freed])), 0⟩, ⟨1, 0, 2, (v0.groups.map encG).set g ([U g0.ticket, C.sl (H.length + 2) [] 3 0 g0.ends.length false]), 0⟩, ⟨1, 0, 3, (g0.ends.map encE).set e ([U e0.head, C.sl (H.length + 3) [] 1 0 e0.next.length false, I e0.active]), 0⟩, ⟨2, 3, 1, e0.next.map encI, 0⟩] := by
    show mapOb _ ⟨1, 0, 5, _, 0⟩ :: mapOb _ ⟨1, 0, 2, _, 0⟩ :: mapOb _ ⟨1, 0, 3, _, 0⟩ :: _ = _
    rw [map_kept (enc := encV) (fun _ => rfl), map_kept (enc := encG) (fun _ => rfl), map_kept (enc := encE) (fun _ => rfl)]
    rfl
  rw [e9] at this
  exact this
end Go.Wor
namespace Go.Wor
open Go.Ab Go.Proofs Go.Hy Go.Gat Go.Nam Go.Hos Go.Con Go.Sna
set_option linter.unusedVariables false
set_option linter.unusedSimpArgs false
set_option maxRecDepth 100000
set_option maxHeartbeats 4000000
theorem eaC_arr (l : List (List Int)) (hl : l.length < 1000000000) (hp : ∀ x ∈ l, SoundAt Tryz.prog 131 [] [.agg [], lU x] (lU x) []) : SoundAt Tryz.prog 130 [] [lCo l, .fn 131 [] [], .agg []] (.sl 0 [] 1 0 l.length false) [⟨2, 108, 1, l.map encCo, 0⟩] := by
  have m1 : (l.map encCo).length = l.length := List.length_map ..
  refine SoundAt.of_wpA (fn := Tryz.f130) Tryz.func130 rfl ?_
  conv => whnf
  rw [m1]
  refine ⟨rfl, by omega, by show (24 : Int) * _ ≤ _; omega, by omega, ?_⟩
  (conv=>whnf);(try(refine ⟨(rfl:(_:Heap)=_),?_⟩;(conv=>whnf)))
  rw [m1, toNat_cast]
  refine Loops.seq l.length (fun k => [lCo l, .fn 131 [] [], .junk, .junk, .junk, .ref 0 [] 0 0 0, .lst 1 0 [], .sl 1 [] 1 0 l.length false, .junk, .junk, .junk, .junk, .junk, lCo l, I l.length, I k, .junk, .junk, .junk, .junk, .junk, .junk, .junk, .junk, .junk, .junk, .junk, .junk, .junk]) (fun k => [⟨1, 187, 0, [[]], 0⟩, ⟨2, 108, 1, (l.map encCo).take k ++ (List.replicate l.length ([.lst 1 0 []] : List C)).drop k, 0⟩]) (fun k => True) ?_ trivial (fun k hk hr => ?_) (fun hr => ?_)
  · exact Weak.cov (by (conv => whnf); (repeat (refine ⟨rfl, ?_⟩; (conv => whnf))); exact trivial)
  · obtain ⟨x, hx⟩ : ∃ x, x = l[k] := ⟨_, rfl⟩
    have hx2 : l[k]? = some x := by rw [List.getElem?_eq_getElem hk, hx]
    have hg : (l.map encCo)[k]? = some (encCo x) := by rw [List.getElem?_map, hx2]; rfl
    conv => whnf
    (refine ⟨fun _ => ?_, fun h => absurd h (by simp; omega)⟩); (conv=>whnf);(try(refine ⟨(rfl:(_:Heap)=_),?_⟩;(conv=>whnf)))
    (refine ⟨by omega, _, by rw [toNat_cast]; exact hg, ?_⟩); (conv=>whnf);(try(refine ⟨(rfl:(_:Heap)=_),?_⟩;(conv=>whnf)))
    refine ⟨_, _, (hp x (by rw [hx]; exact List.getElem_mem hk)).frame rfl _, ?_⟩; (conv=>whnf);(try(refine ⟨(rfl:(_:Heap)=_),?_⟩;(conv=>whnf)))
    refine ⟨by omega, by simp; omega, ?_⟩
    (conv=>whnf);(try(refine ⟨(rfl:(_:Heap)=_),?_⟩;(conv=>whnf)))
    have e1 : 0 + (k : Int).toNat = k := by simp
    rw [e1]
    refine ⟨_, fill_get (by simp) hk, rfl, ?_⟩
    (conv=>whnf);(try(refine ⟨(rfl:(_:Heap)=_),?_⟩;(conv=>whnf)))
    refine .inl ⟨rfl, ?_, trivial⟩
    have e2 := fill_set (z := ([.lst 1 0 []] : List C)) (n := l.length) hg hk
    rw [i64_nat (by omega), ← e2]
    exact Weak.covD 2 (by (conv => whnf); (repeat (refine ⟨rfl, ?_⟩; (conv => whnf))); exact trivial) rfl rfl rfl rfl rfl
  · (conv => whnf); (refine ⟨fun h => absurd h (by simp), fun _ => ?_⟩); (conv=>whnf);(try(refine ⟨(rfl:(_:Heap)=_),?_⟩;(conv=>whnf))); (refine ⟨by simp, ?_⟩); (conv => whnf)
    rw [fill_done (by simp)]
    exact ⟨.inl rfl, _, Weak.ren [1] [6] _ _ rfl rfl rfl rfl, rfl, rfl⟩
theorem rowA_sound (r0 : List Int) (x : Int) (l : List Int) (he : r0 = x :: l) (hl : l.length < 1000000000) : SoundAt Tryz.prog 131 [] [.agg [], lU r0] (.sl 0 [] 1 0 r0.length false) [⟨2, 32, 1, r0.map encU, 0⟩] := by
  have h1 : SoundAt Tryz.prog 131 [] [.agg [], lU r0] (.sl 1 [] 1 0 r0.length false) [⟨1, 187, 0, [[]], 0⟩, ⟨2, 32, 1, r0.map encU, 0⟩] := by
    have hc := cloU_arr x l hl
    rw [← he] at hc
    refine SoundAt.of_wpA (fn := Tryz.f131) Tryz.func131 rfl ?_
    conv => whnf
    refine callPart [] (hc) rfl rfl rfl rfl rfl rfl ?_; (conv=>whnf);(try(refine ⟨(rfl:(_:Heap)=_),?_⟩;(conv=>whnf)))
    exact ⟨.inl rfl, _, .refl _, rfl, rfl⟩
  exact h1.weak (fun B h _ => Weak.ren [1] [0] _ _ (by rw [show B = 0 from by simpa using h]; rfl) rfl rfl rfl) (Nat.zero_le _)
theorem rowA_any (r0 : List Int) (x : Int) (l : List Int) (he : r0 = x :: l) (hl : l.length < 1000000000) (H : Heap) (hf : flatH H = true) : SoundAt Tryz.prog 131 H [.agg [], lU r0] (.sl H.length [] 1 0 r0.length false) (H ++ [⟨2, 32, 1, r0.map encU, 0⟩]) :=
  any_of (rowA_sound r0 x l he hl) rfl rfl H hf
theorem of_wpW {P : Program} {f : FuncId} {fn : Func} {c : Code} {H2 : Heap} {args : List C} {r : C} (hf : P.funcs[f]? = some fn) (hb : fn.body = some c)
    (h : wpA P 0 c (entry fn args) [] fun ex t1 H1 => (ex = .ret ∨ ex = .normal) ∧ ∃ s2 r1, Weak 0 ⟨t1, H1⟩ s2 ∧ resC P fn s2 = some r1 ∧ Weak 0 ⟨[r1], s2.H⟩ ⟨[r], H2⟩) : SoundAt P f [] args r H2 := fun w E vs hh hl => by
  have h1 : SoundR P f [] args fun r1 H1 => Weak 0 ⟨[r1], H1⟩ ⟨[r], H2⟩ := SoundR.of_wpA hf hb h
  refine (h1 w E vs hh hl).mono ?_
  rintro e w' ⟨r1, H1, v, E', hw, h0, h2, h3, g⟩
  obtain ⟨E2, hs, g2⟩ := hw 0 w' E' ⟨#[v], []⟩ ⟨h2, LL.one h3, Nat.zero_le _, Nat.zero_le _⟩
  have hn2 := hs.heap.n
  have hn0 : E.n = 0 := hh.n
  refine ⟨v, E2, h0, hs.heap, hs.tmps.cons_inv.1, ⟨⟨by rw [hn0]; exact Nat.zero_le _, fun id hops hi => by rw [hn0] at hi; omega, fun id hops hi => by rw [hn0] at hi; omega, fun b o u hu => g2.le.St _ _ _ (g.le.St _ _ _ hu), fun id k u hi hu => by rw [hn0] at hi; omega⟩, g2.os.trans g.os, g2.tape.trans g.tape, g2.output.trans g.output, Nat.le_trans g.size g2.size, ?_, ?_, ?_⟩⟩
  · intro k hk ho
    exact (g2.frame k (Nat.lt_of_lt_of_le hk g.size) fun hc => (g.own k hc).elim (fun h => by omega) ho).trans (g.frame k hk ho)
  · intro b o u hu
    rcases g2.newSt b o u hu with h1 | h1 | h1
    · exact g.newSt b o u h1
    · exact .inr (.inl (Nat.le_trans g.size h1))
    · rcases g.own b h1 with h4 | h4
      · exact .inr (.inl h4)
      · exact .inr (.inr h4)
  · intro b hb
    rcases g2.own b hb with h1 | h1
    · exact .inl (Nat.le_trans g.size h1)
    · exact g.own b h1
theorem clone_sound (w : Wor) (h : SmWor w) : SoundAt Tryz.prog 83 [] [Cw w] (Cw w) [] := by
  refine SoundAt.of_wpA1 (fn := Tryz.f83) Tryz.func83 rfl ?_
  conv => whnf
  refine ⟨_, _, (cloI_val w.pins h.pins).frame rfl _, ?_⟩; (conv=>whnf);(try(refine ⟨(rfl:(_:Heap)=_),?_⟩;(conv=>whnf)))
  refine callPart [] (eaV_arr w.versions h.versions.1 fun v hv => versionV_sound v (h.versions.2 v hv)) rfl rfl rfl rfl rfl rfl ?_; (conv=>whnf);(try(refine ⟨(rfl:(_:Heap)=_),?_⟩;(conv=>whnf)))
  refine ⟨_, _, (cloL_val w.listens h.listens).frame rfl _, ?_⟩; (conv=>whnf);(try(refine ⟨(rfl:(_:Heap)=_),?_⟩;(conv=>whnf)))
  refine callPart [] (eaC_arr w.counts h.counts.1 fun r hr => rowV_sound r (h.counts.2 r hr)) rfl rfl rfl rfl rfl rfl ?_; (conv=>whnf);(try(refine ⟨(rfl:(_:Heap)=_),?_⟩;(conv=>whnf)))
  refine ⟨_, _, (cloR_val w.limbo h.limbo).frame rfl _, ?_⟩; (conv=>whnf);(try(refine ⟨(rfl:(_:Heap)=_),?_⟩;(conv=>whnf)))
  exact ⟨.inl rfl, _, (Weak.freezeC 1 0 4 rfl rfl rfl rfl (.inr rfl) rfl (by simp) (shut_map (enc := encV) (fun _ => rfl) w.versions) (one_noOwn rfl)).trans (Weak.freezeC 1 0 6 rfl rfl rfl rfl (.inr rfl) rfl (by simp) (shut_map (enc := encCo) (fun _ => rfl) w.counts) (one_noOwn rfl)), rfl⟩
theorem eaR_path  (l : List (List Int)) (t : Nat) (r0 : (List Int)) (hv : l[t]? = some r0) (hl : l.length < 1000000000) (hp : ∀ x ∈ l, SoundAt Tryz.prog 131 [] [.agg [], lU x] (lU x) [])
    (hA : ∀ H, flatH H = true → SoundAt Tryz.prog 131 H [.agg [], lU r0] (.sl H.length [] 1 0 r0.length false) (H ++ [⟨2, 32, 1, r0.map encU, 0⟩])) :
    SoundAt Tryz.prog 130 [] [lCo l, .fn 131 [] [], .agg []] (.sl 0 [] 1 0 l.length false) [⟨1, 0, 1, (l.map encCo).set t ([C.sl 1 [] 1 0 r0.length false]), 0⟩, ⟨2, 32, 1, r0.map encU, 0⟩] := by
  have m1 : (l.map encCo).length = l.length := List.length_map ..
  have hvl := (List.getElem?_eq_some_iff.1 hv).1
  have h1 : SoundAt Tryz.prog 130 [] [lCo l, .fn 131 [] [], .agg []] (.sl 1 [] 1 0 l.length false) [⟨1, 187, 0, [[]], 0⟩, ⟨1, 0, 1, (l.map encCo).set t ([C.sl 2 [] 1 0 r0.length false]), 0⟩, ⟨2, 32, 1, r0.map encU, 0⟩] := by
    refine SoundAt.of_wpA (fn := Tryz.f130) Tryz.func130 rfl ?_
    conv => whnf
    rw [m1]
    refine ⟨rfl, by omega, by show (24 : Int) * _ ≤ _; omega, by omega, ?_⟩
    (conv=>whnf);(try(refine ⟨(rfl:(_:Heap)=_),?_⟩;(conv=>whnf)))
    rw [m1, toNat_cast]
    have ZZ : List C := ([.lst 1 0 []] : List C)
    refine Loops.seq l.length (fun k => [lCo l, .fn 131 [] [], .junk, .junk, .junk, .ref 0 [] 0 0 0, .lst 1 0 [], .sl 1 [] 1 0 l.length false, .junk, .junk, .junk, .junk, .junk, lCo l, I l.length, I k, .junk, .junk, .junk, .junk, .junk, .junk, .junk, .junk, .junk, .junk, .junk, .junk, .junk]) (fun k => if k ≤ t then [⟨1, 187, 0, [[]], 0⟩, ⟨1, 0, 1, ((l.map encCo).set t ([C.sl 2 [] 1 0 r0.length false])).take k ++ (List.replicate l.length ([.lst 1 0 []] : List C)).drop k, 0⟩] else [⟨1, 187, 0, [[]], 0⟩, ⟨1, 0, 1, ((l.map encCo).set t ([C.sl 2 [] 1 0 r0.length false])).take k ++ (List.replicate l.length ([.lst 1 0 []] : List C)).drop k, 0⟩, ⟨2, 32, 1, r0.map encU, 0⟩]) (fun k => True) ?_ trivial (fun k hk hr => ?_) (fun hr => ?_)
    · rw [if_pos (Nat.zero_le _)]
      refine Weak.trans (Weak.keptA 1 rfl fun r hr c hc => ?_) (Weak.cov (by (conv => whnf); (repeat (refine ⟨rfl, ?_⟩; (conv => whnf))); exact trivial))
      rw [List.eq_of_mem_replicate hr] at hc
      exact List.all_eq_true.1 (rfl : ([.lst 1 0 []] : List C).all noOwn = true) c hc
    · obtain ⟨x, hx⟩ : ∃ x, x = l[k] := ⟨_, rfl⟩
      have hx2 : l[k]? = some x := by rw [List.getElem?_eq_getElem hk, hx]
      have hxm : x ∈ l := by rw [hx]; exact List.getElem_mem hk
      have hg : (l.map encCo)[k]? = some (encCo x) := by rw [List.getElem?_map, hx2]; rfl
      have e1 : 0 + (k : Int).toNat = k := by simp
      have low : ∀ n j, j ≤ t ∨ 2 < n → ∀ r ∈ ((l.map encCo).set t ([C.sl 2 [] 1 0 r0.length false])).take j ++ (List.replicate l.length ([.lst 1 0 []] : List C)).drop j, ∀ c ∈ r, lowC n 9 c = true := fun n j h => fill_all (enc := encCo) (fun _ => rfl) rfl l l.length (h.imp_right fun h => by simp [lowC, encS]; omega)
      have own : ∀ j, ∀ r ∈ ((l.map encCo).set t ([C.sl 2 [] 1 0 r0.length false])).take j ++ (List.replicate l.length ([.lst 1 0 []] : List C)).drop j, ∀ c ∈ r, noOwn c = true := fun j => fill_all (enc := encCo) (fun _ => rfl) rfl l l.length (.inr rfl)
      by_cases hkv : k = t
      · subst hkv
        obtain rfl : r0 = x := by rw [hv] at hx2; exact Option.some.inj hx2
        have hF : ((l.map encCo).set k ([C.sl 2 [] 1 0 r0.length false]))[k]? = some ([C.sl 2 [] 1 0 r0.length false]) := by rw [List.getElem?_set, if_pos rfl, if_pos (by simpa using hk)]
        rw [if_pos (Nat.le_refl _), if_neg (by omega)]
        conv => whnf
        (refine ⟨fun _ => ?_, fun h => absurd h (by simp; omega)⟩); (conv=>whnf);(try(refine ⟨(rfl:(_:Heap)=_),?_⟩;(conv=>whnf)))
        (refine ⟨by omega, _, by rw [toNat_cast]; exact hg, ?_⟩); (conv=>whnf);(try(refine ⟨(rfl:(_:Heap)=_),?_⟩;(conv=>whnf)))
        refine ⟨_, _, hA _ (flat_cons rfl (flat_kept (own k))), ?_⟩
        (conv=>whnf);(try(refine ⟨(rfl:(_:Heap)=_),?_⟩;(conv=>whnf)))
        refine ⟨by omega, by simp; omega, ?_⟩
        (conv=>whnf);(try(refine ⟨(rfl:(_:Heap)=_),?_⟩;(conv=>whnf)))
        rw [e1]
        refine ⟨_, fill_get (by simp) hk, rfl, ?_⟩
        (conv=>whnf);(try(refine ⟨(rfl:(_:Heap)=_),?_⟩;(conv=>whnf)))
        refine .inl ⟨rfl, ?_, trivial⟩
        rw [i64_nat (by omega), ← fill_set hF hk]
        exact Weak.cov (by (conv => whnf); (repeat (refine ⟨rfl, ?_⟩; (conv => whnf))); exact trivial)
      · have hF : ((l.map encCo).set t ([C.sl 2 [] 1 0 r0.length false]))[k]? = some (encCo x) := by rw [List.getElem?_set_ne (fun h => hkv h.symm)]; exact hg
        by_cases hlt : k < t
        · rw [if_pos (by omega), if_pos (by omega)]
          conv => whnf
          (refine ⟨fun _ => ?_, fun h => absurd h (by simp; omega)⟩); (conv=>whnf);(try(refine ⟨(rfl:(_:Heap)=_),?_⟩;(conv=>whnf)))
          (refine ⟨by omega, _, by rw [toNat_cast]; exact hg, ?_⟩); (conv=>whnf);(try(refine ⟨(rfl:(_:Heap)=_),?_⟩;(conv=>whnf)))
          refine ⟨_, _, (hp x hxm).frame rfl _, ?_⟩; (conv=>whnf);(try(refine ⟨(rfl:(_:Heap)=_),?_⟩;(conv=>whnf)))
          refine ⟨by omega, by simp; omega, ?_⟩
          (conv=>whnf);(try(refine ⟨(rfl:(_:Heap)=_),?_⟩;(conv=>whnf)))
          rw [e1]
          refine ⟨_, fill_get (by simp) hk, rfl, ?_⟩
          (conv=>whnf);(try(refine ⟨(rfl:(_:Heap)=_),?_⟩;(conv=>whnf)))
          refine .inl ⟨rfl, ?_, trivial⟩
          rw [i64_nat (by omega), ← fill_set hF hk]
          refine Weak.covD 2 (by (conv => whnf); (repeat (refine ⟨rfl, ?_⟩; (conv => whnf))); exact trivial) rfl rfl rfl (low_cons rfl (low_kept ?_)) rfl
          have lw := low 2 (k + 1) (.inl (by omega))
          rw [← fill_set (z := ([.lst 1 0 []] : List C)) (n := l.length) hF hk] at lw
          exact lw
        · rw [if_neg (by omega), if_neg (by omega)]
          conv => whnf
          (refine ⟨fun _ => ?_, fun h => absurd h (by simp; omega)⟩); (conv=>whnf);(try(refine ⟨(rfl:(_:Heap)=_),?_⟩;(conv=>whnf)))
          (refine ⟨by omega, _, by rw [toNat_cast]; exact hg, ?_⟩); (conv=>whnf);(try(refine ⟨(rfl:(_:Heap)=_),?_⟩;(conv=>whnf)))
          refine ⟨_, _, (hp x hxm).frame rfl _, ?_⟩; (conv=>whnf);(try(refine ⟨(rfl:(_:Heap)=_),?_⟩;(conv=>whnf)))
          refine ⟨by omega, by simp; omega, ?_⟩
          (conv=>whnf);(try(refine ⟨(rfl:(_:Heap)=_),?_⟩;(conv=>whnf)))
          rw [e1]
          refine ⟨_, fill_get (by simp) hk, rfl, ?_⟩
          (conv=>whnf);(try(refine ⟨(rfl:(_:Heap)=_),?_⟩;(conv=>whnf)))
          refine .inl ⟨rfl, ?_, trivial⟩
          rw [i64_nat (by omega), ← fill_set hF hk]
          refine Weak.covD 3 (by (conv => whnf); (repeat (refine ⟨rfl, ?_⟩; (conv => whnf))); exact trivial) rfl rfl rfl (low_cons rfl (low_cons (low_kept ?_) rfl)) rfl
          have lw := low 3 (k + 1) (.inr (by omega))
          rw [← fill_set (z := ([.lst 1 0 []] : List C)) (n := l.length) hF hk] at lw
          exact lw
    · rw [if_neg (by omega)]
      (conv => whnf); (refine ⟨fun h => absurd h (by simp), fun _ => ?_⟩); (conv=>whnf);(try(refine ⟨(rfl:(_:Heap)=_),?_⟩;(conv=>whnf))); (refine ⟨by simp, ?_⟩); (conv => whnf)
      rw [fill_done (by simp)]
      exact ⟨.inl rfl, _, .refl _, rfl, rfl⟩
  refine h1.weak (fun B h _ => ?_) (Nat.zero_le _)
  have hw := Weak.ren (B := B) [1, 2] [0] [.sl 1 [] 1 0 l.length false] [⟨1, 187, 0, [[]], 0⟩, ⟨1, 0, 1, (l.map encCo).set t ([C.sl 2 [] 1 0 r0.length false]), 0⟩, ⟨2, 32, 1, r0.map encU, 0⟩] (by rw [show B = 0 from by simpa using h]; rfl) rfl rfl (flat_cons rfl (flat_cons (flat_kept (set_all (enc := encCo) (fun _ => rfl) rfl l t)) rfl))
  have e : renH [1, 2] [⟨1, 187, 0, [[]], 0⟩, ⟨1, 0, 1, (l.map encCo).set t ([C.sl 2 [] 1 0 r0.length false]), 0⟩, ⟨2, 32, 1, r0.map encU, 0⟩] = [⟨1, 0, 1, (l.map encCo).set t ([C.sl 1 [] 1 0 r0.length false]), 0⟩, ⟨2, 32, 1, r0.map encU, 0⟩] := by
    show renOb [1, 2] ⟨1, 0, 1, (l.map encCo).set t ([C.sl 2 [] 1 0 r0.length false]), 0⟩ :: _ = _
    rw [ren_kept (enc := encCo) (fun _ => rfl)]
    rfl
  rw [e] at hw
  exact hw
structure PathC (cs : List (List Int)) (t : Nat) (r0 : List Int) : Prop where
  sm : cs.length < 1000000000 ∧ ∀ r ∈ cs, r.length < 1000000000
  at_ : cs[t]? = some r0
  ne : r0 ≠ []
theorem eaR_any {cs : List (List Int)} {t : Nat} {r0 : List Int} (h : PathC cs t r0) (H : Heap) (hf : flatH H = true) : SoundAt Tryz.prog 130 H [lCo cs, .fn 131 [] [], .agg []] (.sl H.length [] 1 0 cs.length false) (H ++ [⟨1, 0, 1, (cs.map encCo).set t ([C.sl (H.length + 1) [] 1 0 r0.length false]), 0⟩, ⟨2, 32, 1, r0.map encU, 0⟩]) := by
  obtain ⟨x, l, hx⟩ : ∃ x l, r0 = x :: l := by
    cases hh : r0 with
    | nil => exact absurd hh h.ne
    | cons x l => exact ⟨x, l, rfl⟩
  have hlen : l.length < 1000000000 := by
    have := h.sm.2 r0 (List.mem_of_getElem? h.at_)
    rw [hx] at this
    simp at this
    omega
  have := any_of (eaR_path cs t r0 h.at_ h.sm.1 (fun y hy => rowV_sound y (h.sm.2 y hy)) (rowA_any r0 x l hx hlen)) (flat_cons (flat_kept (set_all (enc := encCo) (fun _ => rfl) rfl _ _)) rfl) rfl H hf
  have e9 : [(⟨1, 0, 1, (cs.map encCo).set t ([C.sl 1 [] 1 0 r0.length false]), 0⟩ : Ob), ⟨2, 32, 1, r0.map encU, 0⟩].map (mapOb (backI [] H.length)) = [⟨1, 0, 1, (cs.map encCo).set t ([C.sl (H.length + 1) [] 1 0 r0.length false]), 0⟩, ⟨2, 32, 1, r0.map encU, 0⟩] := by
    show mapOb _ ⟨1, 0, 1, _, 0⟩ :: _ = _
    rw [map_kept (enc := encCo) (fun _ => rfl)]
    rfl
  rw [e9] at this
  exact this
theorem cloneP_sound (w : Wor) (h : SmWor w) (x : Int) (l : List Int) (hx : w.pins = x :: l) : SoundAt Tryz.prog 83 [] [Cw w] (.agg [I w.epoch, I w.current, I w.lock, .sl 0 [] 1 0 w.pins.length false, lV w.versions, lL w.listens, lCo w.counts, lR w.limbo]) [⟨2, 3, 1, w.pins.map encI, 0⟩] := by
  have hl : l.length < 1000000000 := by have := h.pins; rw [hx] at this; simp at this; omega
  have hc := cloI_arr x l hl
  rw [← hx] at hc
  refine of_wpW (fn := Tryz.f83) Tryz.func83 rfl ?_; conv => whnf
  refine callPart [] (hc) rfl rfl rfl rfl rfl rfl ?_; (conv=>whnf);(try(refine ⟨(rfl:(_:Heap)=_),?_⟩;(conv=>whnf)))
  refine callPart [] (eaV_arr w.versions h.versions.1 fun v hv => versionV_sound v (h.versions.2 v hv)) rfl rfl rfl rfl rfl rfl ?_; (conv=>whnf);(try(refine ⟨(rfl:(_:Heap)=_),?_⟩;(conv=>whnf)))
  refine ⟨_, _, (cloL_val w.listens h.listens).frame rfl _, ?_⟩; (conv=>whnf);(try(refine ⟨(rfl:(_:Heap)=_),?_⟩;(conv=>whnf)))
  refine callPart [] (eaC_arr w.counts h.counts.1 fun r hr => rowV_sound r (h.counts.2 r hr)) rfl rfl rfl rfl rfl rfl ?_; (conv=>whnf);(try(refine ⟨(rfl:(_:Heap)=_),?_⟩;(conv=>whnf)))
  refine ⟨_, _, (cloR_val w.limbo h.limbo).frame rfl _, ?_⟩; (conv=>whnf);(try(refine ⟨(rfl:(_:Heap)=_),?_⟩;(conv=>whnf)))
  refine ⟨.inl rfl, _, _, (Weak.freezeC 1 0 4 rfl rfl rfl rfl (.inr rfl) rfl (by simp) (shut_map (enc := encV) (fun _ => rfl) w.versions) (one_noOwn rfl)).trans (Weak.freezeC 1 0 6 rfl rfl rfl rfl (.inr rfl) rfl (by simp) (shut_map (enc := encCo) (fun _ => rfl) w.counts) (one_noOwn rfl)), rfl, ?_⟩
  exact Weak.ren [3] [0] _ _ rfl rfl rfl (flat_cons rfl (flat_cons rfl (flat_cons rfl (flat_cons rfl (flat_cons (flat_kept fun r hr c hc => ((shut_map (enc := encV) (fun _ => rfl) w.versions) r hr c hc).2) (flat_kept fun r hr c hc => ((shut_map (enc := encCo) (fun _ => rfl) w.counts) r hr c hc).2))))))
theorem weak_ren {B : Nat} (sel m : List Nat) {t t2 : List C} {H H2 : Heap} (hB : headB B 0 sel = true) (hall : sel.all (fun id => Nat.blt id H.length) = true) (hnd : nodupB sel = true) (hfl : flatH H = true) (et : (maskL m 0 t).map (renC sel 9) = t2) (e : renH sel H = H2) : Weak B ⟨t, H⟩ ⟨t2, H2⟩ := by
  subst et e
  exact Weak.ren sel m t H hB hall hnd hfl
theorem cloneL_sound (w : Wor) (h : SmWor w) (x : Lis) (l : List Lis) (hx : w.listens = x :: l) : SoundAt Tryz.prog 83 [] [Cw w] (.agg [I w.epoch, I w.current, I w.lock, lI w.pins, lV w.versions, .sl 0 [] 4 0 w.listens.length false, lCo w.counts, lR w.limbo]) [⟨2, 77, 4, w.listens.map encL, 0⟩] := by
  have hl : l.length < 1000000000 := by have := h.listens; rw [hx] at this; simp at this; omega
  have hc := cloL_arr x l hl
  rw [← hx] at hc
  refine of_wpW (fn := Tryz.f83) Tryz.func83 rfl ?_; conv => whnf
  refine ⟨_, _, (cloI_val w.pins h.pins).frame rfl _, ?_⟩; (conv=>whnf);(try(refine ⟨(rfl:(_:Heap)=_),?_⟩;(conv=>whnf)))
  refine callPart [] (eaV_arr w.versions h.versions.1 fun v hv => versionV_sound v (h.versions.2 v hv)) rfl rfl rfl rfl rfl rfl ?_; (conv=>whnf);(try(refine ⟨(rfl:(_:Heap)=_),?_⟩;(conv=>whnf)))
  refine callPart [] (hc) rfl rfl rfl rfl rfl rfl ?_; (conv=>whnf);(try(refine ⟨(rfl:(_:Heap)=_),?_⟩;(conv=>whnf)))
  refine callPart [] (eaC_arr w.counts h.counts.1 fun r hr => rowV_sound r (h.counts.2 r hr)) rfl rfl rfl rfl rfl rfl ?_; (conv=>whnf);(try(refine ⟨(rfl:(_:Heap)=_),?_⟩;(conv=>whnf)))
  refine ⟨_, _, (cloR_val w.limbo h.limbo).frame rfl _, ?_⟩; (conv=>whnf);(try(refine ⟨(rfl:(_:Heap)=_),?_⟩;(conv=>whnf)))
  refine ⟨.inl rfl, _, _, (Weak.freezeC 1 0 4 rfl rfl rfl rfl (.inr rfl) rfl (by simp) (shut_map (enc := encV) (fun _ => rfl) w.versions) (one_noOwn rfl)).trans (Weak.freezeC 1 0 6 rfl rfl rfl rfl (.inr rfl) rfl (by simp) (shut_map (enc := encCo) (fun _ => rfl) w.counts) (one_noOwn rfl)), rfl, ?_⟩
  exact Weak.ren [4] [0] _ _ rfl rfl rfl (flat_cons rfl (flat_cons rfl (flat_cons rfl (flat_cons (flat_kept fun r hr c hc => ((shut_map (enc := encV) (fun _ => rfl) w.versions) r hr c hc).2) (flat_cons rfl (flat_kept fun r hr c hc => ((shut_map (enc := encCo) (fun _ => rfl) w.counts) r hr c hc).2))))))
theorem cloneC_sound (w : Wor) (h : SmWor w) (cs : List (List Int)) (hcs : w.counts = cs) {t : Nat} {r0 : List Int} (hp : PathC cs t r0) : SoundAt Tryz.prog 83 [] [Cw w] (.agg [I w.epoch, I w.current, I w.lock, lI w.pins, lV w.versions, lL w.listens, .sl 0 [] 1 0 cs.length false, lR w.limbo]) [⟨1, 0, 1, (cs.map encCo).set t ([C.sl 1 [] 1 0 r0.length false]), 0⟩, ⟨2, 32, 1, r0.map encU, 0⟩] := by
  subst hcs
  have own : ∀ i, ∀ r ∈ (w.counts.map encCo).set t ([C.sl i [] 1 0 r0.length false]), ∀ c ∈ r, noOwn c = true := fun i => set_all (enc := encCo) (fun _ => rfl) rfl _ _
  refine of_wpW (fn := Tryz.f83) Tryz.func83 rfl ?_; conv => whnf
  refine ⟨_, _, (cloI_val w.pins h.pins).frame rfl _, ?_⟩; (conv=>whnf);(try(refine ⟨(rfl:(_:Heap)=_),?_⟩;(conv=>whnf)))
  refine callPart [] (eaV_arr w.versions h.versions.1 fun v hv => versionV_sound v (h.versions.2 v hv)) rfl rfl rfl rfl rfl rfl ?_; (conv=>whnf);(try(refine ⟨(rfl:(_:Heap)=_),?_⟩;(conv=>whnf)))
  refine ⟨_, _, (cloL_val w.listens h.listens).frame rfl _, ?_⟩; (conv=>whnf);(try(refine ⟨(rfl:(_:Heap)=_),?_⟩;(conv=>whnf)))
  refine ⟨_, _, eaR_any hp _ (flat_cons rfl (flat_cons rfl (flat_cons rfl rfl))), ?_⟩
  (conv=>whnf);(try(refine ⟨(rfl:(_:Heap)=_),?_⟩;(conv=>whnf)))
  refine ⟨_, _, (cloR_val w.limbo h.limbo).frame rfl _, ?_⟩; (conv=>whnf);(try(refine ⟨(rfl:(_:Heap)=_),?_⟩;(conv=>whnf)))
  refine ⟨.inl rfl, _, _, Weak.freezeC 1 0 4 rfl rfl rfl rfl (.inr rfl) rfl (by simp) (shut_map (enc := encV) (fun _ => rfl) w.versions) (one_noOwn rfl), rfl, ?_⟩
  refine weak_ren [4, 5] [0] rfl rfl rfl (flat_cons rfl (flat_cons rfl (flat_cons rfl (flat_cons (flat_kept fun r hr c hc => ((shut_map (enc := encV) (fun _ => rfl) w.versions) r hr c hc).2) (flat_cons (flat_kept (own 5)) rfl))))) rfl ?_
  show renOb [4, 5] ⟨1, 0, 1, (w.counts.map encCo).set t ([C.sl 5 [] 1 0 r0.length false]), 0⟩ :: _ = _
  rw [ren_kept (enc := encCo) (fun _ => rfl)]
  rfl
theorem eaC_any (w : Wor) (h : SmWor w) (H : Heap) (hf : flatH H = true) : SoundAt Tryz.prog 130 H [lCo w.counts, .fn 131 [] [], .agg []] (.sl H.length [] 1 0 w.counts.length false) (H ++ [⟨2, 108, 1, w.counts.map encCo, 0⟩]) :=
  any_of (eaC_arr w.counts h.counts.1 fun r hr => rowV_sound r (h.counts.2 r hr)) rfl rfl H hf
theorem cloneE_sound (w : Wor) (h : SmWor w) (vs : List Ver) (hvs : w.versions = vs) {v : Nat} {v0 : Ver} {g : Nat} {g0 : Gr} {e : Nat} {e0 : En} (hp : PathV vs v v0 g g0 e e0) : SoundAt Tryz.prog 83 [] [Cw w] (.agg [I w.epoch, I w.current, I w.lock, lI w.pins, .sl 0 [] 5 0 vs.length false, lL w.listens, lCo w.counts, lR w.limbo]) [⟨1, 0, 5, (vs.map encV).set v ((encS v0.snap ++ [C.sl 1 [] 2 0 v0.groups.length false, Bo v0.freed])), 0⟩, ⟨1, 0, 2, (v0.groups.map encG).set g ([U g0.ticket, C.sl 2 [] 3 0 g0.ends.length false]), 0⟩, ⟨1, 0, 3, (g0.ends.map encE).set e ([U e0.head, C.sl 3 [] 1 0 e0.next.length false, I e0.active]), 0⟩, ⟨2, 3, 1, e0.next.map encI, 0⟩] := by
  subst hvs
  have own : ∀ i, ∀ r ∈ (w.versions.map encV).set v ((encS v0.snap ++ [C.sl i [] 2 0 v0.groups.length false, Bo v0.freed])), ∀ c ∈ r, noOwn c = true := fun i => set_all (enc := encV) (fun _ => rfl) rfl _ _
  refine of_wpW (fn := Tryz.f83) Tryz.func83 rfl ?_; conv => whnf
  refine ⟨_, _, (cloI_val w.pins h.pins).frame rfl _, ?_⟩; (conv=>whnf);(try(refine ⟨(rfl:(_:Heap)=_),?_⟩;(conv=>whnf)))
  refine ⟨_, _, eaV_any hp _ rfl, ?_⟩
  (conv=>whnf);(try(refine ⟨(rfl:(_:Heap)=_),?_⟩;(conv=>whnf)))
  refine ⟨_, _, (cloL_val w.listens h.listens).frame rfl _, ?_⟩; (conv=>whnf);(try(refine ⟨(rfl:(_:Heap)=_),?_⟩;(conv=>whnf)))
  refine ⟨_, _, eaC_any w h _ (flat_cons rfl (flat_cons rfl (flat_cons rfl (flat_cons (flat_kept (own 4)) (flat_cons (flat_kept (set_all (enc := encG) (fun _ => rfl) rfl _ _)) (flat_cons (flat_kept (set_all (enc := encE) (fun _ => rfl) rfl _ _)) rfl)))))), ?_⟩
  (conv=>whnf);(try(refine ⟨(rfl:(_:Heap)=_),?_⟩;(conv=>whnf)))
  refine ⟨_, _, (cloR_val w.limbo h.limbo).frame rfl _, ?_⟩; (conv=>whnf);(try(refine ⟨(rfl:(_:Heap)=_),?_⟩;(conv=>whnf)))
  refine ⟨.inl rfl, _, _, Weak.freezeC 1 0 6 rfl rfl rfl rfl (.inr rfl) rfl (by simp) (shut_map (enc := encCo) (fun _ => rfl) w.counts) (one_noOwn rfl), rfl, ?_⟩
  refine weak_ren [3, 4, 5, 6] [0] rfl rfl rfl (flat_cons rfl (flat_cons rfl (flat_cons rfl (flat_cons (flat_kept (own 4)) (flat_cons (flat_kept (set_all (enc := encG) (fun _ => rfl) rfl _ _)) (flat_cons (flat_kept (set_all (enc := encE) (fun _ => rfl) rfl _ _)) (flat_cons rfl (flat_kept fun r hr c hc => ((shut_map (enc := encCo) (fun _ => rfl) w.counts) r hr c hc).2)))))))) rfl ?_
  show renOb [3, 4, 5, 6] ⟨1, 0, 5, (w.versions.map encV).set v ((encS v0.snap ++ [C.sl 4 [] 2 0 v0.groups.length false, Bo v0.freed])), 0⟩ :: renOb [3, 4, 5, 6] ⟨1, 0, 2, (v0.groups.map encG).set g ([U g0.ticket, C.sl 5 [] 3 0 g0.ends.length false]), 0⟩ :: renOb [3, 4, 5, 6] ⟨1, 0, 3, (g0.ends.map encE).set e ([U e0.head, C.sl 6 [] 1 0 e0.next.length false, I e0.active]), 0⟩ :: _ = _
  rw [ren_kept (enc := encV) (fun _ => rfl), ren_kept (enc := encG) (fun _ => rfl), ren_kept (enc := encE) (fun _ => rfl)]
  rfl
end Go.Wor
namespace Go.Wor
open Go.Ab Go.Proofs Go.Hy Go.Gat Go.Nam Go.Hos Go.Con Go.Sna
set_option linter.unusedVariables false
set_option linter.unusedSimpArgs false
set_option maxRecDepth 100000
set_option maxHeartbeats 4000000
def inV (i n : Int) : Bool := decide (0 ≤ i) && decide (i < n)
theorem in_sound (i n : Int) : SoundAt Tryz.prog 31 [] [I i, I n] (Bo (inV i n)) [] := by
  refine SoundAt.of_wpA1 (fn := Tryz.f31) Tryz.func31 rfl ?_
  conv => whnf
  refine ⟨fun h1 => ?_, fun h1 => ?_⟩
  · (conv=>whnf);(try(refine ⟨(rfl:(_:Heap)=_),?_⟩;(conv=>whnf)))
    refine ⟨fun h2 => ?_, fun h2 => ?_⟩
    · (conv=>whnf);(try(refine ⟨(rfl:(_:Heap)=_),?_⟩;(conv=>whnf)))
      (exact ⟨.inl rfl, _, .refl _, congrArg (fun b => some (C.v (Value.bool b))) (by unfold inV; simp at h1 h2 ⊢; omega)⟩)
    · (conv=>whnf);(try(refine ⟨(rfl:(_:Heap)=_),?_⟩;(conv=>whnf)))
      (exact ⟨.inl rfl, _, .refl _, congrArg (fun b => some (C.v (Value.bool b))) (by unfold inV; simp at h1 h2 ⊢; omega)⟩)
  · (conv=>whnf);(try(refine ⟨(rfl:(_:Heap)=_),?_⟩;(conv=>whnf)))
    (exact ⟨.inl rfl, _, .refl _, congrArg (fun b => some (C.v (Value.bool b))) (by unfold inV; simp at h1 ⊢; omega)⟩)
theorem idxI_sound {H : Heap} {f : FuncId} {caps : List C} {l : List Int} (p : Int → Bool) (hcb : callable Tryz.prog f = true) (hp : ∀ r ∈ l, SoundAt Tryz.prog f H ([I r] ++ caps) (Bo (p r)) H) (hl : l.length < 4611686018427387904) :
    SoundAt Tryz.prog 25 H [lI l, .fn f [] caps] (I (match l.findIdx? p with | some i => (i : Int) | none => -1)) H := by
  refine SoundAt.of_wpA (fn := Tryz.f25) Tryz.func25 rfl ?_
  conv => whnf
  refine Loops.inv (fun n t1 H1 => ∃ k, k + n = l.length ∧ H1 = H ∧ (∀ j, j < k → ∀ r, l[j]? = some r → p r = false) ∧
     t1 = [lI l, .fn f [] caps, .junk, .junk, I 0, .junk, .junk, I (l.map encI).length, I k, .junk, .junk, .junk, .junk, .junk, .junk, .junk, .junk, .junk, .junk]) l.length ?_ ?_
  · exact ⟨_, _, Weak.mask [0, 1, 4, 7, 8] _ _, 0, by simp, rfl, by simp, rfl⟩
  rintro n _ _ ⟨k, hk, rfl, hno, rfl⟩
  conv => whnf
  refine ⟨fun h => ?_, fun h => ?_⟩
  · conv => whnf
    have hlt : k < l.length := by simpa using h
    refine ⟨by omega, encI l[k], by simp [hlt], ?_⟩
    conv => whnf
    rw [hcb]
    refine ⟨_, _, hp _ (List.getElem_mem hlt), ?_⟩
    conv => whnf
    refine ⟨fun h2 => ?_, fun h2 => ?_⟩
    · conv => whnf
      refine .inr ⟨by simp, ?_⟩
      conv => whnf
      refine ⟨.inl rfl, _, .refl _, rfl, ?_⟩
      have : l.findIdx? p = some k := by
        rw [List.findIdx?_eq_some_iff_getElem]
        refine ⟨hlt, h2, fun j hj => ?_⟩
        simp [hno j hj _ (List.getElem?_eq_getElem (by omega))]
      rw [this]
      rfl
    · conv => whnf
      refine .inl ⟨rfl, n - 1, _, _, by omega, Weak.mask [0, 1, 4, 7, 8] _ _, k + 1, by omega, rfl, ?_, ?_⟩
      · intro j hj r hr
        by_cases hjk : j = k
        · subst hjk
          rw [List.getElem?_eq_getElem hlt] at hr
          cases hr
          exact h2
        · exact hno j (by omega) r hr
      · rw [i64_nat (by omega)]; rfl
  · conv => whnf
    refine .inr ⟨by simp, ?_⟩
    conv => whnf
    refine ⟨.inl rfl, _, .refl _, rfl, ?_⟩
    have : l.findIdx? p = none := by
      rw [List.findIdx?_eq_none_iff]
      intro x hx
      obtain ⟨j, hj⟩ := List.mem_iff_getElem?.1 hx
      have hjl := (List.getElem?_eq_some_iff.1 hj).1
      have : ¬ k < l.length := by simpa using h
      exact hno j (by omega) x hj
    rw [this]
    rfl
theorem conI_sound {H : Heap} {f : FuncId} {caps : List C} {l : List Int} (p : Int → Bool) (hcb : callable Tryz.prog f = true) (hp : ∀ r ∈ l, SoundAt Tryz.prog f H ([I r] ++ caps) (Bo (p r)) H) (hl : l.length < 4611686018427387904) :
    SoundAt Tryz.prog 50 H [lI l, .fn f [] caps] (Bo (l.any p)) H := by
  refine SoundAt.of_wpA (fn := Tryz.f50) Tryz.func50 rfl ?_
  conv => whnf
  refine ⟨_, _, idxI_sound p hcb hp hl, ?_⟩
  (conv=>whnf);(try(refine ⟨(rfl:(_:Heap)=_),?_⟩;(conv=>whnf)))
  rw [show decide ((match l.findIdx? p with | some i => ((i : Nat) : Int) | none => (-1 : Int)) ≥ (0 : Int)) = l.any p from idx_any l p]
  refine ⟨fun h => ?_, fun h => ?_⟩ <;> rw [h]
  · (conv=>whnf);(try(refine ⟨(rfl:(_:Heap)=_),?_⟩;(conv=>whnf)))
    exact ⟨.inl rfl, _, .refl _, rfl, rfl⟩
  · (conv=>whnf);(try(refine ⟨(rfl:(_:Heap)=_),?_⟩;(conv=>whnf)))
    exact ⟨.inl rfl, _, .refl _, rfl, rfl⟩
theorem idxE_sound {H : Heap} {f : FuncId} {caps : List C} {l : List En} (p : En → Bool) (hcb : callable Tryz.prog f = true) (hp : ∀ r ∈ l, SoundAt Tryz.prog f H ([Go.Slp.Ev r] ++ caps) (Bo (p r)) H) (hl : l.length < 4611686018427387904) :
    SoundAt Tryz.prog 74 H [lE l, .fn f [] caps] (I (match l.findIdx? p with | some i => (i : Int) | none => -1)) H := by
  refine SoundAt.of_wpA (fn := Tryz.f74) Tryz.func74 rfl ?_
  conv => whnf
  refine Loops.inv (fun n t1 H1 => ∃ k, k + n = l.length ∧ H1 = H ∧ (∀ j, j < k → ∀ r, l[j]? = some r → p r = false) ∧
     t1 = [lE l, .fn f [] caps, .junk, .junk, I 0, .junk, .junk, I (l.map encE).length, I k, .junk, .junk, .junk, .junk, .junk, .junk, .junk, .junk, .junk, .junk]) l.length ?_ ?_
  · exact ⟨_, _, Weak.mask [0, 1, 4, 7, 8] _ _, 0, by simp, rfl, by simp, rfl⟩
  rintro n _ _ ⟨k, hk, rfl, hno, rfl⟩
  conv => whnf
  refine ⟨fun h => ?_, fun h => ?_⟩
  · conv => whnf
    have hlt : k < l.length := by simpa using h
    refine ⟨by omega, encE l[k], by simp [hlt], ?_⟩
    conv => whnf
    rw [hcb]
    refine ⟨_, _, hp _ (List.getElem_mem hlt), ?_⟩
    conv => whnf
    refine ⟨fun h2 => ?_, fun h2 => ?_⟩
    · conv => whnf
      refine .inr ⟨by simp, ?_⟩
      conv => whnf
      refine ⟨.inl rfl, _, .refl _, rfl, ?_⟩
      have : l.findIdx? p = some k := by
        rw [List.findIdx?_eq_some_iff_getElem]
        refine ⟨hlt, h2, fun j hj => ?_⟩
        simp [hno j hj _ (List.getElem?_eq_getElem (by omega))]
      rw [this]
      rfl
    · conv => whnf
      refine .inl ⟨rfl, n - 1, _, _, by omega, Weak.mask [0, 1, 4, 7, 8] _ _, k + 1, by omega, rfl, ?_, ?_⟩
      · intro j hj r hr
        by_cases hjk : j = k
        · subst hjk
          rw [List.getElem?_eq_getElem hlt] at hr
          cases hr
          exact h2
        · exact hno j (by omega) r hr
      · rw [i64_nat (by omega)]; rfl
  · conv => whnf
    refine .inr ⟨by simp, ?_⟩
    conv => whnf
    refine ⟨.inl rfl, _, .refl _, rfl, ?_⟩
    have : l.findIdx? p = none := by
      rw [List.findIdx?_eq_none_iff]
      intro x hx
      obtain ⟨j, hj⟩ := List.mem_iff_getElem?.1 hx
      have hjl := (List.getElem?_eq_some_iff.1 hj).1
      have : ¬ k < l.length := by simpa using h
      exact hno j (by omega) x hj
    rw [this]
    rfl
theorem conE_sound {H : Heap} {f : FuncId} {caps : List C} {l : List En} (p : En → Bool) (hcb : callable Tryz.prog f = true) (hp : ∀ r ∈ l, SoundAt Tryz.prog f H ([Go.Slp.Ev r] ++ caps) (Bo (p r)) H) (hl : l.length < 4611686018427387904) :
    SoundAt Tryz.prog 55 H [lE l, .fn f [] caps] (Bo (l.any p)) H := by
  refine SoundAt.of_wpA (fn := Tryz.f55) Tryz.func55 rfl ?_
  conv => whnf
  refine ⟨_, _, idxE_sound p hcb hp hl, ?_⟩
  (conv=>whnf);(try(refine ⟨(rfl:(_:Heap)=_),?_⟩;(conv=>whnf)))
  rw [show decide ((match l.findIdx? p with | some i => ((i : Nat) : Int) | none => (-1 : Int)) ≥ (0 : Int)) = l.any p from idx_any l p]
  refine ⟨fun h => ?_, fun h => ?_⟩ <;> rw [h]
  · (conv=>whnf);(try(refine ⟨(rfl:(_:Heap)=_),?_⟩;(conv=>whnf)))
    exact ⟨.inl rfl, _, .refl _, rfl, rfl⟩
  · (conv=>whnf);(try(refine ⟨(rfl:(_:Heap)=_),?_⟩;(conv=>whnf)))
    exact ⟨.inl rfl, _, .refl _, rfl, rfl⟩
def pinBad (ep p : Int) : Bool := decide (p < 0) || decide (p > ep + 1)
theorem ground1_sound (w : Wor) (p : Int) (h0 : 0 ≤ w.epoch) (h1 : w.epoch ≤ 1000000000000) : SoundAt Tryz.prog 51 [⟨1, 48, 8, [encW w], 0⟩] ([I p] ++ [.ref 0 [] 8 0 0]) (Bo (pinBad w.epoch p)) [⟨1, 48, 8, [encW w], 0⟩] := by
  have e : IntKind.i64.wrap (w.epoch + 1) = w.epoch + 1 := i64_ok (by omega) (by omega)
  refine SoundAt.of_wpA (fn := Tryz.f51) Tryz.func51 rfl ?_
  conv => whnf
  refine ⟨fun h2 => ?_, fun h2 => ?_⟩
  · (conv=>whnf);(try(refine ⟨(rfl:(_:Heap)=_),?_⟩;(conv=>whnf)))
    exact ⟨.inl rfl, _, .refl _, rfl, congrArg (fun b => some (C.v (Value.bool b))) (by unfold pinBad; rw [h2]; rfl)⟩
  · (conv=>whnf);(try(refine ⟨(rfl:(_:Heap)=_),?_⟩;(conv=>whnf)))
    rw [e]
    refine ⟨fun h3 => ?_, fun h3 => ?_⟩
    · (conv=>whnf);(try(refine ⟨(rfl:(_:Heap)=_),?_⟩;(conv=>whnf)))
      exact ⟨.inl rfl, _, .refl _, rfl, congrArg (fun b => some (C.v (Value.bool b))) (by unfold pinBad; rw [h2, h3]; rfl)⟩
    · (conv=>whnf);(try(refine ⟨(rfl:(_:Heap)=_),?_⟩;(conv=>whnf)))
      exact ⟨.inl rfl, _, .refl _, rfl, congrArg (fun b => some (C.v (Value.bool b))) (by unfold pinBad; rw [h2, h3]; rfl)⟩
def groundV (w : Wor) : Bool := decide (1 ≤ w.pins.length) && decide (w.pins.length ≤ 8) && decide (w.counts.length = w.pins.length) && shardIs w.counts && decide (0 ≤ w.epoch) && decide (w.epoch ≤ 1000000000000) && (decide (w.lock = 0) || decide (w.lock = 1)) && !w.pins.any (pinBad w.epoch)
theorem ground_sound (w : Wor) (hp : w.pins.length < 4000000000000000000) (hc : w.counts.length < 4000000000000000000) : SoundAt Tryz.prog 37 [] [Cw w] (Bo (groundV w)) [] := by
  have m1 : (w.pins.map encI).length = w.pins.length := List.length_map ..
  have m2 : (w.counts.map encCo).length = w.counts.length := List.length_map ..
  refine SoundAt.of_wpA1 (fn := Tryz.f37) Tryz.func37 rfl ?_
  conv => whnf
  rw [m1]
  refine ⟨fun h1 => ?_, fun h1 => ?_⟩
  · (have e : groundV w = false := by (unfold groundV; (rw [show decide (1 ≤ w.pins.length) = false from by rw [decide_eq_false_iff_not]; have := of_decide_eq_true h1; omega]); simp)); rw [e]; (conv=>whnf);(try(refine ⟨(rfl:(_:Heap)=_),?_⟩;(conv=>whnf))); (repeat (first | (refine ⟨fun _ => ?_, fun h => absurd h (by decide)⟩; (conv=>whnf);(try(refine ⟨(rfl:(_:Heap)=_),?_⟩;(conv=>whnf)))) | (refine ⟨fun h => absurd h (by decide), fun _ => ?_⟩; (conv=>whnf);(try(refine ⟨(rfl:(_:Heap)=_),?_⟩;(conv=>whnf)))))); exact ⟨.inl rfl, _, .refl _, rfl⟩
  (conv=>whnf);(try(refine ⟨(rfl:(_:Heap)=_),?_⟩;(conv=>whnf)))
  refine ⟨fun h2 => ?_, fun h2 => ?_⟩
  · (have e : groundV w = false := by (unfold groundV; (rw [show decide (w.pins.length ≤ 8) = false from by simp at h2 ⊢; omega]); simp)); rw [e]; (conv=>whnf);(try(refine ⟨(rfl:(_:Heap)=_),?_⟩;(conv=>whnf))); (repeat (first | (refine ⟨fun _ => ?_, fun h => absurd h (by decide)⟩; (conv=>whnf);(try(refine ⟨(rfl:(_:Heap)=_),?_⟩;(conv=>whnf)))) | (refine ⟨fun h => absurd h (by decide), fun _ => ?_⟩; (conv=>whnf);(try(refine ⟨(rfl:(_:Heap)=_),?_⟩;(conv=>whnf)))))); exact ⟨.inl rfl, _, .refl _, rfl⟩
  (conv=>whnf);(try(refine ⟨(rfl:(_:Heap)=_),?_⟩;(conv=>whnf)))
  rw [m2]
  refine ⟨fun h3 => ?_, fun h3 => ?_⟩
  · (have e : groundV w = false := by (unfold groundV; (rw [show decide (w.counts.length = w.pins.length) = false from by rw [decide_eq_false_iff_not]; intro hh; simp [hh] at h3]); simp)); rw [e]; (conv=>whnf);(try(refine ⟨(rfl:(_:Heap)=_),?_⟩;(conv=>whnf))); (repeat (first | (refine ⟨fun _ => ?_, fun h => absurd h (by decide)⟩; (conv=>whnf);(try(refine ⟨(rfl:(_:Heap)=_),?_⟩;(conv=>whnf)))) | (refine ⟨fun h => absurd h (by decide), fun _ => ?_⟩; (conv=>whnf);(try(refine ⟨(rfl:(_:Heap)=_),?_⟩;(conv=>whnf)))))); exact ⟨.inl rfl, _, .refl _, rfl⟩
  (conv=>whnf);(try(refine ⟨(rfl:(_:Heap)=_),?_⟩;(conv=>whnf)))
  refine ⟨_, _, (shardIs_sound w.counts hc).frame rfl _, ?_⟩; (conv=>whnf);(try(refine ⟨(rfl:(_:Heap)=_),?_⟩;(conv=>whnf)))
  refine ⟨fun h4 => ?_, fun h4 => ?_⟩
  rotate_left
  · (have e : groundV w = false := by (unfold groundV; (rw [h4]); simp)); rw [e]; (conv=>whnf);(try(refine ⟨(rfl:(_:Heap)=_),?_⟩;(conv=>whnf))); (repeat (first | (refine ⟨fun _ => ?_, fun h => absurd h (by decide)⟩; (conv=>whnf);(try(refine ⟨(rfl:(_:Heap)=_),?_⟩;(conv=>whnf)))) | (refine ⟨fun h => absurd h (by decide), fun _ => ?_⟩; (conv=>whnf);(try(refine ⟨(rfl:(_:Heap)=_),?_⟩;(conv=>whnf)))))); exact ⟨.inl rfl, _, .refl _, rfl⟩
  (conv=>whnf);(try(refine ⟨(rfl:(_:Heap)=_),?_⟩;(conv=>whnf)))
  refine ⟨fun h5 => ?_, fun h5 => ?_⟩
  · (have e : groundV w = false := by (unfold groundV; (rw [show decide (0 ≤ w.epoch) = false from by simp at h5 ⊢; omega]); simp)); rw [e]; (conv=>whnf);(try(refine ⟨(rfl:(_:Heap)=_),?_⟩;(conv=>whnf))); (repeat (first | (refine ⟨fun _ => ?_, fun h => absurd h (by decide)⟩; (conv=>whnf);(try(refine ⟨(rfl:(_:Heap)=_),?_⟩;(conv=>whnf)))) | (refine ⟨fun h => absurd h (by decide), fun _ => ?_⟩; (conv=>whnf);(try(refine ⟨(rfl:(_:Heap)=_),?_⟩;(conv=>whnf)))))); exact ⟨.inl rfl, _, .refl _, rfl⟩
  (conv=>whnf);(try(refine ⟨(rfl:(_:Heap)=_),?_⟩;(conv=>whnf)))
  refine ⟨fun h6 => ?_, fun h6 => ?_⟩
  · (have e : groundV w = false := by (unfold groundV; (rw [show decide (w.epoch ≤ 1000000000000) = false from by simp at h6 ⊢; omega]); simp)); rw [e]; (conv=>whnf);(try(refine ⟨(rfl:(_:Heap)=_),?_⟩;(conv=>whnf))); (repeat (first | (refine ⟨fun _ => ?_, fun h => absurd h (by decide)⟩; (conv=>whnf);(try(refine ⟨(rfl:(_:Heap)=_),?_⟩;(conv=>whnf)))) | (refine ⟨fun h => absurd h (by decide), fun _ => ?_⟩; (conv=>whnf);(try(refine ⟨(rfl:(_:Heap)=_),?_⟩;(conv=>whnf)))))); exact ⟨.inl rfl, _, .refl _, rfl⟩
  (conv=>whnf);(try(refine ⟨(rfl:(_:Heap)=_),?_⟩;(conv=>whnf)))
  have b0 : 0 ≤ w.epoch := by simp at h5; omega
  have b1 : w.epoch ≤ 1000000000000 := by simp at h6; omega
  have hcon := conI_sound (H := [⟨1, 48, 8, [encW w], 0⟩]) (f := 51) (l := w.pins) (caps := [.ref 0 [] 8 0 0]) (pinBad w.epoch) (by kernel_rfl) (fun r _ => ground1_sound w r b0 b1) (by omega)
  have g0 : groundV w = ((decide (w.lock = 0) || decide (w.lock = 1)) && !w.pins.any (pinBad w.epoch)) := by
    have h3' : w.counts.length = w.pins.length := by simp at h3; omega
    unfold groundV
    rw [show decide (1 ≤ w.pins.length) = true from by rw [decide_eq_true_iff]; have := of_decide_eq_false h1; omega, show decide (w.pins.length ≤ 8) = true from by simp at h2 ⊢; omega, show decide (w.counts.length = w.pins.length) = true from by simpa using h3', h4, show decide (0 ≤ w.epoch) = true from by simpa using b0, show decide (w.epoch ≤ 1000000000000) = true from by simpa using b1]
    rfl
  have fin : ∀ hl : (decide (w.lock = 0) || decide (w.lock = 1)) = true, groundV w = !w.pins.any (pinBad w.epoch) := fun hl => by rw [g0, hl]; rfl
  refine ⟨fun h7 => ?_, fun h7 => ?_⟩
  · (conv=>whnf);(try(refine ⟨(rfl:(_:Heap)=_),?_⟩;(conv=>whnf)))
    refine ⟨fun h8 => ?_, fun h8 => ?_⟩
    · have e : groundV w = false := by rw [g0, show (decide (w.lock = 0) || decide (w.lock = 1)) = false from by simp at h7 h8 ⊢; omega]; rfl
      rw [e]
      (conv=>whnf);(try(refine ⟨(rfl:(_:Heap)=_),?_⟩;(conv=>whnf)))
      (repeat (first | (refine ⟨fun _ => ?_, fun h => absurd h (by decide)⟩; (conv=>whnf);(try(refine ⟨(rfl:(_:Heap)=_),?_⟩;(conv=>whnf)))) | (refine ⟨fun h => absurd h (by decide), fun _ => ?_⟩; (conv=>whnf);(try(refine ⟨(rfl:(_:Heap)=_),?_⟩;(conv=>whnf))))))
      exact ⟨.inl rfl, _, .refl _, rfl⟩
    rw [fin (by simp at h8 ⊢; omega)]
    (conv=>whnf);(try(refine ⟨(rfl:(_:Heap)=_),?_⟩;(conv=>whnf)))
    (repeat (first | (refine ⟨fun _ => ?_, fun h => absurd h (by decide)⟩; (conv=>whnf);(try(refine ⟨(rfl:(_:Heap)=_),?_⟩;(conv=>whnf)))) | (refine ⟨fun h => absurd h (by decide), fun _ => ?_⟩; (conv=>whnf);(try(refine ⟨(rfl:(_:Heap)=_),?_⟩;(conv=>whnf))))))
    refine callPart [0] (hcon) rfl rfl rfl rfl rfl rfl ?_; (conv=>whnf);(try(refine ⟨(rfl:(_:Heap)=_),?_⟩;(conv=>whnf)))
    refine ⟨fun h9 => ?_, fun h9 => ?_⟩
    · (conv=>whnf);(try(refine ⟨(rfl:(_:Heap)=_),?_⟩;(conv=>whnf)))
      (exact ⟨.inl rfl, _, .refl _, congrArg (fun b => some (C.v (Value.bool b))) (by rw [h9]; rfl)⟩)
    · (conv=>whnf);(try(refine ⟨(rfl:(_:Heap)=_),?_⟩;(conv=>whnf)))
      (exact ⟨.inl rfl, _, .refl _, congrArg (fun b => some (C.v (Value.bool b))) (by rw [h9]; rfl)⟩)
  · rw [fin (by simp at h7 ⊢; omega)]
    (conv=>whnf);(try(refine ⟨(rfl:(_:Heap)=_),?_⟩;(conv=>whnf)))
    (repeat (first | (refine ⟨fun _ => ?_, fun h => absurd h (by decide)⟩; (conv=>whnf);(try(refine ⟨(rfl:(_:Heap)=_),?_⟩;(conv=>whnf)))) | (refine ⟨fun h => absurd h (by decide), fun _ => ?_⟩; (conv=>whnf);(try(refine ⟨(rfl:(_:Heap)=_),?_⟩;(conv=>whnf))))))
    refine callPart [0] (hcon) rfl rfl rfl rfl rfl rfl ?_; (conv=>whnf);(try(refine ⟨(rfl:(_:Heap)=_),?_⟩;(conv=>whnf)))
    refine ⟨fun h9 => ?_, fun h9 => ?_⟩
    · (conv=>whnf);(try(refine ⟨(rfl:(_:Heap)=_),?_⟩;(conv=>whnf)))
      (exact ⟨.inl rfl, _, .refl _, congrArg (fun b => some (C.v (Value.bool b))) (by rw [h9]; rfl)⟩)
    · (conv=>whnf);(try(refine ⟨(rfl:(_:Heap)=_),?_⟩;(conv=>whnf)))
      (exact ⟨.inl rfl, _, .refl _, congrArg (fun b => some (C.v (Value.bool b))) (by rw [h9]; rfl)⟩)
def endBad (x : Clu) (e : En) : Bool := !Go.Slp.isV e || (e.next.length : Int) != x.slots
theorem version1_sound (x : Clu) (e : En) (he : e.ok) : SoundAt Tryz.prog 54 [⟨1, 82, 4, [encC x], 0⟩] ([Go.Slp.Ev e] ++ [.ref 0 [] 4 0 0]) (Bo (endBad x e)) [⟨1, 82, 4, [encC x], 0⟩] := by
  have m1 : (e.next.map encI).length = e.next.length := List.length_map ..
  refine SoundAt.of_wpA (fn := Tryz.f54) Tryz.func54 rfl ?_
  conv => whnf
  refine ⟨_, _, (Go.Slp.is_sound e he).frame rfl _, ?_⟩; (conv=>whnf);(try(refine ⟨(rfl:(_:Heap)=_),?_⟩;(conv=>whnf)))
  refine ⟨fun h1 => ?_, fun h1 => ?_⟩
  rotate_left
  · (conv=>whnf);(try(refine ⟨(rfl:(_:Heap)=_),?_⟩;(conv=>whnf)))
    exact ⟨.inl rfl, _, Weak.keep [3] 1 _ _ rfl rfl rfl rfl, rfl, congrArg (fun b => some (C.v (Value.bool b))) (by unfold endBad; rw [h1]; rfl)⟩
  · (conv=>whnf);(try(refine ⟨(rfl:(_:Heap)=_),?_⟩;(conv=>whnf)))
    rw [m1]
    refine ⟨fun h2 => ?_, fun h2 => ?_⟩
    · (conv=>whnf);(try(refine ⟨(rfl:(_:Heap)=_),?_⟩;(conv=>whnf)))
      exact ⟨.inl rfl, _, Weak.keep [3] 1 _ _ rfl rfl rfl rfl, rfl, congrArg (fun b => some (C.v (Value.bool b))) (by unfold endBad; rw [h1, h2]; rfl)⟩
    · (conv=>whnf);(try(refine ⟨(rfl:(_:Heap)=_),?_⟩;(conv=>whnf)))
      exact ⟨.inl rfl, _, Weak.keep [3] 1 _ _ rfl rfl rfl rfl, rfl, congrArg (fun b => some (C.v (Value.bool b))) (by unfold endBad; rw [h1, h2]; rfl)⟩
structure OkV (v : Ver) : Prop where
  snap : SmallN v.snap
  groups : v.groups.length < 1000000000000
  ends : ∀ g ∈ v.groups, g.ends.length < 1000000000000 ∧ ∀ e ∈ g.ends, e.ok
def grpOk (v : Ver) (i : Nat) : Bool := match v.groups[i]?, v.snap.clusters[i]? with
  | some g, some x => decide (g.ends.length = x.health.length) && !g.ends.any (endBad x)
  | _, _ => true
def verV (v : Ver) : Bool := snapV v.snap && decide (v.groups.length = v.snap.clusters.length) && (List.range v.groups.length).all (grpOk v)
theorem version_sound (v : Ver) (hv : OkV v) : SoundAt Tryz.prog 39 [] [Cv v] (Bo (verV v)) [] := by
  have m1 : (v.groups.map encG).length = v.groups.length := List.length_map ..
  have m2 : (v.snap.clusters.map encC).length = v.snap.clusters.length := List.length_map ..
  have hgl := hv.groups
  refine SoundAt.of_wpA1 (fn := Tryz.f39) Tryz.func39 rfl ?_
  conv => whnf
  refine ⟨_, _, (snapIs_sound v.snap hv.snap).frame rfl _, ?_⟩; (conv=>whnf);(try(refine ⟨(rfl:(_:Heap)=_),?_⟩;(conv=>whnf)))
  refine ⟨fun h1 => ?_, fun h1 => ?_⟩
  rotate_left
  · have e : verV v = false := by unfold verV; rw [h1]; rfl
    rw [e]
    (conv=>whnf);(try(refine ⟨(rfl:(_:Heap)=_),?_⟩;(conv=>whnf)))
    (repeat (first | (refine ⟨fun _ => ?_, fun h => absurd h (by decide)⟩; (conv=>whnf);(try(refine ⟨(rfl:(_:Heap)=_),?_⟩;(conv=>whnf)))) | (refine ⟨fun h => absurd h (by decide), fun _ => ?_⟩; (conv=>whnf);(try(refine ⟨(rfl:(_:Heap)=_),?_⟩;(conv=>whnf))))))
    exact ⟨.inl rfl, _, .refl _, rfl⟩
  (conv=>whnf);(try(refine ⟨(rfl:(_:Heap)=_),?_⟩;(conv=>whnf)))
  rw [m1, m2]
  refine ⟨fun h2 => ?_, fun h2 => ?_⟩
  · have e : verV v = false := by unfold verV; rw [show decide (v.groups.length = v.snap.clusters.length) = false from by rw [decide_eq_false_iff_not]; intro hh; simp [hh] at h2, Bool.and_false]; rfl
    rw [e]
    (conv=>whnf);(try(refine ⟨(rfl:(_:Heap)=_),?_⟩;(conv=>whnf)))
    (repeat (first | (refine ⟨fun _ => ?_, fun h => absurd h (by decide)⟩; (conv=>whnf);(try(refine ⟨(rfl:(_:Heap)=_),?_⟩;(conv=>whnf)))) | (refine ⟨fun h => absurd h (by decide), fun _ => ?_⟩; (conv=>whnf);(try(refine ⟨(rfl:(_:Heap)=_),?_⟩;(conv=>whnf))))))
    exact ⟨.inl rfl, _, .refl _, rfl⟩
  have h2' : v.groups.length = v.snap.clusters.length := by simp at h2; omega
  (conv=>whnf);(try(refine ⟨(rfl:(_:Heap)=_),?_⟩;(conv=>whnf)))
  (repeat (first | (refine ⟨fun _ => ?_, fun h => absurd h (by decide)⟩; (conv=>whnf);(try(refine ⟨(rfl:(_:Heap)=_),?_⟩;(conv=>whnf)))) | (refine ⟨fun h => absurd h (by decide), fun _ => ?_⟩; (conv=>whnf);(try(refine ⟨(rfl:(_:Heap)=_),?_⟩;(conv=>whnf))))))
  rw [m1]
  refine Loops.seq v.groups.length (fun k => [.junk, .ref 0 [] 5 0 0, Bo false, .junk, .junk, .junk, .junk, .junk, .junk, .junk, .junk, .junk, .junk, .junk, .junk, .junk, .junk, .junk, .junk, .junk, .junk, .junk, lG v.groups, I v.groups.length, I k, .junk, .junk, .junk, .junk, .junk, .junk, .junk, .junk, .junk, .junk, .junk, .junk, .junk, .junk, .junk, .junk, .junk, .junk, .junk, .junk, .junk, .junk, .junk, .junk, .junk]) (fun k => [⟨1, 71, 5, [encV v], 0⟩]) (fun k => ∀ j, j < k → grpOk v j = true) ?_ (by simp) (fun k hk hr => ?_) (fun hr => ?_)
  · exact Weak.cov (by (conv => whnf); (repeat (refine ⟨rfl, ?_⟩; (conv => whnf))); exact trivial)
  · obtain ⟨g, hg⟩ : ∃ g, g = v.groups[k] := ⟨_, rfl⟩
    obtain ⟨x, hx⟩ : ∃ x, x = v.snap.clusters[k]'(by omega) := ⟨_, rfl⟩
    have gg : (v.groups.map encG)[k]? = some (encG g) := by rw [List.getElem?_map, List.getElem?_eq_getElem hk, hg]; rfl
    have gx : (v.snap.clusters.map encC)[k]? = some (encC x) := by rw [List.getElem?_map, List.getElem?_eq_getElem (by omega), hx]; rfl
    have hgm : g ∈ v.groups := by rw [hg]; exact List.getElem_mem hk
    have me : (g.ends.map encE).length = g.ends.length := List.length_map ..
    have mh : (x.health.map encB).length = x.health.length := List.length_map ..
    have hd : grpOk v k = (decide (g.ends.length = x.health.length) && !g.ends.any (endBad x)) := by
      unfold grpOk
      rw [List.getElem?_eq_getElem hk, List.getElem?_eq_getElem (by omega), ← hg, ← hx]
    have bad : grpOk v k = false → verV v = false := fun h => by
      have : (List.range v.groups.length).all (grpOk v) = false := by rw [List.all_eq_false]; exact ⟨k, by simpa using hk, by simp [h]⟩
      unfold verV
      rw [this, Bool.and_false]
    have hcon := conE_sound (H := [⟨1, 82, 4, [encC x], 0⟩]) (f := 54) (l := g.ends) (caps := [.ref 0 [] 4 0 0]) (endBad x) (by kernel_rfl) (fun r hr => version1_sound x r ((hv.ends g hgm).2 r hr)) (by have := (hv.ends g hgm).1; omega)
    conv => whnf
    (refine ⟨fun _ => ?_, fun h => absurd h (by simp; omega)⟩); (conv=>whnf);(try(refine ⟨(rfl:(_:Heap)=_),?_⟩;(conv=>whnf)))
    (refine ⟨by omega, _, by rw [toNat_cast]; exact gg, ?_⟩); (conv=>whnf);(try(refine ⟨(rfl:(_:Heap)=_),?_⟩;(conv=>whnf)))
    (refine ⟨by omega, _, by rw [toNat_cast]; exact gx, ?_⟩); (conv=>whnf);(try(refine ⟨(rfl:(_:Heap)=_),?_⟩;(conv=>whnf)))
    rw [me, mh]
    refine ⟨fun h3 => ?_, fun h3 => ?_⟩
    · rw [bad (by rw [hd, show decide (g.ends.length = x.health.length) = false from by rw [decide_eq_false_iff_not]; intro hh; simp [hh] at h3]; rfl)]
      (conv=>whnf);(try(refine ⟨(rfl:(_:Heap)=_),?_⟩;(conv=>whnf)))
      (repeat (first | (refine ⟨fun _ => ?_, fun h => absurd h (by decide)⟩; (conv=>whnf);(try(refine ⟨(rfl:(_:Heap)=_),?_⟩;(conv=>whnf)))) | (refine ⟨fun h => absurd h (by decide), fun _ => ?_⟩; (conv=>whnf);(try(refine ⟨(rfl:(_:Heap)=_),?_⟩;(conv=>whnf))))))
      (refine .inr ⟨by simp, ?_⟩); (conv => whnf)
      exact ⟨.inl rfl, _, .refl _, rfl⟩
    (conv=>whnf);(try(refine ⟨(rfl:(_:Heap)=_),?_⟩;(conv=>whnf)))
    refine callPart [2] (hcon) rfl rfl rfl rfl rfl rfl ?_; (conv=>whnf);(try(refine ⟨(rfl:(_:Heap)=_),?_⟩;(conv=>whnf)))
    refine ⟨fun h4 => ?_, fun h4 => ?_⟩
    · rw [bad (by rw [hd, h4, Bool.not_true, Bool.and_false])]
      (conv=>whnf);(try(refine ⟨(rfl:(_:Heap)=_),?_⟩;(conv=>whnf)))
      (repeat (first | (refine ⟨fun _ => ?_, fun h => absurd h (by decide)⟩; (conv=>whnf);(try(refine ⟨(rfl:(_:Heap)=_),?_⟩;(conv=>whnf)))) | (refine ⟨fun h => absurd h (by decide), fun _ => ?_⟩; (conv=>whnf);(try(refine ⟨(rfl:(_:Heap)=_),?_⟩;(conv=>whnf))))))
      (refine .inr ⟨by simp, ?_⟩); (conv => whnf)
      exact ⟨.inl rfl, _, .refl _, rfl⟩
    (conv=>whnf);(try(refine ⟨(rfl:(_:Heap)=_),?_⟩;(conv=>whnf)))
    (repeat (first | (refine ⟨fun _ => ?_, fun h => absurd h (by decide)⟩; (conv=>whnf);(try(refine ⟨(rfl:(_:Heap)=_),?_⟩;(conv=>whnf)))) | (refine ⟨fun h => absurd h (by decide), fun _ => ?_⟩; (conv=>whnf);(try(refine ⟨(rfl:(_:Heap)=_),?_⟩;(conv=>whnf))))))
    refine .inl ⟨rfl, ?_, fun j hj => ?_⟩
    · rw [i64_nat (by omega)]
      exact Weak.covD 1 (by (conv => whnf); (repeat (refine ⟨rfl, ?_⟩; (conv => whnf))); exact trivial) rfl rfl rfl rfl rfl
    · by_cases e : j = k
      · subst e
        rw [hd, h4]
        simp at h3 ⊢
        omega
      · exact hr j (by omega)
  · have e : verV v = true := by
      unfold verV
      rw [h1, show decide (v.groups.length = v.snap.clusters.length) = true from by simpa using h2', Bool.true_and, Bool.true_and, List.all_eq_true]
      exact fun i hi => hr i (by simpa using hi)
    rw [e]
    (conv => whnf); (refine ⟨fun h => absurd h (by simp), fun _ => ?_⟩); (conv=>whnf);(try(refine ⟨(rfl:(_:Heap)=_),?_⟩;(conv=>whnf))); (refine ⟨by simp, ?_⟩); (conv => whnf)
    exact ⟨.inl rfl, _, .refl _, rfl⟩
end Go.Wor
namespace Go.Wor
open Go.Ab Go.Proofs Go.Hy Go.Gat Go.Nam Go.Hos Go.Con Go.Sna
set_option linter.unusedVariables false
set_option linter.unusedSimpArgs false
set_option maxRecDepth 100000
set_option maxHeartbeats 4000000
def goneL (l : List Ret) : List (Int × Value) := l.foldl (fun m r => putV m r.version (Value.bool r.gone)) []
def goneV (l : List Ret) (i : Int) : Bool := match ((findV (goneL l) i).bind fun j => ((goneL l)[j]?).map (·.2) : Option Value) with
  | some (.bool b) => b
  | _ => false
theorem put_bools {m : List (Int × Value)} (h : ∀ kv ∈ m, ∃ b, kv.2 = Value.bool b) (k : Int) (b : Bool) : ∀ kv ∈ putV m k (Value.bool b), ∃ b, kv.2 = Value.bool b := fun kv hm => by
  unfold putV at hm
  split at hm
  · rcases List.mem_or_eq_of_mem_set hm with hm | rfl
    · exact h kv hm
    · exact ⟨b, rfl⟩
  · rcases List.mem_append.1 hm with hm | hm
    · exact h kv hm
    · rw [List.mem_singleton.1 hm]; exact ⟨b, rfl⟩
theorem gone_bools (l : List Ret) : ∀ kv ∈ goneL l, ∃ b, kv.2 = Value.bool b := by
  unfold goneL
  suffices key : ∀ (l : List Ret) (m : List (Int × Value)), (∀ kv ∈ m, ∃ b, kv.2 = Value.bool b) → ∀ kv ∈ l.foldl (fun m r => putV m r.version (Value.bool r.gone)) m, ∃ b, kv.2 = Value.bool b from key l [] (by simp)
  intro l
  induction l with
  | nil => intro m h; exact h
  | cons r l ih => intro m h; exact ih _ (put_bools h _ _)
theorem gone_get (l : List Ret) (i : Int) : (((findV (goneL l) i).bind fun j => ((goneL l)[j]?).map (·.2)).getD (Value.bool false)) = Value.bool (goneV l i) := by
  unfold goneV
  cases h : (findV (goneL l) i).bind fun j => ((goneL l)[j]?).map (·.2) with
  | none => rfl
  | some v =>
    obtain ⟨j, _, hj⟩ := Option.bind_eq_some_iff.1 h
    obtain ⟨kv, h1, rfl⟩ := Option.map_eq_some_iff.1 hj
    obtain ⟨b, hb⟩ := gone_bools l kv (List.mem_of_getElem? h1)
    simp only [Option.getD_some]
    rw [hb]
theorem gone_step (l : List Ret) {k : Nat} {r : Ret} (h : l[k]? = some r) : goneL (l.take (k + 1)) = putV (goneL (l.take k)) r.version (Value.bool r.gone) := by
  obtain ⟨hk, rfl⟩ := List.getElem?_eq_some_iff.1 h
  unfold goneL
  rw [List.take_succ_eq_append_getElem hk, List.foldl_append]
  rfl
structure OkW (w : Wor) : Prop where
  pins : w.pins.length < 1000000000000
  versions : w.versions.length < 1000000000000 ∧ ∀ v ∈ w.versions, OkV v
  listens : w.listens.length < 1000000000000 ∧ ∀ l ∈ w.listens, l.ok
  counts : w.counts.length < 1000000000000 ∧ ∀ r ∈ w.counts, r.length < 1000000000000
  limbo : w.limbo.length < 1000000000000
def limBad (w : Wor) (r : Ret) : Bool := decide (r.version ≥ (w.versions.length : Int)) || r.version == w.current || decide (r.at_ > w.epoch)
def verAt (w : Wor) (i : Nat) : Bool := match w.versions[i]? with
  | some v => verV v && (v.freed == goneV w.limbo i)
  | none => true
def lisAt (w : Wor) (i : Nat) : Bool := match w.listens[i]? with
  | some l => Go.Gat.isV l && decide (placeV w.listens l.name = i)
  | none => true
def worldV (w : Wor) : Bool := groundV w && (decide (0 ≤ w.current) && decide (w.current < w.versions.length)) && Go.Lim.isV w.limbo && !w.limbo.any (limBad w) && (List.range w.versions.length).all (verAt w) && (List.range w.listens.length).all (lisAt w)
theorem worldIs_sound (w : Wor) (hw : OkW w) : SoundAt Tryz.prog 19 [] [Cw w] (Bo (worldV w)) [] := by
  have m1 : (w.versions.map encV).length = w.versions.length := List.length_map ..
  have m2 : (w.limbo.map encR).length = w.limbo.length := List.length_map ..
  have m3 : (w.listens.map encL).length = w.listens.length := List.length_map ..
  have b1 := hw.pins
  have b2 := hw.versions.1
  have b3 := hw.listens.1
  have b4 := hw.counts.1
  have b5 := hw.limbo
  refine SoundAt.of_wpA1 (fn := Tryz.f19) Tryz.func19 rfl ?_
  conv => whnf
  refine ⟨_, _, (ground_sound w (by omega) (by omega)).frame rfl _, ?_⟩; (conv=>whnf);(try(refine ⟨(rfl:(_:Heap)=_),?_⟩;(conv=>whnf)))
  refine ⟨fun h1 => ?_, fun h1 => ?_⟩
  rotate_left
  · (have e : worldV w = false := by (unfold worldV; (rw [h1]); simp)); rw [e]; (conv=>whnf);(try(refine ⟨(rfl:(_:Heap)=_),?_⟩;(conv=>whnf))); (repeat (first | (refine ⟨fun _ => ?_, fun h => absurd h (by decide)⟩; (conv=>whnf);(try(refine ⟨(rfl:(_:Heap)=_),?_⟩;(conv=>whnf)))) | (refine ⟨fun h => absurd h (by decide), fun _ => ?_⟩; (conv=>whnf);(try(refine ⟨(rfl:(_:Heap)=_),?_⟩;(conv=>whnf)))))); exact ⟨.inl rfl, _, .refl _, rfl⟩
  (conv=>whnf);(try(refine ⟨(rfl:(_:Heap)=_),?_⟩;(conv=>whnf)))
  refine ⟨fun h2 => ?_, fun h2 => ?_⟩
  · (have e : worldV w = false := by (unfold worldV; (rw [show decide (0 ≤ w.current) = false from by simp at h2 ⊢; omega]); simp)); rw [e]; (conv=>whnf);(try(refine ⟨(rfl:(_:Heap)=_),?_⟩;(conv=>whnf))); (repeat (first | (refine ⟨fun _ => ?_, fun h => absurd h (by decide)⟩; (conv=>whnf);(try(refine ⟨(rfl:(_:Heap)=_),?_⟩;(conv=>whnf)))) | (refine ⟨fun h => absurd h (by decide), fun _ => ?_⟩; (conv=>whnf);(try(refine ⟨(rfl:(_:Heap)=_),?_⟩;(conv=>whnf)))))); exact ⟨.inl rfl, _, .refl _, rfl⟩
  (conv=>whnf);(try(refine ⟨(rfl:(_:Heap)=_),?_⟩;(conv=>whnf)))
  rw [m1]
  refine ⟨fun h3 => ?_, fun h3 => ?_⟩
  · (have e : worldV w = false := by (unfold worldV; (rw [show decide (w.current < w.versions.length) = false from by simp at h3 ⊢; omega]); simp)); rw [e]; (conv=>whnf);(try(refine ⟨(rfl:(_:Heap)=_),?_⟩;(conv=>whnf))); (repeat (first | (refine ⟨fun _ => ?_, fun h => absurd h (by decide)⟩; (conv=>whnf);(try(refine ⟨(rfl:(_:Heap)=_),?_⟩;(conv=>whnf)))) | (refine ⟨fun h => absurd h (by decide), fun _ => ?_⟩; (conv=>whnf);(try(refine ⟨(rfl:(_:Heap)=_),?_⟩;(conv=>whnf)))))); exact ⟨.inl rfl, _, .refl _, rfl⟩
  (conv=>whnf);(try(refine ⟨(rfl:(_:Heap)=_),?_⟩;(conv=>whnf)))
  refine ⟨_, _, (Go.Lim.is_sound (l := w.limbo) (by omega)).frame rfl _, ?_⟩; (conv=>whnf);(try(refine ⟨(rfl:(_:Heap)=_),?_⟩;(conv=>whnf)))
  refine ⟨fun h4 => ?_, fun h4 => ?_⟩
  rotate_left
  · (have e : worldV w = false := by (unfold worldV; (rw [h4]); simp)); rw [e]; (conv=>whnf);(try(refine ⟨(rfl:(_:Heap)=_),?_⟩;(conv=>whnf))); (repeat (first | (refine ⟨fun _ => ?_, fun h => absurd h (by decide)⟩; (conv=>whnf);(try(refine ⟨(rfl:(_:Heap)=_),?_⟩;(conv=>whnf)))) | (refine ⟨fun h => absurd h (by decide), fun _ => ?_⟩; (conv=>whnf);(try(refine ⟨(rfl:(_:Heap)=_),?_⟩;(conv=>whnf)))))); exact ⟨.inl rfl, _, .refl _, rfl⟩
  (conv=>whnf);(try(refine ⟨(rfl:(_:Heap)=_),?_⟩;(conv=>whnf)))
  (repeat (first | (refine ⟨fun _ => ?_, fun h => absurd h (by decide)⟩; (conv=>whnf);(try(refine ⟨(rfl:(_:Heap)=_),?_⟩;(conv=>whnf)))) | (refine ⟨fun h => absurd h (by decide), fun _ => ?_⟩; (conv=>whnf);(try(refine ⟨(rfl:(_:Heap)=_),?_⟩;(conv=>whnf))))))
  intro b
  (conv=>whnf);(try(refine ⟨(rfl:(_:Heap)=_),?_⟩;(conv=>whnf)))
  rw [m2]
  have g0 : worldV w = (!w.limbo.any (limBad w) && (List.range w.versions.length).all (verAt w) && (List.range w.listens.length).all (lisAt w)) := by
    unfold worldV
    rw [h1, show decide (0 ≤ w.current) = true from by simp at h2 ⊢; omega, show decide (w.current < w.versions.length) = true from by simp at h3 ⊢; omega, h4]
    rfl
  refine Loops.seq w.limbo.length (fun k => [.junk, .ref 0 [] 8 0 0, Bo false, .v (.map (some b)), .junk, .junk, .junk, .junk, .junk, .junk, .junk, .junk, .junk, .junk, .junk, .junk, .junk, .junk, .junk, .junk, .junk, .junk, .junk, .junk, .junk, .junk, .junk, .junk, .junk, .junk, .junk, .junk, .junk, .junk, lR w.limbo, I w.limbo.length, I k, .junk, .junk, .junk, .junk, .junk, .junk, .junk, .junk, .junk, .junk, .junk, .junk, .junk, .junk, .junk, .junk, .junk, .junk, .junk, .junk, .junk, .junk, .junk, .junk, .junk, .junk, .junk, .junk, .junk, .junk, .junk, .junk, .junk, .junk, .junk, .junk, .junk, .junk, .junk, .junk, .junk, .junk, .junk, .junk, .junk, .junk, .junk, .junk, .junk, .junk, .junk, .junk, .junk, .junk, .junk, .junk, .junk, .junk, .junk, .junk, .junk, .junk, .junk, .junk, .junk, .junk, .junk, .junk, .junk, .junk]) (fun k => [⟨1, 48, 8, [encW w], 0⟩, obM b (entE encI64 (goneL (w.limbo.take k))) (goneL (w.limbo.take k)).length]) (fun k => ∀ j, (h : j < w.limbo.length) → j < k → limBad w w.limbo[j] = false) ?_ (by simp) (fun k hk hr => ?_) (fun hr => ?_)
  · exact Weak.cov (by (conv => whnf); (repeat (refine ⟨rfl, ?_⟩; (conv => whnf))); exact trivial)
  · obtain ⟨r, hx⟩ : ∃ r, r = w.limbo[k] := ⟨_, rfl⟩
    have hx2 : w.limbo[k]? = some r := by rw [List.getElem?_eq_getElem hk, hx]
    have hg : (w.limbo.map encR)[k]? = some (encR r) := by rw [List.getElem?_map, hx2]; rfl
    have bad : limBad w r = true → worldV w = false := fun h => by
      have : w.limbo.any (limBad w) = true := List.any_eq_true.2 ⟨r, List.mem_of_getElem? hx2, h⟩
      rw [g0, this]; rfl
    conv => whnf
    (refine ⟨fun _ => ?_, fun h => absurd h (by simp; omega)⟩); (conv=>whnf);(try(refine ⟨(rfl:(_:Heap)=_),?_⟩;(conv=>whnf)))
    (refine ⟨by omega, _, by rw [toNat_cast]; exact hg, ?_⟩); (conv=>whnf);(try(refine ⟨(rfl:(_:Heap)=_),?_⟩;(conv=>whnf)))
    rw [m1]
    refine ⟨fun h5 => ?_, fun h5 => ?_⟩
    · (rw [bad (by unfold limBad; rw [h5]; rfl)]); (conv=>whnf);(try(refine ⟨(rfl:(_:Heap)=_),?_⟩;(conv=>whnf))); (repeat (first | (refine ⟨fun _ => ?_, fun h => absurd h (by decide)⟩; (conv=>whnf);(try(refine ⟨(rfl:(_:Heap)=_),?_⟩;(conv=>whnf)))) | (refine ⟨fun h => absurd h (by decide), fun _ => ?_⟩; (conv=>whnf);(try(refine ⟨(rfl:(_:Heap)=_),?_⟩;(conv=>whnf)))))); (refine .inr ⟨by simp, ?_⟩); (conv => whnf); exact ⟨.inl rfl, _, .refl _, rfl⟩
    (conv=>whnf);(try(refine ⟨(rfl:(_:Heap)=_),?_⟩;(conv=>whnf)))
    refine ⟨fun h6 => ?_, fun h6 => ?_⟩
    · (rw [bad (by unfold limBad; rw [h6, Bool.or_true]; rfl)]); (conv=>whnf);(try(refine ⟨(rfl:(_:Heap)=_),?_⟩;(conv=>whnf))); (repeat (first | (refine ⟨fun _ => ?_, fun h => absurd h (by decide)⟩; (conv=>whnf);(try(refine ⟨(rfl:(_:Heap)=_),?_⟩;(conv=>whnf)))) | (refine ⟨fun h => absurd h (by decide), fun _ => ?_⟩; (conv=>whnf);(try(refine ⟨(rfl:(_:Heap)=_),?_⟩;(conv=>whnf)))))); (refine .inr ⟨by simp, ?_⟩); (conv => whnf); exact ⟨.inl rfl, _, .refl _, rfl⟩
    (conv=>whnf);(try(refine ⟨(rfl:(_:Heap)=_),?_⟩;(conv=>whnf)))
    refine ⟨fun h7 => ?_, fun h7 => ?_⟩
    · (rw [bad (by unfold limBad; rw [h7, Bool.or_true])]); (conv=>whnf);(try(refine ⟨(rfl:(_:Heap)=_),?_⟩;(conv=>whnf))); (repeat (first | (refine ⟨fun _ => ?_, fun h => absurd h (by decide)⟩; (conv=>whnf);(try(refine ⟨(rfl:(_:Heap)=_),?_⟩;(conv=>whnf)))) | (refine ⟨fun h => absurd h (by decide), fun _ => ?_⟩; (conv=>whnf);(try(refine ⟨(rfl:(_:Heap)=_),?_⟩;(conv=>whnf)))))); (refine .inr ⟨by simp, ?_⟩); (conv => whnf); exact ⟨.inl rfl, _, .refl _, rfl⟩
    (conv=>whnf);(try(refine ⟨(rfl:(_:Heap)=_),?_⟩;(conv=>whnf)))
    (repeat (first | (refine ⟨fun _ => ?_, fun h => absurd h (by decide)⟩; (conv=>whnf);(try(refine ⟨(rfl:(_:Heap)=_),?_⟩;(conv=>whnf)))) | (refine ⟨fun h => absurd h (by decide), fun _ => ?_⟩; (conv=>whnf);(try(refine ⟨(rfl:(_:Heap)=_),?_⟩;(conv=>whnf))))))
    refine ⟨fun q => ?_, fun q => ?_⟩
    all_goals
      (conv=>whnf);(try(refine ⟨(rfl:(_:Heap)=_),?_⟩;(conv=>whnf)))
      refine ⟨_, _, OpV.mapUpdate (id := 1) _ _ _ _ (.inl rfl) Tryz.underlying94 (KeyT.int Tryz.underlying3) rfl rfl r.version (fun E u h => val_v h) (.bool r.gone) (fun E u h => by rw [q]; exact val_v h), ?_⟩
      (conv=>whnf);(try(refine ⟨(rfl:(_:Heap)=_),?_⟩;(conv=>whnf)))
      refine .inl ⟨rfl, ?_, fun j hj hjk => ?_⟩
      · rw [i64_nat (by omega), ← gone_step w.limbo hx2]
        exact Weak.covD 2 (by (conv => whnf); (repeat (refine ⟨rfl, ?_⟩; (conv => whnf))); exact trivial) rfl rfl rfl rfl rfl
      · by_cases e : j = k
        · subst e; rw [← hx]; unfold limBad; rw [h5, h6, h7]; rfl
        · exact hr j hj (by omega)
  have hl0 : w.limbo.any (limBad w) = false := by
    rw [List.any_eq_false]
    intro x hx
    obtain ⟨j, hj, rfl⟩ := List.mem_iff_getElem.1 hx
    simp [hr j hj hj]
  rw [List.take_length]
  (conv => whnf); (refine ⟨fun h => absurd h (by simp), fun _ => ?_⟩); (conv=>whnf);(try(refine ⟨(rfl:(_:Heap)=_),?_⟩;(conv=>whnf))); (refine ⟨by simp, ?_⟩); (conv => whnf)
  rw [m1]
  have g1 : worldV w = ((List.range w.versions.length).all (verAt w) && (List.range w.listens.length).all (lisAt w)) := by rw [g0, hl0]; rfl
  refine Loops.seq w.versions.length (fun k => [.junk, .ref 0 [] 8 0 0, Bo false, .v (.map (some b)), .junk, .junk, .junk, .junk, .junk, .junk, .junk, .junk, .junk, .junk, .junk, .junk, .junk, .junk, .junk, .junk, .junk, .junk, .junk, .junk, .junk, .junk, .junk, .junk, .junk, .junk, .junk, .junk, .junk, .junk, .junk, .junk, .junk, .junk, .junk, .junk, .junk, .junk, .junk, .junk, .junk, .junk, .junk, .junk, .junk, .junk, .junk, .junk, .junk, .junk, .junk, .junk, .junk, .junk, .junk, .junk, .junk, .junk, .junk, .junk, .junk, .junk, .junk, lV w.versions, I w.versions.length, I k, .junk, .junk, .junk, .junk, .junk, .junk, .junk, .junk, .junk, .junk, .junk, .junk, .junk, .junk, .junk, .junk, .junk, .junk, .junk, .junk, .junk, .junk, .junk, .junk, .junk, .junk, .junk, .junk, .junk, .junk, .junk, .junk, .junk, .junk, .junk, .junk, .junk]) (fun k => [⟨1, 48, 8, [encW w], 0⟩, obM b (entE encI64 (goneL (w.limbo))) (goneL (w.limbo)).length]) (fun k => ∀ j, j < k → verAt w j = true) ?_ (by simp) (fun k hk hr => ?_) (fun hr => ?_)
  · exact Weak.cov (by (conv => whnf); (repeat (refine ⟨rfl, ?_⟩; (conv => whnf))); exact trivial)
  · obtain ⟨v, hx⟩ : ∃ v, v = w.versions[k] := ⟨_, rfl⟩
    have hx2 : w.versions[k]? = some v := by rw [List.getElem?_eq_getElem hk, hx]
    have hg : (w.versions.map encV)[k]? = some (encV v) := by rw [List.getElem?_map, hx2]; rfl
    have hd : verAt w k = (verV v && (v.freed == goneV w.limbo k)) := by unfold verAt; rw [hx2]
    have bad : verAt w k = false → worldV w = false := fun h => by
      have : (List.range w.versions.length).all (verAt w) = false := by rw [List.all_eq_false]; exact ⟨k, by simpa using hk, by simp [h]⟩
      rw [g1, this]; rfl
    conv => whnf
    (refine ⟨fun _ => ?_, fun h => absurd h (by simp; omega)⟩); (conv=>whnf);(try(refine ⟨(rfl:(_:Heap)=_),?_⟩;(conv=>whnf)))
    (refine ⟨by omega, _, by rw [toNat_cast]; exact hg, ?_⟩); (conv=>whnf);(try(refine ⟨(rfl:(_:Heap)=_),?_⟩;(conv=>whnf)))
    refine ⟨_, _, (version_sound v (hw.versions.2 v (List.mem_of_getElem? hx2))).frame rfl _, ?_⟩; (conv=>whnf);(try(refine ⟨(rfl:(_:Heap)=_),?_⟩;(conv=>whnf)))
    refine ⟨fun h5 => ?_, fun h5 => ?_⟩
    rotate_left
    · (rw [bad (by rw [hd, h5]; rfl)]); (conv=>whnf);(try(refine ⟨(rfl:(_:Heap)=_),?_⟩;(conv=>whnf))); (repeat (first | (refine ⟨fun _ => ?_, fun h => absurd h (by decide)⟩; (conv=>whnf);(try(refine ⟨(rfl:(_:Heap)=_),?_⟩;(conv=>whnf)))) | (refine ⟨fun h => absurd h (by decide), fun _ => ?_⟩; (conv=>whnf);(try(refine ⟨(rfl:(_:Heap)=_),?_⟩;(conv=>whnf)))))); (refine .inr ⟨by simp, ?_⟩); (conv => whnf); exact ⟨.inl rfl, _, .refl _, rfl⟩
    (conv=>whnf);(try(refine ⟨(rfl:(_:Heap)=_),?_⟩;(conv=>whnf)))
    refine ⟨fun q => ?_, fun q => ?_⟩
    all_goals
      (conv=>whnf);(try(refine ⟨(rfl:(_:Heap)=_),?_⟩;(conv=>whnf)))
      refine ⟨_, _, OpV.lookup (id := 1) _ _ _ rfl Tryz.underlying94 (KeyT.int Tryz.underlying3) rfl rfl (k : Int) (fun E u h => val_v h) (c := Bo (goneV w.limbo k)) rfl rfl (fun E => by rw [gone_get]; exact .v _ rfl), ?_⟩
      (conv=>whnf);(try(refine ⟨(rfl:(_:Heap)=_),?_⟩;(conv=>whnf)))
      refine ⟨fun q2 => ?_, fun q2 => ?_⟩
      · (rw [bad (by rw [hd, q]; simp at q2; simp [q2])]); (conv=>whnf);(try(refine ⟨(rfl:(_:Heap)=_),?_⟩;(conv=>whnf))); (repeat (first | (refine ⟨fun _ => ?_, fun h => absurd h (by decide)⟩; (conv=>whnf);(try(refine ⟨(rfl:(_:Heap)=_),?_⟩;(conv=>whnf)))) | (refine ⟨fun h => absurd h (by decide), fun _ => ?_⟩; (conv=>whnf);(try(refine ⟨(rfl:(_:Heap)=_),?_⟩;(conv=>whnf)))))); (refine .inr ⟨by simp, ?_⟩); (conv => whnf); exact ⟨.inl rfl, _, .refl _, rfl⟩
      (conv=>whnf);(try(refine ⟨(rfl:(_:Heap)=_),?_⟩;(conv=>whnf)))
      (repeat (first | (refine ⟨fun _ => ?_, fun h => absurd h (by decide)⟩; (conv=>whnf);(try(refine ⟨(rfl:(_:Heap)=_),?_⟩;(conv=>whnf)))) | (refine ⟨fun h => absurd h (by decide), fun _ => ?_⟩; (conv=>whnf);(try(refine ⟨(rfl:(_:Heap)=_),?_⟩;(conv=>whnf))))))
      refine .inl ⟨rfl, ?_, fun j hj => ?_⟩
      · rw [i64_nat (by omega)]
        exact Weak.covD 2 (by (conv => whnf); (repeat (refine ⟨rfl, ?_⟩; (conv => whnf))); exact trivial) rfl rfl rfl rfl rfl
      · by_cases e : j = k
        · subst e; rw [hd, h5, q]; simp at q2; simp [q2]
        · exact hr j (by omega)
  have hv0 : (List.range w.versions.length).all (verAt w) = true := by
    rw [List.all_eq_true]
    exact fun i hi => hr i (by simpa using hi)
  have g2 : worldV w = (List.range w.listens.length).all (lisAt w) := by rw [g1, hv0]; rfl
  (conv => whnf); (refine ⟨fun h => absurd h (by simp), fun _ => ?_⟩); (conv=>whnf);(try(refine ⟨(rfl:(_:Heap)=_),?_⟩;(conv=>whnf))); (refine ⟨by simp, ?_⟩); (conv => whnf)
  rw [m3]
  refine Loops.seq w.listens.length (fun k => [.junk, .ref 0 [] 8 0 0, Bo false, .v (.map (some b)), .junk, .junk, .junk, .junk, .junk, .junk, .junk, .junk, .junk, .junk, .junk, .junk, .junk, .junk, .junk, .junk, .junk, .junk, .junk, .junk, .junk, .junk, .junk, .junk, .junk, .junk, .junk, .junk, .junk, .junk, .junk, .junk, .junk, .junk, .junk, .junk, .junk, .junk, .junk, .junk, .junk, .junk, .junk, .junk, .junk, .junk, .junk, .junk, .junk, .junk, .junk, .junk, .junk, .junk, .junk, .junk, .junk, .junk, .junk, .junk, .junk, .junk, .junk, .junk, .junk, .junk, .junk, .junk, .junk, .junk, .junk, .junk, .junk, .junk, .junk, .junk, .junk, .junk, .junk, .junk, .junk, .junk, .junk, lL w.listens, I w.listens.length, I k, .junk, .junk, .junk, .junk, .junk, .junk, .junk, .junk, .junk, .junk, .junk, .junk, .junk, .junk, .junk, .junk, .junk]) (fun k => [⟨1, 48, 8, [encW w], 0⟩, obM b (entE encI64 (goneL (w.limbo))) (goneL (w.limbo)).length]) (fun k => ∀ j, j < k → lisAt w j = true) ?_ (by simp) (fun k hk hr => ?_) (fun hr => ?_)
  · exact Weak.cov (by (conv => whnf); (repeat (refine ⟨rfl, ?_⟩; (conv => whnf))); exact trivial)
  · obtain ⟨l, hx⟩ : ∃ l, l = w.listens[k] := ⟨_, rfl⟩
    have hx2 : w.listens[k]? = some l := by rw [List.getElem?_eq_getElem hk, hx]
    have hg : (w.listens.map encL)[k]? = some (encL l) := by rw [List.getElem?_map, hx2]; rfl
    have hd : lisAt w k = (Go.Gat.isV l && decide (placeV w.listens l.name = k)) := by unfold lisAt; rw [hx2]
    have bad : lisAt w k = false → worldV w = false := fun h => by
      have : (List.range w.listens.length).all (lisAt w) = false := by rw [List.all_eq_false]; exact ⟨k, by simpa using hk, by simp [h]⟩
      rw [g2, this]
    conv => whnf
    (refine ⟨fun _ => ?_, fun h => absurd h (by simp; omega)⟩); (conv=>whnf);(try(refine ⟨(rfl:(_:Heap)=_),?_⟩;(conv=>whnf)))
    (refine ⟨by omega, _, by rw [toNat_cast]; exact hg, ?_⟩); (conv=>whnf);(try(refine ⟨(rfl:(_:Heap)=_),?_⟩;(conv=>whnf)))
    refine ⟨_, _, (Go.Gat.is_sound l (hw.listens.2 l (List.mem_of_getElem? hx2))).frame rfl _, ?_⟩; (conv=>whnf);(try(refine ⟨(rfl:(_:Heap)=_),?_⟩;(conv=>whnf)))
    refine ⟨fun h5 => ?_, fun h5 => ?_⟩
    rotate_left
    · (rw [bad (by rw [hd, h5]; rfl)]); (conv=>whnf);(try(refine ⟨(rfl:(_:Heap)=_),?_⟩;(conv=>whnf))); (repeat (first | (refine ⟨fun _ => ?_, fun h => absurd h (by decide)⟩; (conv=>whnf);(try(refine ⟨(rfl:(_:Heap)=_),?_⟩;(conv=>whnf)))) | (refine ⟨fun h => absurd h (by decide), fun _ => ?_⟩; (conv=>whnf);(try(refine ⟨(rfl:(_:Heap)=_),?_⟩;(conv=>whnf)))))); (refine .inr ⟨by simp, ?_⟩); (conv => whnf); exact ⟨.inl rfl, _, .refl _, rfl⟩
    (conv=>whnf);(try(refine ⟨(rfl:(_:Heap)=_),?_⟩;(conv=>whnf)))
    refine ⟨_, _, (place_sound w.listens l.name (by omega)).frame rfl _, ?_⟩; (conv=>whnf);(try(refine ⟨(rfl:(_:Heap)=_),?_⟩;(conv=>whnf)))
    refine ⟨fun h6 => ?_, fun h6 => ?_⟩
    · (rw [bad (by rw [hd, show decide (placeV w.listens l.name = (k : Int)) = false from by rw [decide_eq_false_iff_not]; intro hh; simp [hh] at h6, Bool.and_false])]); (conv=>whnf);(try(refine ⟨(rfl:(_:Heap)=_),?_⟩;(conv=>whnf))); (repeat (first | (refine ⟨fun _ => ?_, fun h => absurd h (by decide)⟩; (conv=>whnf);(try(refine ⟨(rfl:(_:Heap)=_),?_⟩;(conv=>whnf)))) | (refine ⟨fun h => absurd h (by decide), fun _ => ?_⟩; (conv=>whnf);(try(refine ⟨(rfl:(_:Heap)=_),?_⟩;(conv=>whnf)))))); (refine .inr ⟨by simp, ?_⟩); (conv => whnf); exact ⟨.inl rfl, _, .refl _, rfl⟩
    (conv=>whnf);(try(refine ⟨(rfl:(_:Heap)=_),?_⟩;(conv=>whnf)))
    (repeat (first | (refine ⟨fun _ => ?_, fun h => absurd h (by decide)⟩; (conv=>whnf);(try(refine ⟨(rfl:(_:Heap)=_),?_⟩;(conv=>whnf)))) | (refine ⟨fun h => absurd h (by decide), fun _ => ?_⟩; (conv=>whnf);(try(refine ⟨(rfl:(_:Heap)=_),?_⟩;(conv=>whnf))))))
    refine .inl ⟨rfl, ?_, fun j hj => ?_⟩
    · rw [i64_nat (by omega)]
      exact Weak.covD 2 (by (conv => whnf); (repeat (refine ⟨rfl, ?_⟩; (conv => whnf))); exact trivial) rfl rfl rfl rfl rfl
    · by_cases e : j = k
      · subst e; rw [hd, h5]; simp at h6; simp [h6]
      · exact hr j (by omega)
  · have hl1 : (List.range w.listens.length).all (lisAt w) = true := by
      rw [List.all_eq_true]
      exact fun i hi => hr i (by simpa using hi)
    rw [g2, hl1]
    (conv => whnf); (refine ⟨fun h => absurd h (by simp), fun _ => ?_⟩); (conv=>whnf);(try(refine ⟨(rfl:(_:Heap)=_),?_⟩;(conv=>whnf))); (refine ⟨by simp, ?_⟩); (conv => whnf)
    exact ⟨.inl rfl, _, .refl _, rfl⟩
end Go.Wor
