/- Joined: LinJ. -/
import Derived.Test.YtbndjpkncgfpiaaQM
import Derived.Test.YtbndjpkncgfpiaaQL
/- Layer 29 (linear): LinearTakes, walked. -/
namespace Go.Lin
open Go.Ab Go.Proofs Go.Hy Go.Gat Go.Nam Go.Hos Go.Con Go.Sna
set_option linter.unusedVariables false
set_option linter.unusedSimpArgs false
set_option maxRecDepth 100000
set_option maxHeartbeats 4000000

theorem small_of {c : Cfg} (hc : c.ok) (hb : bigC c = false) : SmallC c ∧ ∀ x ∈ c.clusters, x.health.length < 1000000000000 := by
  unfold Cfg.ok at hc
  obtain ⟨⟨a1, a2⟩, ⟨b1, b2⟩, c1, c2⟩ := hc
  unfold bigC at hb
  simp only [Bool.or_eq_false_iff, decide_eq_false_iff_not, List.any_eq_false] at hb
  obtain ⟨⟨⟨⟨h1, h2⟩, h3⟩, h4⟩, h5⟩ := hb
  unfold reachBytes at a2 b2 c2
  refine ⟨⟨⟨by omega, fun s hs => ?_⟩, ⟨by omega, fun r hr => ?_⟩, by omega, fun x hx => ?_⟩, fun x hx => ?_⟩
  · have := a1 s hs; unfold StrOk reachBytes at this; omega
  · have := b1 r hr; unfold Rou.ok reachBytes at this
    have h6 := h5 r hr
    unfold rouB at h6
    simp at h6
    exact ⟨by omega, by omega, by omega, by omega⟩
  · have := c1 x hx; unfold Clu.ok reachBytes at this; exact ⟨by omega, by omega⟩
  · have h6 := h4 x hx
    unfold cluB at h6
    simp at h6
    omega
theorem len_of {c : Cfg} (hc : c.ok) : c.listens.length < 4000000000000000000 ∧ c.routes.length < 4000000000000000000 ∧ c.clusters.length < 4000000000000000000 := by
  unfold Cfg.ok reachBytes at hc
  omega

theorem takes_sound (c : Cfg) (l : List Opn) (a : List Ans) (hc : c.ok) (hl : ∀ o ∈ l, o.ok) (hl2 : l.length < 4000000000000000000) (ha2 : a.length < 4000000000000000000) : SoundAt Try.prog 8 [] [Cf c, lP l, lA a] (Bo true) [] := by
  have ml : (l.map encP).length = l.length := List.length_map ..
  have ma : (a.map encA).length = a.length := List.length_map ..
  obtain ⟨n1, n2, n3⟩ := len_of hc
  refine SoundAt.of_wpA1 (fn := Try.f8) Try.func8 rfl ?_
  conv => whnf
  refine ⟨_, _, (big_sound c n1 n2 n3).frame rfl _, ?_⟩; (conv => whnf); (try (refine ⟨(rfl : (_ : Heap) = _), ?_⟩; (conv => whnf)))
  refine ⟨fun h1 => ?_, fun h1 => ?_⟩
  · (conv => whnf); (try (refine ⟨(rfl : (_ : Heap) = _), ?_⟩; (conv => whnf)))
    (repeat (first | (refine ⟨fun _ => ?_, fun h => absurd h (by decide)⟩; (conv => whnf); (try (refine ⟨(rfl : (_ : Heap) = _), ?_⟩; (conv => whnf)))) | (refine ⟨fun h => absurd h (by decide), fun _ => ?_⟩; (conv => whnf); (try (refine ⟨(rfl : (_ : Heap) = _), ?_⟩; (conv => whnf))))))
    refine ⟨_, _, (taken_sound).frame rfl _, ?_⟩; (conv => whnf); (try (refine ⟨(rfl : (_ : Heap) = _), ?_⟩; (conv => whnf)))
    (refine ⟨fun _ => ?_, fun h => absurd (h.symm.trans rfl : false = true) (by decide)⟩); (conv => whnf); (try (refine ⟨(rfl : (_ : Heap) = _), ?_⟩; (conv => whnf)))
    exact ⟨.inl rfl, _, .refl _, rfl⟩
  (conv => whnf); (try (refine ⟨(rfl : (_ : Heap) = _), ?_⟩; (conv => whnf)))
  rw [ml]
  refine ⟨fun h2 => ?_, fun h2 => ?_⟩
  · (conv => whnf); (try (refine ⟨(rfl : (_ : Heap) = _), ?_⟩; (conv => whnf)))
    (repeat (first | (refine ⟨fun _ => ?_, fun h => absurd h (by decide)⟩; (conv => whnf); (try (refine ⟨(rfl : (_ : Heap) = _), ?_⟩; (conv => whnf)))) | (refine ⟨fun h => absurd h (by decide), fun _ => ?_⟩; (conv => whnf); (try (refine ⟨(rfl : (_ : Heap) = _), ?_⟩; (conv => whnf))))))
    refine ⟨_, _, (taken_sound).frame rfl _, ?_⟩; (conv => whnf); (try (refine ⟨(rfl : (_ : Heap) = _), ?_⟩; (conv => whnf)))
    (refine ⟨fun _ => ?_, fun h => absurd (h.symm.trans rfl : false = true) (by decide)⟩); (conv => whnf); (try (refine ⟨(rfl : (_ : Heap) = _), ?_⟩; (conv => whnf)))
    exact ⟨.inl rfl, _, .refl _, rfl⟩
  (conv => whnf); (try (refine ⟨(rfl : (_ : Heap) = _), ?_⟩; (conv => whnf)))
  rw [ml, ma]
  refine ⟨fun h3 => ?_, fun h3 => ?_⟩
  · (conv => whnf); (try (refine ⟨(rfl : (_ : Heap) = _), ?_⟩; (conv => whnf)))
    (repeat (first | (refine ⟨fun _ => ?_, fun h => absurd h (by decide)⟩; (conv => whnf); (try (refine ⟨(rfl : (_ : Heap) = _), ?_⟩; (conv => whnf)))) | (refine ⟨fun h => absurd h (by decide), fun _ => ?_⟩; (conv => whnf); (try (refine ⟨(rfl : (_ : Heap) = _), ?_⟩; (conv => whnf))))))
    refine ⟨_, _, (taken_sound).frame rfl _, ?_⟩; (conv => whnf); (try (refine ⟨(rfl : (_ : Heap) = _), ?_⟩; (conv => whnf)))
    (refine ⟨fun _ => ?_, fun h => absurd (h.symm.trans rfl : false = true) (by decide)⟩); (conv => whnf); (try (refine ⟨(rfl : (_ : Heap) = _), ?_⟩; (conv => whnf)))
    exact ⟨.inl rfl, _, .refl _, rfl⟩
  (conv => whnf); (try (refine ⟨(rfl : (_ : Heap) = _), ?_⟩; (conv => whnf)))
  have hlen : l.length = a.length := by simp at h3; omega
  have hl60 : l.length ≤ 60 := by simp at h2; omega
  obtain ⟨hs, hh⟩ := small_of hc h1
  by_cases hb : (buildV c).2.1 = 0
  rotate_left
  · refine callPartR [] (Go.Ab.SoundAt.toR (R := fun r H' => r = .tup [.v (.pointer none), I (buildV c).2.1] ∧ H' = []) (newNo_sound c hs hb) ⟨rfl, rfl⟩) (fun r H' h => by obtain ⟨_, rfl⟩ := h; rfl) rfl rfl rfl rfl rfl ?_
    rintro _ _ ⟨rfl, rfl⟩
    conv => whnf
    refine callPartR [] (Go.Ab.SoundAt.toR (R := fun r H' => r = .tup [.v (.pointer none), I (buildV c).2.1] ∧ H' = []) (rnewNo_sound c hs hb) ⟨rfl, rfl⟩) (fun r H' h => by obtain ⟨_, rfl⟩ := h; rfl) rfl rfl rfl rfl rfl ?_
    rintro _ _ ⟨rfl, rfl⟩
    conv => whnf
    refine ⟨fun h => absurd h (by simp), fun _ => ?_⟩; (conv => whnf); (try (refine ⟨(rfl : (_ : Heap) = _), ?_⟩; (conv => whnf)))
    (refine ⟨fun h => absurd (h.symm.trans rfl : true = false) (by decide), fun _ => ?_⟩); (conv => whnf); (try (refine ⟨(rfl : (_ : Heap) = _), ?_⟩; (conv => whnf)))
    refine Loops.seq 0 (fun _ => [Cf c, lP l, lA a, .ref 0 [] 3 0 0, .junk, .junk, Bo false, .v (.pointer none), .junk, .v (.pointer none), .junk, I (0 : Nat), .junk, .junk, .junk, .junk, .junk, .junk, .junk, .junk, .junk, .junk, .junk, .junk, .junk, .junk, .junk, .junk, .junk, .junk, .junk, .junk, .junk, .junk, .junk, .junk, .junk, .junk, .junk, .junk, .junk, .junk, .junk, .junk, .junk, .junk, .junk, .junk, .junk, .junk, .junk, .junk, .junk, .junk, .junk, .junk, .junk, .junk, .junk, .junk, .junk, .junk, .junk, .junk, .junk, .junk, .junk, .junk, .junk, .junk, .junk, .junk, .junk, .junk, .junk, .junk, .junk, .junk, .junk, .junk, .junk, .junk, .junk, .junk, .junk, .junk, .junk, .junk, .junk, .junk, .junk, .junk, .junk, .junk, .junk, .junk, .junk, .junk, .junk, .junk, .junk, .junk, .junk, .junk, .junk, .junk, .junk, .junk, .junk, .junk, .junk, .junk, .junk, .junk, .junk, .junk, .junk]) (fun _ => [⟨1, 52, 3, [encF c], 0⟩]) (fun _ => True) ?_ trivial (fun k hk => absurd hk (Nat.not_lt_zero _)) (fun _ => ?_)
    · exact Weak.cov (by (conv => whnf); (repeat (refine ⟨rfl, ?_⟩; (conv => whnf))); exact trivial)
    conv => whnf
    rw [ml]
    refine ⟨fun h4 => ?_, fun h4 => ?_⟩
    · (conv => whnf); (try (refine ⟨(rfl : (_ : Heap) = _), ?_⟩; (conv => whnf)))
      refine ⟨by simp, ?_⟩
      conv => whnf
      refine ⟨_, _, (taken_sound).frame rfl _, ?_⟩; (conv => whnf); (try (refine ⟨(rfl : (_ : Heap) = _), ?_⟩; (conv => whnf)))
      (refine ⟨fun _ => ?_, fun h => absurd (h.symm.trans rfl : false = true) (by decide)⟩); (conv => whnf); (try (refine ⟨(rfl : (_ : Heap) = _), ?_⟩; (conv => whnf)))
      exact ⟨.inl rfl, _, .refl _, rfl⟩
    · (conv => whnf); (try (refine ⟨(rfl : (_ : Heap) = _), ?_⟩; (conv => whnf)))
      refine ⟨by simp, ?_⟩
      conv => whnf
      refine ⟨_, _, (taken_sound).frame rfl _, ?_⟩; (conv => whnf); (try (refine ⟨(rfl : (_ : Heap) = _), ?_⟩; (conv => whnf)))
      (refine ⟨fun _ => ?_, fun h => absurd (h.symm.trans rfl : false = true) (by decide)⟩); (conv => whnf); (try (refine ⟨(rfl : (_ : Heap) = _), ?_⟩; (conv => whnf)))
      exact ⟨.inl rfl, _, .refl _, rfl⟩
  refine callPartR [] (newYes_sound c hs hb) (fun r H' ⟨b, _, h⟩ => h ▸ rfl) rfl rfl rfl rfl rfl ?_
  rintro _ _ ⟨b, rfl, rfl⟩
  conv => whnf
  refine callPartR [] (Go.Ab.SoundAt.toR (R := fun r H' => r = .tup [.ref 0 [] 3 0 0, I 0] ∧ H' = _) (rnewYes_sound c hs hb) ⟨rfl, rfl⟩) (fun r H' h => by obtain ⟨_, rfl⟩ := h; rfl) rfl rfl rfl rfl rfl ?_
  rintro _ _ ⟨rfl, rfl⟩
  conv => whnf
  (refine ⟨fun h => absurd (h.symm.trans rfl : true = false) (by decide), fun _ => ?_⟩); (conv => whnf); (try (refine ⟨(rfl : (_ : Heap) = _), ?_⟩; (conv => whnf)))
  (refine ⟨fun h => absurd (h.symm.trans rfl : true = false) (by decide), fun _ => ?_⟩); (conv => whnf); (try (refine ⟨(rfl : (_ : Heap) = _), ?_⟩; (conv => whnf)))
  refine Loops.inv (fun q t1 H1 => ∃ (k : Nat) (m : Msh), k + q = l.length ∧ GoodN k m ∧ t1 = [Cf c, lP l, lA a, .ref 0 [] 3 0 0, .junk, .junk, Bo false, .ref 2 [] 3 0 0, I 0, .ref 4 [] 3 0 0, I 0, I k, .junk, .junk, .junk, .junk, .junk, .junk, .junk, .junk, .junk, .junk, .junk, .junk, .junk, .junk, .junk, .junk, .junk, .junk, .junk, .junk, .junk, .junk, .junk, .junk, .junk, .junk, .junk, .junk, .junk, .junk, .junk, .junk, .junk, .junk, .junk, .junk, .junk, .junk, .junk, .junk, .junk, .junk, .junk, .junk, .junk, .junk, .junk, .junk, .junk, .junk, .junk, .junk, .junk, .junk, .junk, .junk, .junk, .junk, .junk, .junk, .junk, .junk, .junk, .junk, .junk, .junk, .junk, .junk, .junk, .junk, .junk, .junk, .junk, .junk, .junk, .junk, .junk, .junk, .junk, .junk, .junk, .junk, .junk, .junk, .junk, .junk, .junk, .junk, .junk, .junk, .junk, .junk, .junk, .junk, .junk, .junk, .junk, .junk, .junk, .junk, .junk, .junk, .junk, .junk, .junk] ∧ H1 = [⟨1, 52, 3, [encF c], 0⟩, mapO b m, ⟨1, 105, 3, [[.gl 3 3 ((m).snaps.map encS), I (m).now, .v (.map (some b))]], 0⟩, rowO (m), ⟨1, 67, 3, [[.gl 5 3 ((m).snaps.map encS), I (m).now, .gl 6 1 ((m).dr.map encT)]], 0⟩, ⟨4, 100, 3, (m).snaps.map encS, 0⟩, ⟨4, 9, 1, (m).dr.map encT, 0⟩]) l.length ?_ ?_
  · exact ⟨[Cf c, lP l, lA a, .ref 0 [] 3 0 0, .junk, .junk, Bo false, .ref 2 [] 3 0 0, I 0, .ref 4 [] 3 0 0, I 0, I (0 : Nat), .junk, .junk, .junk, .junk, .junk, .junk, .junk, .junk, .junk, .junk, .junk, .junk, .junk, .junk, .junk, .junk, .junk, .junk, .junk, .junk, .junk, .junk, .junk, .junk, .junk, .junk, .junk, .junk, .junk, .junk, .junk, .junk, .junk, .junk, .junk, .junk, .junk, .junk, .junk, .junk, .junk, .junk, .junk, .junk, .junk, .junk, .junk, .junk, .junk, .junk, .junk, .junk, .junk, .junk, .junk, .junk, .junk, .junk, .junk, .junk, .junk, .junk, .junk, .junk, .junk, .junk, .junk, .junk, .junk, .junk, .junk, .junk, .junk, .junk, .junk, .junk, .junk, .junk, .junk, .junk, .junk, .junk, .junk, .junk, .junk, .junk, .junk, .junk, .junk, .junk, .junk, .junk, .junk, .junk, .junk, .junk, .junk, .junk, .junk, .junk, .junk, .junk, .junk, .junk, .junk], _, Weak.cov (by (conv => whnf); (repeat (refine ⟨rfl, ?_⟩; (conv => whnf))); exact trivial), 0, firstM c, by omega, GoodN.first hs hh hb, rfl, rfl⟩
  rintro q t1 H1 ⟨k, m, k1, k2, rfl, rfl⟩
  conv => whnf
  rw [ml]
  refine ⟨fun h4 => ?_, fun h4 => ?_⟩
  rotate_left
  · (conv => whnf); (try (refine ⟨(rfl : (_ : Heap) = _), ?_⟩; (conv => whnf)))
    refine .inr ⟨by simp, ?_⟩
    conv => whnf
    refine ⟨_, _, (taken_sound).frame rfl _, ?_⟩; (conv => whnf); (try (refine ⟨(rfl : (_ : Heap) = _), ?_⟩; (conv => whnf)))
    (refine ⟨fun _ => ?_, fun h => absurd (h.symm.trans rfl : false = true) (by decide)⟩); (conv => whnf); (try (refine ⟨(rfl : (_ : Heap) = _), ?_⟩; (conv => whnf)))
    exact ⟨.inl rfl, _, .refl _, rfl⟩
  have hk : k < l.length := by simp at h4; omega
  have gp : (l.map encP)[k]? = some (encP l[k]) := by rw [List.getElem?_map, List.getElem?_eq_getElem hk]; rfl
  have ga : (a.map encA)[k]? = some (encA (a[k]'(by omega))) := by rw [List.getElem?_map, List.getElem?_eq_getElem (by omega)]; rfl
  have hok := hl _ (List.getElem_mem hk)
  obtain ⟨p1, p2, p3⟩ := len_of hok.2.2.2
  (conv => whnf); (try (refine ⟨(rfl : (_ : Heap) = _), ?_⟩; (conv => whnf)))
  refine ⟨by omega, _, by rw [toNat_cast]; exact gp, ?_⟩
  (conv => whnf); (try (refine ⟨(rfl : (_ : Heap) = _), ?_⟩; (conv => whnf)))
  refine ⟨_, _, (big_sound l[k].config p1 p2 p3).frame rfl _, ?_⟩; (conv => whnf); (try (refine ⟨(rfl : (_ : Heap) = _), ?_⟩; (conv => whnf)))
  refine ⟨fun h5 => ?_, fun h5 => ?_⟩
  · (conv => whnf); (try (refine ⟨(rfl : (_ : Heap) = _), ?_⟩; (conv => whnf)))
    (repeat (first | (refine ⟨fun _ => ?_, fun h => absurd h (by decide)⟩; (conv => whnf); (try (refine ⟨(rfl : (_ : Heap) = _), ?_⟩; (conv => whnf)))) | (refine ⟨fun h => absurd h (by decide), fun _ => ?_⟩; (conv => whnf); (try (refine ⟨(rfl : (_ : Heap) = _), ?_⟩; (conv => whnf))))))
    refine ⟨_, _, (taken_sound).frame rfl _, ?_⟩; (conv => whnf); (try (refine ⟨(rfl : (_ : Heap) = _), ?_⟩; (conv => whnf)))
    (refine ⟨fun _ => ?_, fun h => absurd (h.symm.trans rfl : false = true) (by decide)⟩); (conv => whnf); (try (refine ⟨(rfl : (_ : Heap) = _), ?_⟩; (conv => whnf)))
    refine .inr ⟨by simp, ?_⟩
    conv => whnf
    exact ⟨.inl rfl, _, .refl _, rfl⟩
  (conv => whnf); (try (refine ⟨(rfl : (_ : Heap) = _), ?_⟩; (conv => whnf)))
  refine ⟨by omega, _, by rw [toNat_cast]; exact gp, ?_⟩
  (conv => whnf); (try (refine ⟨(rfl : (_ : Heap) = _), ?_⟩; (conv => whnf)))
  refine ⟨fun h6 => ?_, fun h6 => ?_⟩
  · (conv => whnf); (try (refine ⟨(rfl : (_ : Heap) = _), ?_⟩; (conv => whnf)))
    (repeat (first | (refine ⟨fun _ => ?_, fun h => absurd h (by decide)⟩; (conv => whnf); (try (refine ⟨(rfl : (_ : Heap) = _), ?_⟩; (conv => whnf)))) | (refine ⟨fun h => absurd h (by decide), fun _ => ?_⟩; (conv => whnf); (try (refine ⟨(rfl : (_ : Heap) = _), ?_⟩; (conv => whnf))))))
    refine ⟨_, _, (taken_sound).frame rfl _, ?_⟩; (conv => whnf); (try (refine ⟨(rfl : (_ : Heap) = _), ?_⟩; (conv => whnf)))
    (refine ⟨fun _ => ?_, fun h => absurd (h.symm.trans rfl : false = true) (by decide)⟩); (conv => whnf); (try (refine ⟨(rfl : (_ : Heap) = _), ?_⟩; (conv => whnf)))
    refine .inr ⟨by simp, ?_⟩
    conv => whnf
    exact ⟨.inl rfl, _, .refl _, rfl⟩
  (conv => whnf); (try (refine ⟨(rfl : (_ : Heap) = _), ?_⟩; (conv => whnf)))
  refine ⟨by omega, _, by rw [toNat_cast]; exact gp, ?_⟩
  (conv => whnf); (try (refine ⟨(rfl : (_ : Heap) = _), ?_⟩; (conv => whnf)))
  refine ⟨fun h7 => ?_, fun h7 => ?_⟩
  · (conv => whnf); (try (refine ⟨(rfl : (_ : Heap) = _), ?_⟩; (conv => whnf)))
    (repeat (first | (refine ⟨fun _ => ?_, fun h => absurd h (by decide)⟩; (conv => whnf); (try (refine ⟨(rfl : (_ : Heap) = _), ?_⟩; (conv => whnf)))) | (refine ⟨fun h => absurd h (by decide), fun _ => ?_⟩; (conv => whnf); (try (refine ⟨(rfl : (_ : Heap) = _), ?_⟩; (conv => whnf))))))
    refine ⟨_, _, (taken_sound).frame rfl _, ?_⟩; (conv => whnf); (try (refine ⟨(rfl : (_ : Heap) = _), ?_⟩; (conv => whnf)))
    (refine ⟨fun _ => ?_, fun h => absurd (h.symm.trans rfl : false = true) (by decide)⟩); (conv => whnf); (try (refine ⟨(rfl : (_ : Heap) = _), ?_⟩; (conv => whnf)))
    refine .inr ⟨by simp, ?_⟩
    conv => whnf
    exact ⟨.inl rfl, _, .refl _, rfl⟩
  obtain ⟨hs2, hh2⟩ := small_of hok.2.2.2 h5
  have hq : SmallQ l[k] := ⟨⟨by simp at h6; omega, by simp at h7; omega, hs2⟩, hh2⟩
  (conv => whnf); (try (refine ⟨(rfl : (_ : Heap) = _), ?_⟩; (conv => whnf)))
  refine ⟨⟨true, [4, 8, 14, 18], [], [23]⟩, by kernel_rfl, ?_⟩; (conv => whnf)
  refine ⟨by omega, _, by rw [toNat_cast]; exact gp, ?_⟩
  (conv => whnf); (try (refine ⟨(rfl : (_ : Heap) = _), ?_⟩; (conv => whnf)))
  refine ⟨by omega, _, by rw [toNat_cast]; exact ga, ?_⟩
  (conv => whnf); (try (refine ⟨(rfl : (_ : Heap) = _), ?_⟩; (conv => whnf)))
  have ht := take_sound b m (k2.good (by omega)) l[k] (a[k]'(by omega)) hq.toSmallP
  have rt := rtake_sound m (k2.good (by omega)) l[k] (a[k]'(by omega)) hq.toSmallP
  refine callPart [1, 2, 3] (ht) rfl rfl rfl rfl rfl rfl ?_; (conv => whnf); (try (refine ⟨(rfl : (_ : Heap) = _), ?_⟩; (conv => whnf)))
  refine ⟨fun h8 => ?_, fun h8 => ?_⟩
  · repeat (refine ⟨rfl, ?_⟩; ((conv => whnf); (try (refine ⟨(rfl : (_ : Heap) = _), ?_⟩; (conv => whnf)))))
    refine ⟨by omega, _, by rw [toNat_cast]; exact gp, ?_⟩
    (conv => whnf); (try (refine ⟨(rfl : (_ : Heap) = _), ?_⟩; (conv => whnf)))
    refine ⟨by omega, _, by rw [toNat_cast]; exact ga, ?_⟩
    (conv => whnf); (try (refine ⟨(rfl : (_ : Heap) = _), ?_⟩; (conv => whnf)))
    refine callPart [4, 5, 6] (rt) rfl rfl rfl rfl rfl rfl ?_; (conv => whnf); (try (refine ⟨(rfl : (_ : Heap) = _), ?_⟩; (conv => whnf)))
    refine ⟨fun _ => ?_, fun h => absurd ((h8).symm.trans h : true = false) (by decide)⟩; (conv => whnf); (try (refine ⟨(rfl : (_ : Heap) = _), ?_⟩; (conv => whnf)))
    repeat (refine ⟨rfl, ?_⟩; ((conv => whnf); (try (refine ⟨(rfl : (_ : Heap) = _), ?_⟩; (conv => whnf)))))
    (refine ⟨fun h => absurd (h.symm.trans rfl : true = false) (by decide), fun _ => ?_⟩); (conv => whnf); (try (refine ⟨(rfl : (_ : Heap) = _), ?_⟩; (conv => whnf)))
    repeat (refine ⟨rfl, ?_⟩; ((conv => whnf); (try (refine ⟨(rfl : (_ : Heap) = _), ?_⟩; (conv => whnf)))))
    refine callPart [1, 2, 3] (version_sound b (takeV m l[k] (a[k]'(by omega))).2) rfl rfl rfl rfl rfl rfl ?_; (conv => whnf); (try (refine ⟨(rfl : (_ : Heap) = _), ?_⟩; (conv => whnf)))
    repeat (refine ⟨rfl, ?_⟩; ((conv => whnf); (try (refine ⟨(rfl : (_ : Heap) = _), ?_⟩; (conv => whnf)))))
    refine ⟨fun h => absurd h (by simp), fun _ => ?_⟩; (conv => whnf); (try (refine ⟨(rfl : (_ : Heap) = _), ?_⟩; (conv => whnf)))
    repeat (refine ⟨rfl, ?_⟩; ((conv => whnf); (try (refine ⟨(rfl : (_ : Heap) = _), ?_⟩; (conv => whnf)))))
    rw [i64_nat (by omega)]
    refine .inl ⟨rfl, q - 1, [Cf c, lP l, lA a, .ref 0 [] 3 0 0, .junk, .junk, Bo false, .ref 2 [] 3 0 0, I 0, .ref 4 [] 3 0 0, I 0, I (k + 1 : Nat), .junk, .junk, .junk, .junk, .junk, .junk, .junk, .junk, .junk, .junk, .junk, .junk, .junk, .junk, .junk, .junk, .junk, .junk, .junk, .junk, .junk, .junk, .junk, .junk, .junk, .junk, .junk, .junk, .junk, .junk, .junk, .junk, .junk, .junk, .junk, .junk, .junk, .junk, .junk, .junk, .junk, .junk, .junk, .junk, .junk, .junk, .junk, .junk, .junk, .junk, .junk, .junk, .junk, .junk, .junk, .junk, .junk, .junk, .junk, .junk, .junk, .junk, .junk, .junk, .junk, .junk, .junk, .junk, .junk, .junk, .junk, .junk, .junk, .junk, .junk, .junk, .junk, .junk, .junk, .junk, .junk, .junk, .junk, .junk, .junk, .junk, .junk, .junk, .junk, .junk, .junk, .junk, .junk, .junk, .junk, .junk, .junk, .junk, .junk, .junk, .junk, .junk, .junk, .junk, .junk], _, by omega, ?_, k + 1, (takeV m l[k] (a[k]'(by omega))).2, by omega, k2.take hq, rfl, rfl⟩
    exact Weak.covD 7 (by (conv => whnf); (repeat (refine ⟨rfl, ?_⟩; (conv => whnf))); exact trivial) rfl rfl rfl rfl rfl
  · repeat (refine ⟨rfl, ?_⟩; ((conv => whnf); (try (refine ⟨(rfl : (_ : Heap) = _), ?_⟩; (conv => whnf)))))
    refine ⟨by omega, _, by rw [toNat_cast]; exact gp, ?_⟩
    (conv => whnf); (try (refine ⟨(rfl : (_ : Heap) = _), ?_⟩; (conv => whnf)))
    refine ⟨by omega, _, by rw [toNat_cast]; exact ga, ?_⟩
    (conv => whnf); (try (refine ⟨(rfl : (_ : Heap) = _), ?_⟩; (conv => whnf)))
    refine callPart [4, 5, 6] (rt) rfl rfl rfl rfl rfl rfl ?_; (conv => whnf); (try (refine ⟨(rfl : (_ : Heap) = _), ?_⟩; (conv => whnf)))
    refine ⟨fun h => absurd ((h8).symm.trans h : false = true) (by decide), fun _ => ?_⟩; (conv => whnf); (try (refine ⟨(rfl : (_ : Heap) = _), ?_⟩; (conv => whnf)))
    repeat (refine ⟨rfl, ?_⟩; ((conv => whnf); (try (refine ⟨(rfl : (_ : Heap) = _), ?_⟩; (conv => whnf)))))
    (refine ⟨fun h => absurd (h.symm.trans rfl : true = false) (by decide), fun _ => ?_⟩); (conv => whnf); (try (refine ⟨(rfl : (_ : Heap) = _), ?_⟩; (conv => whnf)))
    repeat (refine ⟨rfl, ?_⟩; ((conv => whnf); (try (refine ⟨(rfl : (_ : Heap) = _), ?_⟩; (conv => whnf)))))
    refine callPart [1, 2, 3] (version_sound b (takeV m l[k] (a[k]'(by omega))).2) rfl rfl rfl rfl rfl rfl ?_; (conv => whnf); (try (refine ⟨(rfl : (_ : Heap) = _), ?_⟩; (conv => whnf)))
    repeat (refine ⟨rfl, ?_⟩; ((conv => whnf); (try (refine ⟨(rfl : (_ : Heap) = _), ?_⟩; (conv => whnf)))))
    refine ⟨fun h => absurd h (by simp), fun _ => ?_⟩; (conv => whnf); (try (refine ⟨(rfl : (_ : Heap) = _), ?_⟩; (conv => whnf)))
    repeat (refine ⟨rfl, ?_⟩; ((conv => whnf); (try (refine ⟨(rfl : (_ : Heap) = _), ?_⟩; (conv => whnf)))))
    rw [i64_nat (by omega)]
    refine .inl ⟨rfl, q - 1, [Cf c, lP l, lA a, .ref 0 [] 3 0 0, .junk, .junk, Bo false, .ref 2 [] 3 0 0, I 0, .ref 4 [] 3 0 0, I 0, I (k + 1 : Nat), .junk, .junk, .junk, .junk, .junk, .junk, .junk, .junk, .junk, .junk, .junk, .junk, .junk, .junk, .junk, .junk, .junk, .junk, .junk, .junk, .junk, .junk, .junk, .junk, .junk, .junk, .junk, .junk, .junk, .junk, .junk, .junk, .junk, .junk, .junk, .junk, .junk, .junk, .junk, .junk, .junk, .junk, .junk, .junk, .junk, .junk, .junk, .junk, .junk, .junk, .junk, .junk, .junk, .junk, .junk, .junk, .junk, .junk, .junk, .junk, .junk, .junk, .junk, .junk, .junk, .junk, .junk, .junk, .junk, .junk, .junk, .junk, .junk, .junk, .junk, .junk, .junk, .junk, .junk, .junk, .junk, .junk, .junk, .junk, .junk, .junk, .junk, .junk, .junk, .junk, .junk, .junk, .junk, .junk, .junk, .junk, .junk, .junk, .junk, .junk, .junk, .junk, .junk, .junk, .junk], _, by omega, ?_, k + 1, (takeV m l[k] (a[k]'(by omega))).2, by omega, k2.take hq, rfl, rfl⟩
    exact Weak.covD 7 (by (conv => whnf); (repeat (refine ⟨rfl, ?_⟩; (conv => whnf))); exact trivial) rfl rfl rfl rfl rfl
end Go.Lin

