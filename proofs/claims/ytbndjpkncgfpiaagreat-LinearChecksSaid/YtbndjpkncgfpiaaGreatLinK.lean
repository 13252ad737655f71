/- Layer 29 (linear): what bounds a script (hydrantref08.Big), walked; LinearChecks (seat Great). -/
import Derived.Test.YtbndjpkncgfpiaaGreatLinH
import Derived.Test.YtbndjpkncgfpiaaGreatQN
namespace Go.Lin
open Go.Ab Go.Proofs Go.Hy Go.Gat Go.Nam Go.Hos Go.Con Go.Sna Go.Cal
set_option linter.unusedVariables false
set_option linter.unusedSimpArgs false
set_option maxRecDepth 100000
set_option maxHeartbeats 4000000

def opB (o : Opn) : Bool := bigC o.config || decide (100 < o.host.length) || decide (100 < o.path.length)
def opsB (l : List Opn) : Bool := decide (40 < l.length) || l.any opB
def bigS (s : Scr) : Bool := bigC s.first || decide (20 < s.threads.length) || decide (5000 < s.picks.length) || s.threads.any opsB
theorem bigS_sound (s : Scr) (hs : s.ok) : SoundAt Tryz.prog 4 [] [Csc s] (Bo (bigS s)) [] := by
  have m1 : (s.threads.map encOps).length = s.threads.length := List.length_map ..
  have m2 : (s.picks.map encI).length = s.picks.length := List.length_map ..
  obtain ⟨n1, n2, n3⟩ := len_of hs.1
  refine SoundAt.of_wpA1 (fn := Tryz.f4) Tryz.func4 rfl ?_
  conv => whnf
  refine ⟨_, _, (big_sound s.first n1 n2 n3).frame rfl _, ?_⟩; (conv => whnf); (try (refine ⟨(rfl : (_ : Heap) = _), ?_⟩; (conv => whnf)))
  refine ⟨fun a1 => ?_, fun a1 => ?_⟩
  · have e : bigS s = true := by unfold bigS; rw [a1]; rfl
    rw [e]
    (conv => whnf); (try (refine ⟨(rfl : (_ : Heap) = _), ?_⟩; (conv => whnf)))
    (repeat (first | (refine ⟨fun _ => ?_, fun h => absurd h (by decide)⟩; (conv => whnf); (try (refine ⟨(rfl : (_ : Heap) = _), ?_⟩; (conv => whnf)))) | (refine ⟨fun h => absurd h (by decide), fun _ => ?_⟩; (conv => whnf); (try (refine ⟨(rfl : (_ : Heap) = _), ?_⟩; (conv => whnf))))))
    exact ⟨.inl rfl, _, .refl _, rfl⟩
  (conv => whnf); (try (refine ⟨(rfl : (_ : Heap) = _), ?_⟩; (conv => whnf)))
  rw [m1]
  refine ⟨fun a2 => ?_, fun a2 => ?_⟩
  · have e : bigS s = true := by unfold bigS; rw [show decide (20 < s.threads.length) = true from by simp at a2 ⊢; omega, a1]; rfl
    rw [e]
    (conv => whnf); (try (refine ⟨(rfl : (_ : Heap) = _), ?_⟩; (conv => whnf)))
    (repeat (first | (refine ⟨fun _ => ?_, fun h => absurd h (by decide)⟩; (conv => whnf); (try (refine ⟨(rfl : (_ : Heap) = _), ?_⟩; (conv => whnf)))) | (refine ⟨fun h => absurd h (by decide), fun _ => ?_⟩; (conv => whnf); (try (refine ⟨(rfl : (_ : Heap) = _), ?_⟩; (conv => whnf))))))
    exact ⟨.inl rfl, _, .refl _, rfl⟩
  (conv => whnf); (try (refine ⟨(rfl : (_ : Heap) = _), ?_⟩; (conv => whnf)))
  rw [m2]
  refine ⟨fun a3 => ?_, fun a3 => ?_⟩
  · have e : bigS s = true := by unfold bigS; rw [show decide (5000 < s.picks.length) = true from by simp at a3 ⊢; omega, a1, Bool.or_true]; rfl
    rw [e]
    (conv => whnf); (try (refine ⟨(rfl : (_ : Heap) = _), ?_⟩; (conv => whnf)))
    (repeat (first | (refine ⟨fun _ => ?_, fun h => absurd h (by decide)⟩; (conv => whnf); (try (refine ⟨(rfl : (_ : Heap) = _), ?_⟩; (conv => whnf)))) | (refine ⟨fun h => absurd h (by decide), fun _ => ?_⟩; (conv => whnf); (try (refine ⟨(rfl : (_ : Heap) = _), ?_⟩; (conv => whnf))))))
    exact ⟨.inl rfl, _, .refl _, rfl⟩
  (conv => whnf); (try (refine ⟨(rfl : (_ : Heap) = _), ?_⟩; (conv => whnf)))
  have a2' : s.threads.length ≤ 20 := by simp at a2; omega
  have badT : ∀ x ∈ s.threads, opsB x = true → bigS s = true := fun x hx h => by
    have : s.threads.any opsB = true := List.any_eq_true.2 ⟨x, hx, h⟩
    unfold bigS; rw [this, Bool.or_true]
  refine Loops.seq s.threads.length (fun k => [Csc s, .ref 0 [] 5 0 0, Bo false, I k, .junk, .junk, .junk, .junk, .junk, .junk, .junk, .junk, .junk, .junk, .junk, .junk, .junk, .junk, .junk, .junk, .junk, .junk, .junk, .junk, .junk, .junk, .junk, .junk, .junk, .junk, .junk, .junk, .junk, .junk, .junk, .junk, .junk, .junk, .junk, .junk, .junk, .junk, .junk, .junk, .junk, .junk, .junk, .junk, .junk, .junk, .junk, .junk, .junk, .junk, .junk, .junk, .junk, .junk, .junk, .junk, .junk, .junk, .junk, .junk, .junk, .junk, .junk, .junk]) (fun k => [⟨1, 30, 5, [encScr s], 0⟩]) (fun k => ∀ j, (h : j < s.threads.length) → j < k → opsB s.threads[j] = false) ?_ (by simp) (fun k hk hr => ?_) (fun hr => ?_)
  · exact Weak.cov (by (conv => whnf); (repeat (refine ⟨rfl, ?_⟩; (conv => whnf))); exact trivial)
  · obtain ⟨x, hx⟩ : ∃ x, x = s.threads[k] := ⟨_, rfl⟩
    have hg : (s.threads.map encOps)[k]? = some (encOps x) := by rw [List.getElem?_map, List.getElem?_eq_getElem hk, hx]; rfl
    have mx : (x.map encP).length = x.length := List.length_map ..
    have hxm : x ∈ s.threads := by rw [hx]; exact List.getElem_mem hk
    have hxo := hs.2.1 x hxm
    have no : opsB x = false → ∀ i, (h : i < s.threads.length) → i < k + 1 → opsB s.threads[i] = false := fun h6 i hi hij => by
      by_cases e : i = k
      · subst e; rw [← hx]; exact h6
      · exact hr i hi (by omega)
    conv => whnf
    rw [m1]
    (refine ⟨fun _ => ?_, fun h => absurd h (by simp; omega)⟩); (conv => whnf); (try (refine ⟨(rfl : (_ : Heap) = _), ?_⟩; (conv => whnf)))
    (refine ⟨by omega, _, by rw [toNat_cast]; exact hg, ?_⟩); (conv => whnf); (try (refine ⟨(rfl : (_ : Heap) = _), ?_⟩; (conv => whnf)))
    rw [mx]
    refine ⟨fun b1 => ?_, fun b1 => ?_⟩
    · rw [badT x hxm (by unfold opsB; rw [show decide (40 < x.length) = true from by simp at b1 ⊢; omega]; rfl)]
      (conv => whnf); (try (refine ⟨(rfl : (_ : Heap) = _), ?_⟩; (conv => whnf)))
      (refine .inr ⟨by simp, ?_⟩); (conv => whnf)
      exact ⟨.inl rfl, _, .refl _, rfl⟩
    have b1' : x.length ≤ 40 := by simp at b1; omega
    (conv => whnf); (try (refine ⟨(rfl : (_ : Heap) = _), ?_⟩; (conv => whnf)))
    have badO : ∀ o ∈ x, opB o = true → bigS s = true := fun o ho h => badT x hxm (by
      have : x.any opB = true := List.any_eq_true.2 ⟨o, ho, h⟩
      unfold opsB; rw [this, Bool.or_true])
    refine Loops.seq x.length (fun i => [Csc s, .ref 0 [] 5 0 0, Bo false, I k, I i, .junk, .junk, .junk, .junk, .junk, .junk, .junk, .junk, .junk, .junk, .junk, .junk, .junk, .junk, .junk, .junk, .junk, .junk, .junk, .junk, .junk, .junk, .junk, .junk, .junk, .junk, .junk, .junk, .junk, .junk, .junk, .junk, .junk, .junk, .junk, .junk, .junk, .junk, .junk, .junk, .junk, .junk, .junk, .junk, .junk, .junk, .junk, .junk, .junk, .junk, .junk, .junk, .junk, .junk, .junk, .junk, .junk, .junk, .junk, .junk, .junk, .junk, .junk]) (fun i => [⟨1, 30, 5, [encScr s], 0⟩]) (fun i => ∀ j, (h : j < x.length) → j < i → opB x[j] = false) ?_ (by simp) (fun i hi hq => ?_) (fun hq => ?_)
    · exact Weak.cov (by (conv => whnf); (repeat (refine ⟨rfl, ?_⟩; (conv => whnf))); exact trivial)
    · have ho : (x.map encP)[i]? = some (encP x[i]) := by rw [List.getElem?_map, List.getElem?_eq_getElem hi]; rfl
      have hom := List.getElem_mem hi
      obtain ⟨q1, q2, q3⟩ := len_of (hxo.1 _ hom).2.2.2
      conv => whnf
      (refine ⟨by omega, _, by rw [toNat_cast]; exact hg, ?_⟩); (conv => whnf); (try (refine ⟨(rfl : (_ : Heap) = _), ?_⟩; (conv => whnf)))
      rw [mx]
      (refine ⟨fun _ => ?_, fun h => absurd h (by simp; omega)⟩); (conv => whnf); (try (refine ⟨(rfl : (_ : Heap) = _), ?_⟩; (conv => whnf)))
      (refine ⟨by omega, _, by rw [toNat_cast]; exact hg, ?_⟩); (conv => whnf); (try (refine ⟨(rfl : (_ : Heap) = _), ?_⟩; (conv => whnf)))
      (refine ⟨by omega, _, by rw [toNat_cast]; exact ho, ?_⟩); (conv => whnf); (try (refine ⟨(rfl : (_ : Heap) = _), ?_⟩; (conv => whnf)))
      refine ⟨_, _, (big_sound x[i].config q1 q2 q3).frame rfl _, ?_⟩; (conv => whnf); (try (refine ⟨(rfl : (_ : Heap) = _), ?_⟩; (conv => whnf)))
      refine ⟨fun c1 => ?_, fun c1 => ?_⟩
      · rw [badO _ hom (by unfold opB; rw [c1]; rfl)]
        (conv => whnf); (try (refine ⟨(rfl : (_ : Heap) = _), ?_⟩; (conv => whnf)))
        (repeat (first | (refine ⟨fun _ => ?_, fun h => absurd h (by decide)⟩; (conv => whnf); (try (refine ⟨(rfl : (_ : Heap) = _), ?_⟩; (conv => whnf)))) | (refine ⟨fun h => absurd h (by decide), fun _ => ?_⟩; (conv => whnf); (try (refine ⟨(rfl : (_ : Heap) = _), ?_⟩; (conv => whnf))))))
        (refine .inr ⟨by simp, ?_⟩); (conv => whnf)
        (refine .inr ⟨by simp, ?_⟩); (conv => whnf)
        exact ⟨.inl rfl, _, .refl _, rfl⟩
      (conv => whnf); (try (refine ⟨(rfl : (_ : Heap) = _), ?_⟩; (conv => whnf)))
      refine ⟨fun c2 => ?_, fun c2 => ?_⟩
      · rw [badO _ hom (by unfold opB; rw [show decide (100 < x[i].host.length) = true from by simp at c2 ⊢; omega, Bool.or_true]; rfl)]
        (conv => whnf); (try (refine ⟨(rfl : (_ : Heap) = _), ?_⟩; (conv => whnf)))
        (repeat (first | (refine ⟨fun _ => ?_, fun h => absurd h (by decide)⟩; (conv => whnf); (try (refine ⟨(rfl : (_ : Heap) = _), ?_⟩; (conv => whnf)))) | (refine ⟨fun h => absurd h (by decide), fun _ => ?_⟩; (conv => whnf); (try (refine ⟨(rfl : (_ : Heap) = _), ?_⟩; (conv => whnf))))))
        (refine .inr ⟨by simp, ?_⟩); (conv => whnf)
        (refine .inr ⟨by simp, ?_⟩); (conv => whnf)
        exact ⟨.inl rfl, _, .refl _, rfl⟩
      (conv => whnf); (try (refine ⟨(rfl : (_ : Heap) = _), ?_⟩; (conv => whnf)))
      refine ⟨fun c3 => ?_, fun c3 => ?_⟩
      · rw [badO _ hom (by unfold opB; rw [show decide (100 < x[i].path.length) = true from by simp at c3 ⊢; omega, Bool.or_true])]
        (conv => whnf); (try (refine ⟨(rfl : (_ : Heap) = _), ?_⟩; (conv => whnf)))
        (repeat (first | (refine ⟨fun _ => ?_, fun h => absurd h (by decide)⟩; (conv => whnf); (try (refine ⟨(rfl : (_ : Heap) = _), ?_⟩; (conv => whnf)))) | (refine ⟨fun h => absurd h (by decide), fun _ => ?_⟩; (conv => whnf); (try (refine ⟨(rfl : (_ : Heap) = _), ?_⟩; (conv => whnf))))))
        (refine .inr ⟨by simp, ?_⟩); (conv => whnf)
        (refine .inr ⟨by simp, ?_⟩); (conv => whnf)
        exact ⟨.inl rfl, _, .refl _, rfl⟩
      (conv => whnf); (try (refine ⟨(rfl : (_ : Heap) = _), ?_⟩; (conv => whnf)))
      (repeat (first | (refine ⟨fun _ => ?_, fun h => absurd h (by decide)⟩; (conv => whnf); (try (refine ⟨(rfl : (_ : Heap) = _), ?_⟩; (conv => whnf)))) | (refine ⟨fun h => absurd h (by decide), fun _ => ?_⟩; (conv => whnf); (try (refine ⟨(rfl : (_ : Heap) = _), ?_⟩; (conv => whnf))))))
      refine .inl ⟨rfl, ?_, fun j hj hij => ?_⟩
      · rw [i64_nat (by omega)]
        exact Weak.covD 1 (by (conv => whnf); (repeat (refine ⟨rfl, ?_⟩; (conv => whnf))); exact trivial) rfl rfl rfl rfl rfl
      · by_cases e : j = i
        · subst e; unfold opB; rw [c1]; simp at c2 c3 ⊢; omega
        · exact hq j hj (by omega)
    · have hno : x.any opB = false := by
        rw [List.any_eq_false]
        intro y hy
        obtain ⟨j, hj, rfl⟩ := List.mem_iff_getElem.1 hy
        simp [hq j hj hj]
      conv => whnf
      (refine ⟨by omega, _, by rw [toNat_cast]; exact hg, ?_⟩); (conv => whnf); (try (refine ⟨(rfl : (_ : Heap) = _), ?_⟩; (conv => whnf)))
      rw [mx]
      (conv => whnf); (refine ⟨fun h => absurd h (by simp), fun _ => ?_⟩); (conv => whnf); (try (refine ⟨(rfl : (_ : Heap) = _), ?_⟩; (conv => whnf))); (refine ⟨by simp, ?_⟩); (conv => whnf)
      refine .inl ⟨rfl, ?_, no (by unfold opsB; rw [hno]; simp at b1 ⊢; omega)⟩
      rw [i64_nat (by omega)]
      exact Weak.covD 1 (by (conv => whnf); (repeat (refine ⟨rfl, ?_⟩; (conv => whnf))); exact trivial) rfl rfl rfl rfl rfl
  · have hno : s.threads.any opsB = false := by
      rw [List.any_eq_false]
      intro y hy
      obtain ⟨j, hj, rfl⟩ := List.mem_iff_getElem.1 hy
      simp [hr j hj hj]
    have e : bigS s = false := by unfold bigS; rw [a1, hno]; simp at a2 a3 ⊢; omega
    rw [e]
    conv => whnf
    rw [m1]
    (conv => whnf); (refine ⟨fun h => absurd h (by simp), fun _ => ?_⟩); (conv => whnf); (try (refine ⟨(rfl : (_ : Heap) = _), ?_⟩; (conv => whnf))); (refine ⟨by simp, ?_⟩); (conv => whnf)
    exact ⟨.inl rfl, _, .refl _, rfl⟩
theorem small_scr {s : Scr} (hs : s.ok) (h : bigS s = false) : SmallScr s := by
  unfold bigS at h
  simp only [Bool.or_eq_false_iff, decide_eq_false_iff_not, List.any_eq_false] at h
  obtain ⟨⟨⟨h1, h2⟩, h3⟩, h4⟩ := h
  obtain ⟨f1, f2⟩ := small_of hs.1 h1
  refine ⟨f1, f2, by omega, fun ops ho => ?_⟩
  have h5 := h4 ops ho
  unfold opsB at h5
  simp only [Bool.or_eq_true, decide_eq_true_eq, List.any_eq_true, not_or, not_exists, not_and] at h5
  refine ⟨by omega, fun o hm => ?_⟩
  have h6 := h5.2 o hm
  unfold opB at h6
  simp only [Bool.or_eq_true, decide_eq_true_eq, not_or] at h6
  obtain ⟨q1, q2⟩ := small_of ((hs.2.1 ops ho).1 o hm).2.2.2 (by simpa using h6.1.1)
  exact ⟨⟨by omega, by omega, q1⟩, q2⟩

theorem checks_sound (s : Scr) (l : List Eve) (hs : s.ok) (hl : l.length < 4000000000000000000) : SoundAt Tryz.prog 3 [] [Csc s, lEv l] (Bo true) [] := by
  have hlm : (l.map encEv).length = l.length := List.length_map ..
  refine SoundAt.of_wpA1 (fn := Tryz.f3) Tryz.func3 rfl ?_
  conv => whnf
  refine ⟨_, _, (bigS_sound s hs).frame rfl _, ?_⟩; (conv => whnf); (try (refine ⟨(rfl : (_ : Heap) = _), ?_⟩; (conv => whnf)))
  refine ⟨fun h1 => ?_, fun h1 => ?_⟩
  · (conv => whnf); (try (refine ⟨(rfl : (_ : Heap) = _), ?_⟩; (conv => whnf)))
    (repeat (first | (refine ⟨fun _ => ?_, fun h => absurd h (by decide)⟩; (conv => whnf); (try (refine ⟨(rfl : (_ : Heap) = _), ?_⟩; (conv => whnf)))) | (refine ⟨fun h => absurd h (by decide), fun _ => ?_⟩; (conv => whnf); (try (refine ⟨(rfl : (_ : Heap) = _), ?_⟩; (conv => whnf))))))
    exact ⟨.inl rfl, _, .refl _, rfl⟩
  (conv => whnf); (try (refine ⟨(rfl : (_ : Heap) = _), ?_⟩; (conv => whnf)))
  rw [hlm]
  refine ⟨fun h2 => ?_, fun h2 => ?_⟩
  · (conv => whnf); (try (refine ⟨(rfl : (_ : Heap) = _), ?_⟩; (conv => whnf)))
    (repeat (first | (refine ⟨fun _ => ?_, fun h => absurd h (by decide)⟩; (conv => whnf); (try (refine ⟨(rfl : (_ : Heap) = _), ?_⟩; (conv => whnf)))) | (refine ⟨fun h => absurd h (by decide), fun _ => ?_⟩; (conv => whnf); (try (refine ⟨(rfl : (_ : Heap) = _), ?_⟩; (conv => whnf))))))
    exact ⟨.inl rfl, _, .refl _, rfl⟩
  have hl4 : l.length ≤ 400 := by simp at h2; omega
  have hsm := small_scr hs h1
  (conv => whnf); (try (refine ⟨(rfl : (_ : Heap) = _), ?_⟩; (conv => whnf)))
  (repeat (first | (refine ⟨fun _ => ?_, fun h => absurd h (by decide)⟩; (conv => whnf); (try (refine ⟨(rfl : (_ : Heap) = _), ?_⟩; (conv => whnf)))) | (refine ⟨fun h => absurd h (by decide), fun _ => ?_⟩; (conv => whnf); (try (refine ⟨(rfl : (_ : Heap) = _), ?_⟩; (conv => whnf))))))
  have cs := check_sound s l hsm (by omega)
  have rs := rcheck29_sound s l hsm (by omega)
  revert cs rs
  generalize chkV s l (Cal.ofV l) = p
  obtain ⟨n, b⟩ := p
  intro cs rs
  dsimp only at cs rs
  cases b
  · refine ⟨_, _, (cs).frame rfl _, ?_⟩; (conv => whnf); (try (refine ⟨(rfl : (_ : Heap) = _), ?_⟩; (conv => whnf)))
    (repeat (first | (refine ⟨fun _ => ?_, fun h => absurd h (by decide)⟩; (conv => whnf); (try (refine ⟨(rfl : (_ : Heap) = _), ?_⟩; (conv => whnf)))) | (refine ⟨fun h => absurd h (by decide), fun _ => ?_⟩; (conv => whnf); (try (refine ⟨(rfl : (_ : Heap) = _), ?_⟩; (conv => whnf))))))
    refine ⟨_, _, (rs).frame rfl _, ?_⟩; (conv => whnf); (try (refine ⟨(rfl : (_ : Heap) = _), ?_⟩; (conv => whnf)))
    (repeat (first | (refine ⟨fun _ => ?_, fun h => absurd h (by decide)⟩; (conv => whnf); (try (refine ⟨(rfl : (_ : Heap) = _), ?_⟩; (conv => whnf)))) | (refine ⟨fun h => absurd h (by decide), fun _ => ?_⟩; (conv => whnf); (try (refine ⟨(rfl : (_ : Heap) = _), ?_⟩; (conv => whnf))))))
    refine ⟨_, _, (taken_sound).frame rfl _, ?_⟩; (conv => whnf); (try (refine ⟨(rfl : (_ : Heap) = _), ?_⟩; (conv => whnf)))
    (repeat (first | (refine ⟨fun _ => ?_, fun h => absurd h (by decide)⟩; (conv => whnf); (try (refine ⟨(rfl : (_ : Heap) = _), ?_⟩; (conv => whnf)))) | (refine ⟨fun h => absurd h (by decide), fun _ => ?_⟩; (conv => whnf); (try (refine ⟨(rfl : (_ : Heap) = _), ?_⟩; (conv => whnf))))))
    (repeat (first | (refine ⟨fun _ => ?_, ?_⟩; rotate_left 1; (focus (intro h; simp at h; done)); ((conv => whnf); (try (refine ⟨(rfl : (_ : Heap) = _), ?_⟩; (conv => whnf))))) | (refine ⟨?_, fun _ => ?_⟩; (focus (intro h; simp at h; done)); ((conv => whnf); (try (refine ⟨(rfl : (_ : Heap) = _), ?_⟩; (conv => whnf)))))))
    exact ⟨.inl rfl, _, .refl _, rfl⟩
  · refine ⟨_, _, (cs).frame rfl _, ?_⟩; (conv => whnf); (try (refine ⟨(rfl : (_ : Heap) = _), ?_⟩; (conv => whnf)))
    (repeat (first | (refine ⟨fun _ => ?_, fun h => absurd h (by decide)⟩; (conv => whnf); (try (refine ⟨(rfl : (_ : Heap) = _), ?_⟩; (conv => whnf)))) | (refine ⟨fun h => absurd h (by decide), fun _ => ?_⟩; (conv => whnf); (try (refine ⟨(rfl : (_ : Heap) = _), ?_⟩; (conv => whnf))))))
    refine ⟨_, _, (rs).frame rfl _, ?_⟩; (conv => whnf); (try (refine ⟨(rfl : (_ : Heap) = _), ?_⟩; (conv => whnf)))
    (repeat (first | (refine ⟨fun _ => ?_, fun h => absurd h (by decide)⟩; (conv => whnf); (try (refine ⟨(rfl : (_ : Heap) = _), ?_⟩; (conv => whnf)))) | (refine ⟨fun h => absurd h (by decide), fun _ => ?_⟩; (conv => whnf); (try (refine ⟨(rfl : (_ : Heap) = _), ?_⟩; (conv => whnf))))))
    refine ⟨_, _, (taken_sound).frame rfl _, ?_⟩; (conv => whnf); (try (refine ⟨(rfl : (_ : Heap) = _), ?_⟩; (conv => whnf)))
    (repeat (first | (refine ⟨fun _ => ?_, fun h => absurd h (by decide)⟩; (conv => whnf); (try (refine ⟨(rfl : (_ : Heap) = _), ?_⟩; (conv => whnf)))) | (refine ⟨fun h => absurd h (by decide), fun _ => ?_⟩; (conv => whnf); (try (refine ⟨(rfl : (_ : Heap) = _), ?_⟩; (conv => whnf))))))
    (repeat (first | (refine ⟨fun _ => ?_, ?_⟩; rotate_left 1; (focus (intro h; simp at h; done)); ((conv => whnf); (try (refine ⟨(rfl : (_ : Heap) = _), ?_⟩; (conv => whnf))))) | (refine ⟨?_, fun _ => ?_⟩; (focus (intro h; simp at h; done)); ((conv => whnf); (try (refine ⟨(rfl : (_ : Heap) = _), ?_⟩; (conv => whnf)))))))
    exact ⟨.inl rfl, _, .refl _, rfl⟩
end Go.Lin
