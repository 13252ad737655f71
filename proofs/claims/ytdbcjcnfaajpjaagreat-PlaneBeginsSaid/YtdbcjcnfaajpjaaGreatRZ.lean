import Derived.Test.YtdbcjcnfaajpjaaGreatRP
import Derived.Test.YtdbcjcnfaajpjaaGreatRS
import Derived.Test.YtdbcjcnfaajpjaaGreatRC
namespace Go.Beg
open Go.Ab Go.Proofs Go.Hy Go.Pla
set_option linter.unusedVariables false
set_option linter.unusedSimpArgs false
set_option maxRecDepth 100000
set_option maxHeartbeats 4000000
abbrev op0 : Opn := ⟨0, [], [], [], 0, 0, 0, ⟨[], [], []⟩⟩
abbrev ans0 : Ans := ⟨0, 0, 0, 0, 0, 0, 0, six0⟩
abbrev mac0 : Mac := ⟨op0, 0, 0, 0, 0, 0, 0, 0, 0, 0, 0, 0, 0, 0, 0, false, ans0, six0⟩
abbrev Cma (m : Mac) : C := .agg (encM m)
abbrev Can (a : Ans) : C := .agg (encA a)
abbrev Cop (o : Opn) : C := .agg (encP o)
abbrev restM (m : Mac) : List C := [I m.thread, I m.pc, I m.epoch, I m.version, I m.listen, I m.cluster, I m.end_, I m.other, I m.slot, U m.word, I m.link, I m.i, I m.k, I m.sum, Bo m.done] ++ encA m.answer ++ encX m.counts
abbrev opK0 (n : Int) : List C := [I n, Tx [], Tx [], Tx [], I 0, I 0, I 0, .lst 1 0 [], .lst 1 0 [], .lst 1 0 []]
def finishM (t : Int) (a : Ans) : Mac := { mac0 with op := { op0 with kind := 2 }, thread := t, version := a.version, cluster := a.cluster, end_ := a.end_, slot := a.slot, listen := if a.kind = 1 then a.listen else -1, pc := if a.kind = 1 then 0 else 9 }
theorem finish_sound (t : Int) (a : Ans) : SoundAt Tryz.prog 23 [] [I t, Can a] (.agg (opK0 2 ++ restM (finishM t a))) [] := by
  refine SoundAt.of_wpA1 (fn := Tryz.f23) Tryz.func23 rfl ?_
  conv => whnf
  unfold finishM
  refine ⟨fun h => ?_, fun h => ?_⟩
  · have h1 : a.kind ≠ 1 := by simpa using h
    rw [if_neg h1, if_neg h1]
    (conv=>whnf);(try(refine ⟨(rfl:(_:Heap)=_),?_⟩;(conv=>whnf)))
    exact ⟨.inl rfl, _, .refl _, rfl⟩
  · have h1 : a.kind = 1 := by simpa using h
    rw [if_pos h1, if_pos h1]
    (conv=>whnf);(try(refine ⟨(rfl:(_:Heap)=_),?_⟩;(conv=>whnf)))
    exact ⟨.inl rfl, _, .refl _, rfl⟩
theorem finishR_sound (t : Int) (a : Ans) : SoundAt Tryz.prog 24 [] [I t, Can a] (.agg (opK0 2 ++ restM (finishM t a))) [] := by
  refine SoundAt.of_wpA1 (fn := Tryz.f24) Tryz.func24 rfl ?_
  conv => whnf
  unfold finishM
  refine ⟨fun h => ?_, fun h => ?_⟩
  · have h1 : a.kind ≠ 1 := by simpa using h
    rw [if_neg h1, if_neg h1]
    (conv=>whnf);(try(refine ⟨(rfl:(_:Heap)=_),?_⟩;(conv=>whnf)))
    exact ⟨.inl rfl, _, .refl _, rfl⟩
  · have h1 : a.kind = 1 := by simpa using h
    rw [if_pos h1, if_pos h1]
    (conv=>whnf);(try(refine ⟨(rfl:(_:Heap)=_),?_⟩;(conv=>whnf)))
    exact ⟨.inl rfl, _, .refl _, rfl⟩
end Go.Beg
namespace Go.Beg
open Go.Ab Go.Proofs Go.Hy Go.Pla
set_option linter.unusedVariables false
set_option linter.unusedSimpArgs false
set_option maxRecDepth 100000
set_option maxHeartbeats 4000000
def takenA (o : Opn) (given : List Ans) : Ans := if 0 ≤ o.n ∧ o.n < (openV given).length then (given[(openV given).getD o.n.toNat 0]?).getD ans0 else ans0
def beginM (t : Int) (o : Opn) (given : List Ans) : Mac := if o.kind = 2 then { finishM t (takenA o given) with op := o } else { mac0 with op := o, thread := t, listen := -1 }
theorem taken_in {o : Opn} {given : List Ans} (h0 : 0 ≤ o.n) (h1 : o.n < (openV given).length) : ∃ i a, (openV given)[o.n.toNat]? = some i ∧ given[i]? = some a ∧ takenA o given = a := by
  have hi : (openV given)[o.n.toNat]? = some ((openV given)[o.n.toNat]'(by omega)) := List.getElem?_eq_getElem _
  have hlt := openN_lt given given.length (Nat.le_refl _) _ (List.getElem_mem (l := openV given) (n := o.n.toNat) (by omega))
  refine ⟨_, given[(openV given)[o.n.toNat]'(by omega)], hi, List.getElem?_eq_getElem _, ?_⟩
  unfold takenA
  rw [if_pos ⟨h0, h1⟩, List.getD_eq_getElem?_getD, hi, Option.getD_some, List.getElem?_eq_getElem hlt]
  rfl
theorem taken_out {o : Opn} {given : List Ans} (h : ¬ (0 ≤ o.n ∧ o.n < (openV given).length)) : takenA o given = ans0 := if_neg h
theorem begin_sound (t : Int) (o : Opn) (given : List Ans) (hlen : given.length < 1000000000000) : SoundAt Tryz.prog 8 [] [I t, Cop o, lA given] (Cma (beginM t o given)) [] := by
  have m1 : ((openV given).map fun (n : Nat) => [I (n : Int)]).length = (openV given).length := List.length_map ..
  have hl := openN_len given given.length
  have mA : (given.map encA).length = given.length := List.length_map ..
  have eb : o.kind = 2 → beginM t o given = { finishM t (takenA o given) with op := o } := fun h => if_pos h
  have eb2 : o.kind ≠ 2 → beginM t o given = { mac0 with op := o, thread := t, listen := -1 } := fun h => if_neg h
  refine SoundAt.of_wpA1 (fn := Tryz.f8) Tryz.func8 rfl ?_
  conv => whnf
  refine ⟨fun hk => ?_, fun hk => ?_⟩
  · have h1 : o.kind ≠ 2 := by simpa using hk
    rw [eb2 h1]
    (conv=>whnf);(try(refine ⟨(rfl:(_:Heap)=_),?_⟩;(conv=>whnf)))
    exact ⟨.inl rfl, _, .refl _, rfl⟩
  · have h1 : o.kind = 2 := by simpa using hk
    rw [eb h1]
    (conv=>whnf);(try(refine ⟨(rfl:(_:Heap)=_),?_⟩;(conv=>whnf)))
    refine ⟨_, _, (open_sound given hlen).frame rfl _, ?_⟩; (conv=>whnf);(try(refine ⟨(rfl:(_:Heap)=_),?_⟩;(conv=>whnf)))
    refine ⟨fun h2 => ?_, fun h2 => ?_⟩
    · have g0 : 0 ≤ o.n := by simpa using h2
      (conv=>whnf);(try(refine ⟨(rfl:(_:Heap)=_),?_⟩;(conv=>whnf)))
      have el : ((List.map (fun (n : Nat) => (n : Int)) (openV given)).map Hy.encI).length = (openV given).length := by simp
      rw [el]
      refine ⟨fun h3 => ?_, fun h3 => ?_⟩
      · have g1 : o.n < (openV given).length := by simpa using h3
        obtain ⟨i, a, q1, q2, q3⟩ := taken_in g0 g1
        have r1 : ((List.map (fun (n : Nat) => (n : Int)) (openV given)).map Hy.encI)[o.n.toNat]? = some (Hy.encI (i : Int)) := by rw [List.getElem?_map, List.getElem?_map, q1]; rfl
        have r2 : (given.map encA)[i]? = some (encA a) := by rw [List.getElem?_map, q2]; rfl
        rw [q3]
        (conv=>whnf);(try(refine ⟨(rfl:(_:Heap)=_),?_⟩;(conv=>whnf)))
        refine ⟨g0, _, r1, ?_⟩
        (conv=>whnf);(try(refine ⟨(rfl:(_:Heap)=_),?_⟩;(conv=>whnf)))
        refine ⟨by omega, _, (by rw [toNat_cast]; exact r2), ?_⟩
        (conv=>whnf);(try(refine ⟨(rfl:(_:Heap)=_),?_⟩;(conv=>whnf)))
        refine ⟨_, _, (finish_sound t a).frame rfl _, ?_⟩; (conv=>whnf);(try(refine ⟨(rfl:(_:Heap)=_),?_⟩;(conv=>whnf)))
        exact ⟨.inl rfl, _, .refl _, rfl⟩
      · have g1 : ¬ (0 ≤ o.n ∧ o.n < (openV given).length) := by
          have : ¬ o.n < (openV given).length := by simpa using h3
          omega
        rw [taken_out g1]
        (conv=>whnf);(try(refine ⟨(rfl:(_:Heap)=_),?_⟩;(conv=>whnf)))
        refine ⟨_, _, (finish_sound t ans0).frame rfl _, ?_⟩; (conv=>whnf);(try(refine ⟨(rfl:(_:Heap)=_),?_⟩;(conv=>whnf)))
        exact ⟨.inl rfl, _, .refl _, rfl⟩
    · have g1 : ¬ (0 ≤ o.n ∧ o.n < (openV given).length) := by
        have : ¬ 0 ≤ o.n := by simpa using h2
        omega
      rw [taken_out g1]
      (conv=>whnf);(try(refine ⟨(rfl:(_:Heap)=_),?_⟩;(conv=>whnf)))
      (repeat (first | (refine ⟨fun _ => ?_, fun h => absurd h (by decide)⟩; (conv=>whnf);(try(refine ⟨(rfl:(_:Heap)=_),?_⟩;(conv=>whnf)))) | (refine ⟨fun h => absurd h (by decide), fun _ => ?_⟩; (conv=>whnf);(try(refine ⟨(rfl:(_:Heap)=_),?_⟩;(conv=>whnf))))))
      refine ⟨_, _, (finish_sound t ans0).frame rfl _, ?_⟩; (conv=>whnf);(try(refine ⟨(rfl:(_:Heap)=_),?_⟩;(conv=>whnf)))
      exact ⟨.inl rfl, _, .refl _, rfl⟩
end Go.Beg
namespace Go.Beg
open Go.Ab Go.Proofs Go.Hy Go.Pla
set_option linter.unusedVariables false
set_option linter.unusedSimpArgs false
set_option maxRecDepth 100000
set_option maxHeartbeats 4000000
theorem sameOps_self (o : Opn) : SoundAt Tryz.prog 22 [] [Cop o, Cop o] (Bo true) [] := by
  refine SoundAt.of_wpA1 (fn := Tryz.f22) Tryz.func22 rfl ?_
  conv => whnf
  (repeat (refine ⟨fun _ => ?_, fun h => absurd h (by simp)⟩; (conv=>whnf);(try(refine ⟨(rfl:(_:Heap)=_),?_⟩;(conv=>whnf)))))
  exact ⟨.inl rfl, _, .refl _, rfl⟩
theorem same_self (m : Mac) : SoundAt Tryz.prog 7 [] [Cma m, Cma m] (Bo true) [] := by
  obtain ⟨op, a1, a2, a3, a4, a5, a6, a7, a8, a9, a10, a11, a12, a13, a14, a15, a16, a17⟩ := m
  cases a15
  all_goals
    refine SoundAt.of_wpA1 (fn := Tryz.f7) Tryz.func7 rfl ?_
    conv => whnf
    refine ⟨_, _, (sameOps_self op).frame rfl _, ?_⟩; (conv=>whnf);(try(refine ⟨(rfl:(_:Heap)=_),?_⟩;(conv=>whnf)))
    (repeat (first | (first | (refine ⟨fun _ => ?_, ?_⟩; rotate_left 1; (focus (intro h; simp at h; done)); ((conv=>whnf);(try(refine ⟨(rfl:(_:Heap)=_),?_⟩;(conv=>whnf))))) | (refine ⟨?_, fun _ => ?_⟩; (focus (intro h; simp at h; done)); ((conv=>whnf);(try(refine ⟨(rfl:(_:Heap)=_),?_⟩;(conv=>whnf)))))) | (refine ⟨by kernel_rfl, ?_⟩; (conv=>whnf);(try(refine ⟨(rfl:(_:Heap)=_),?_⟩;(conv=>whnf))))))
    exact ⟨.inl rfl, _, .refl _, rfl⟩
end Go.Beg
namespace Go.Beg
open Go.Ab Go.Proofs Go.Hy Go.Pla
set_option linter.unusedVariables false
set_option linter.unusedSimpArgs false
set_option maxRecDepth 100000
set_option maxHeartbeats 4000000
theorem beginR_sound (t : Int) (o : Opn) (given : List Ans) (hlen : given.length < 1000000000000) : SoundAt Tryz.prog 9 [] [I t, Cop o, lA given] (Cma (beginM t o given)) [] := by
  have m1 : ((openV given).map fun (n : Nat) => [I (n : Int)]).length = (openV given).length := List.length_map ..
  have hl := openN_len given given.length
  have mA : (given.map encA).length = given.length := List.length_map ..
  have eb : o.kind = 2 → beginM t o given = { finishM t (takenA o given) with op := o } := fun h => if_pos h
  have eb2 : o.kind ≠ 2 → beginM t o given = { mac0 with op := o, thread := t, listen := -1 } := fun h => if_neg h
  refine SoundAt.of_wpA1 (fn := Tryz.f9) Tryz.func9 rfl ?_
  conv => whnf
  refine ⟨fun hk => ?_, fun hk => ?_⟩
  · have h1 : o.kind ≠ 2 := by simpa using hk
    rw [eb2 h1]
    (conv=>whnf);(try(refine ⟨(rfl:(_:Heap)=_),?_⟩;(conv=>whnf)))
    exact ⟨.inl rfl, _, .refl _, rfl⟩
  · have h1 : o.kind = 2 := by simpa using hk
    rw [eb h1]
    (conv=>whnf);(try(refine ⟨(rfl:(_:Heap)=_),?_⟩;(conv=>whnf)))
    refine ⟨_, _, (openR_sound given hlen).frame rfl _, ?_⟩; (conv=>whnf);(try(refine ⟨(rfl:(_:Heap)=_),?_⟩;(conv=>whnf)))
    refine ⟨fun h2 => ?_, fun h2 => ?_⟩
    · have g0 : 0 ≤ o.n := by simpa using h2
      (conv=>whnf);(try(refine ⟨(rfl:(_:Heap)=_),?_⟩;(conv=>whnf)))
      have el : ((List.map (fun (n : Nat) => (n : Int)) (openV given)).map Hy.encI).length = (openV given).length := by simp
      rw [el]
      refine ⟨fun h3 => ?_, fun h3 => ?_⟩
      · have g1 : o.n < (openV given).length := by simpa using h3
        obtain ⟨i, a, q1, q2, q3⟩ := taken_in g0 g1
        have r1 : ((List.map (fun (n : Nat) => (n : Int)) (openV given)).map Hy.encI)[o.n.toNat]? = some (Hy.encI (i : Int)) := by rw [List.getElem?_map, List.getElem?_map, q1]; rfl
        have r2 : (given.map encA)[i]? = some (encA a) := by rw [List.getElem?_map, q2]; rfl
        rw [q3]
        (conv=>whnf);(try(refine ⟨(rfl:(_:Heap)=_),?_⟩;(conv=>whnf)))
        refine ⟨g0, _, r1, ?_⟩
        (conv=>whnf);(try(refine ⟨(rfl:(_:Heap)=_),?_⟩;(conv=>whnf)))
        refine ⟨by omega, _, (by rw [toNat_cast]; exact r2), ?_⟩
        (conv=>whnf);(try(refine ⟨(rfl:(_:Heap)=_),?_⟩;(conv=>whnf)))
        refine ⟨_, _, (finishR_sound t a).frame rfl _, ?_⟩; (conv=>whnf);(try(refine ⟨(rfl:(_:Heap)=_),?_⟩;(conv=>whnf)))
        exact ⟨.inl rfl, _, .refl _, rfl⟩
      · have g1 : ¬ (0 ≤ o.n ∧ o.n < (openV given).length) := by
          have : ¬ o.n < (openV given).length := by simpa using h3
          omega
        rw [taken_out g1]
        (conv=>whnf);(try(refine ⟨(rfl:(_:Heap)=_),?_⟩;(conv=>whnf)))
        refine ⟨_, _, (finishR_sound t ans0).frame rfl _, ?_⟩; (conv=>whnf);(try(refine ⟨(rfl:(_:Heap)=_),?_⟩;(conv=>whnf)))
        exact ⟨.inl rfl, _, .refl _, rfl⟩
    · have g1 : ¬ (0 ≤ o.n ∧ o.n < (openV given).length) := by
        have : ¬ 0 ≤ o.n := by simpa using h2
        omega
      rw [taken_out g1]
      (conv=>whnf);(try(refine ⟨(rfl:(_:Heap)=_),?_⟩;(conv=>whnf)))
      (repeat (first | (refine ⟨fun _ => ?_, fun h => absurd h (by decide)⟩; (conv=>whnf);(try(refine ⟨(rfl:(_:Heap)=_),?_⟩;(conv=>whnf)))) | (refine ⟨fun h => absurd h (by decide), fun _ => ?_⟩; (conv=>whnf);(try(refine ⟨(rfl:(_:Heap)=_),?_⟩;(conv=>whnf))))))
      refine ⟨_, _, (finishR_sound t ans0).frame rfl _, ?_⟩; (conv=>whnf);(try(refine ⟨(rfl:(_:Heap)=_),?_⟩;(conv=>whnf)))
      exact ⟨.inl rfl, _, .refl _, rfl⟩
end Go.Beg
namespace Go.Beg
open Go.Ab Go.Proofs Go.Hy Go.Pla
set_option linter.unusedVariables false
set_option linter.unusedSimpArgs false
set_option maxRecDepth 100000
set_option maxHeartbeats 4000000
theorem begins_sound (hp : SoundAt Tryz.prog 6 [] [] (Bo true) []) (t : Int) (o : Opn) (given : List Ans) : SoundAt Tryz.prog 3 [] [I t, Cop o, lA given] (Bo true) [] := by
  have mA : (given.map encA).length = given.length := List.length_map ..
  refine SoundAt.of_wpA1 (fn := Tryz.f3) Tryz.func3 rfl ?_
  conv => whnf
  rw [mA]
  refine ⟨fun h1 => ?_, fun h1 => ?_⟩
  · (conv=>whnf);(try(refine ⟨(rfl:(_:Heap)=_),?_⟩;(conv=>whnf)))
    exact ⟨.inl rfl, _, .refl _, rfl⟩
  · have hlen : ¬ (100 : Int) < given.length := by simpa using h1
    have hl := openN_len given given.length
    have hlo : ((openV given).map fun (n : Nat) => (n : Int)).length < 4611686018427387904 := by
      rw [List.length_map]
      unfold openV
      omega
    (conv=>whnf);(try(refine ⟨(rfl:(_:Heap)=_),?_⟩;(conv=>whnf)))
    refine .inl ⟨⟨false, [], [], []⟩, by kernel_rfl, ?_⟩; (conv => whnf)
    refine ⟨_, _, (hp).frame rfl _, ?_⟩; (conv=>whnf);(try(refine ⟨(rfl:(_:Heap)=_),?_⟩;(conv=>whnf)))
    (repeat (first | (refine ⟨fun _ => ?_, fun h => absurd h (by decide)⟩; (conv=>whnf);(try(refine ⟨(rfl:(_:Heap)=_),?_⟩;(conv=>whnf)))) | (refine ⟨fun h => absurd h (by decide), fun _ => ?_⟩; (conv=>whnf);(try(refine ⟨(rfl:(_:Heap)=_),?_⟩;(conv=>whnf))))))
    refine ⟨_, _, (begin_sound t o given (by omega)).frame rfl _, ?_⟩; (conv=>whnf);(try(refine ⟨(rfl:(_:Heap)=_),?_⟩;(conv=>whnf)))
    refine ⟨_, _, (beginR_sound t o given (by omega)).frame rfl _, ?_⟩; (conv=>whnf);(try(refine ⟨(rfl:(_:Heap)=_),?_⟩;(conv=>whnf)))
    refine ⟨_, _, (same_self (beginM t o given)).frame rfl _, ?_⟩; (conv=>whnf);(try(refine ⟨(rfl:(_:Heap)=_),?_⟩;(conv=>whnf)))
    (repeat (first | (refine ⟨fun _ => ?_, fun h => absurd h (by decide)⟩; (conv=>whnf);(try(refine ⟨(rfl:(_:Heap)=_),?_⟩;(conv=>whnf)))) | (refine ⟨fun h => absurd h (by decide), fun _ => ?_⟩; (conv=>whnf);(try(refine ⟨(rfl:(_:Heap)=_),?_⟩;(conv=>whnf))))))
    refine ⟨_, _, (open_sound given (by omega)).frame rfl _, ?_⟩; (conv=>whnf);(try(refine ⟨(rfl:(_:Heap)=_),?_⟩;(conv=>whnf)))
    refine ⟨_, _, (openR_sound given (by omega)).frame rfl _, ?_⟩; (conv=>whnf);(try(refine ⟨(rfl:(_:Heap)=_),?_⟩;(conv=>whnf)))
    refine ⟨_, _, (Slp.sameI_sound _ _ hlo hlo).frame rfl _, ?_⟩; (conv=>whnf);(try(refine ⟨(rfl:(_:Heap)=_),?_⟩;(conv=>whnf)))
    refine ⟨fun _ => ?_, fun h => absurd h (by simp)⟩; (conv=>whnf);(try(refine ⟨(rfl:(_:Heap)=_),?_⟩;(conv=>whnf)))
    exact ⟨.inl rfl, _, .refl _, rfl⟩
end Go.Beg
namespace Go.Pla
open Go.Ab Go.Proofs Go.Hy
set_option linter.unusedVariables false
set_option linter.unusedSimpArgs false
set_option maxRecDepth 100000
set_option maxHeartbeats 4000000
theorem of1_sound : SoundAt Tryz.prog 46 [] [I 1] (.ifc 130 (.fn 62 [] [])) [] := by
  refine SoundAt.of_wpA1 (fn := Tryz.f46) Tryz.func46 rfl ?_; (conv => whnf); (repeat (first | (refine ⟨fun _ => ?_, fun h => absurd h (by decide)⟩; (conv=>whnf);(try(refine ⟨(rfl:(_:Heap)=_),?_⟩;(conv=>whnf)))) | (refine ⟨fun h => absurd h (by decide), fun _ => ?_⟩; (conv=>whnf);(try(refine ⟨(rfl:(_:Heap)=_),?_⟩;(conv=>whnf)))))); (refine ⟨by decide, _, rfl, ?_⟩); (conv=>whnf);(try(refine ⟨(rfl:(_:Heap)=_),?_⟩;(conv=>whnf))); exact ⟨.inl rfl, _, .refl _, rfl⟩
theorem of2_sound : SoundAt Tryz.prog 46 [] [I 2] (.ifc 130 (.fn 63 [] [])) [] := by
  refine SoundAt.of_wpA1 (fn := Tryz.f46) Tryz.func46 rfl ?_; (conv => whnf); (repeat (first | (refine ⟨fun _ => ?_, fun h => absurd h (by decide)⟩; (conv=>whnf);(try(refine ⟨(rfl:(_:Heap)=_),?_⟩;(conv=>whnf)))) | (refine ⟨fun h => absurd h (by decide), fun _ => ?_⟩; (conv=>whnf);(try(refine ⟨(rfl:(_:Heap)=_),?_⟩;(conv=>whnf)))))); (refine ⟨by decide, _, rfl, ?_⟩); (conv=>whnf);(try(refine ⟨(rfl:(_:Heap)=_),?_⟩;(conv=>whnf))); exact ⟨.inl rfl, _, .refl _, rfl⟩
theorem of6_sound : SoundAt Tryz.prog 46 [] [I 6] (.ifc 130 (.fn 67 [] [])) [] := by
  refine SoundAt.of_wpA1 (fn := Tryz.f46) Tryz.func46 rfl ?_; (conv => whnf); (repeat (first | (refine ⟨fun _ => ?_, fun h => absurd h (by decide)⟩; (conv=>whnf);(try(refine ⟨(rfl:(_:Heap)=_),?_⟩;(conv=>whnf)))) | (refine ⟨fun h => absurd h (by decide), fun _ => ?_⟩; (conv=>whnf);(try(refine ⟨(rfl:(_:Heap)=_),?_⟩;(conv=>whnf)))))); (refine ⟨by decide, _, rfl, ?_⟩); (conv=>whnf);(try(refine ⟨(rfl:(_:Heap)=_),?_⟩;(conv=>whnf))); exact ⟨.inl rfl, _, .refl _, rfl⟩
end Go.Pla
namespace Go.Pla
open Go.Ab Go.Proofs Go.Hy
set_option linter.unusedVariables false
set_option linter.unusedSimpArgs false
set_option maxRecDepth 100000
set_option maxHeartbeats 4000000
abbrev Sw (w : Wor) : C := .agg (encW w)
abbrev Sm (m : Mac) : C := .agg (encM m)
abbrev Se (e : Eve) : C := .agg (encEv e)
abbrev Sr (w : Wor) (m : Mac) (e : Eve) : C := .tup [Sw w, Sm m, Se e]
theorem way1_sound {w w' : Wor} {m m' : Mac} {e : Eve} (h : SoundAt Tryz.prog 62 [] [Sw w, Sm m] (Sr w' m' e) []) : SoundAt Tryz.prog 217 [] [.fn 62 [] [], Sw w, Sm m] (Sr w' m' e) [] := by
  refine SoundAt.of_wpA1 (fn := Tryz.f217) Tryz.func217 rfl ?_; (conv => whnf); refine ⟨_, _, (h).frame rfl _, ?_⟩; (conv=>whnf);(try(refine ⟨(rfl:(_:Heap)=_),?_⟩;(conv=>whnf))); exact ⟨.inl rfl, _, .refl _, rfl⟩
theorem step1_sound {w w' : Wor} {m m' : Mac} {e : Eve} (hk : m.op.kind = 1) (h : SoundAt Tryz.prog 62 [] [Sw w, Sm m] (Sr w' m' e) []) : SoundAt Tryz.prog 32 [] [Sw w, Sm m] (Sr w' m' e) [] := by
  (have ho := of1_sound); (rw [← hk] at ho); refine SoundAt.of_wpA1 (fn := Tryz.f32) Tryz.func32 rfl ?_; (conv => whnf); refine ⟨_, _, (ho).frame rfl _, ?_⟩; (conv=>whnf);(try(refine ⟨(rfl:(_:Heap)=_),?_⟩;(conv=>whnf))); (repeat (first | (refine ⟨fun _ => ?_, fun h => absurd h (by decide)⟩; (conv=>whnf);(try(refine ⟨(rfl:(_:Heap)=_),?_⟩;(conv=>whnf)))) | (refine ⟨fun h => absurd h (by decide), fun _ => ?_⟩; (conv=>whnf);(try(refine ⟨(rfl:(_:Heap)=_),?_⟩;(conv=>whnf)))))); (refine ⟨217, by kernel_rfl, rfl, _, _, (way1_sound h).frame rfl _, ?_⟩); (conv=>whnf);(try(refine ⟨(rfl:(_:Heap)=_),?_⟩;(conv=>whnf))); exact ⟨.inl rfl, _, .refl _, rfl⟩
theorem way2_sound {w w' : Wor} {m m' : Mac} {e : Eve} (h : SoundAt Tryz.prog 63 [] [Sw w, Sm m] (Sr w' m' e) []) : SoundAt Tryz.prog 217 [] [.fn 63 [] [], Sw w, Sm m] (Sr w' m' e) [] := by
  refine SoundAt.of_wpA1 (fn := Tryz.f217) Tryz.func217 rfl ?_; (conv => whnf); refine ⟨_, _, (h).frame rfl _, ?_⟩; (conv=>whnf);(try(refine ⟨(rfl:(_:Heap)=_),?_⟩;(conv=>whnf))); exact ⟨.inl rfl, _, .refl _, rfl⟩
theorem step2_sound {w w' : Wor} {m m' : Mac} {e : Eve} (hk : m.op.kind = 2) (h : SoundAt Tryz.prog 63 [] [Sw w, Sm m] (Sr w' m' e) []) : SoundAt Tryz.prog 32 [] [Sw w, Sm m] (Sr w' m' e) [] := by
  (have ho := of2_sound); (rw [← hk] at ho); refine SoundAt.of_wpA1 (fn := Tryz.f32) Tryz.func32 rfl ?_; (conv => whnf); refine ⟨_, _, (ho).frame rfl _, ?_⟩; (conv=>whnf);(try(refine ⟨(rfl:(_:Heap)=_),?_⟩;(conv=>whnf))); (repeat (first | (refine ⟨fun _ => ?_, fun h => absurd h (by decide)⟩; (conv=>whnf);(try(refine ⟨(rfl:(_:Heap)=_),?_⟩;(conv=>whnf)))) | (refine ⟨fun h => absurd h (by decide), fun _ => ?_⟩; (conv=>whnf);(try(refine ⟨(rfl:(_:Heap)=_),?_⟩;(conv=>whnf)))))); (refine ⟨217, by kernel_rfl, rfl, _, _, (way2_sound h).frame rfl _, ?_⟩); (conv=>whnf);(try(refine ⟨(rfl:(_:Heap)=_),?_⟩;(conv=>whnf))); exact ⟨.inl rfl, _, .refl _, rfl⟩
theorem way6_sound {w w' : Wor} {m m' : Mac} {e : Eve} (h : SoundAt Tryz.prog 67 [] [Sw w, Sm m] (Sr w' m' e) []) : SoundAt Tryz.prog 217 [] [.fn 67 [] [], Sw w, Sm m] (Sr w' m' e) [] := by
  refine SoundAt.of_wpA1 (fn := Tryz.f217) Tryz.func217 rfl ?_; (conv => whnf); refine ⟨_, _, (h).frame rfl _, ?_⟩; (conv=>whnf);(try(refine ⟨(rfl:(_:Heap)=_),?_⟩;(conv=>whnf))); exact ⟨.inl rfl, _, .refl _, rfl⟩
theorem step6_sound {w w' : Wor} {m m' : Mac} {e : Eve} (hk : m.op.kind = 6) (h : SoundAt Tryz.prog 67 [] [Sw w, Sm m] (Sr w' m' e) []) : SoundAt Tryz.prog 32 [] [Sw w, Sm m] (Sr w' m' e) [] := by
  (have ho := of6_sound); (rw [← hk] at ho); refine SoundAt.of_wpA1 (fn := Tryz.f32) Tryz.func32 rfl ?_; (conv => whnf); refine ⟨_, _, (ho).frame rfl _, ?_⟩; (conv=>whnf);(try(refine ⟨(rfl:(_:Heap)=_),?_⟩;(conv=>whnf))); (repeat (first | (refine ⟨fun _ => ?_, fun h => absurd h (by decide)⟩; (conv=>whnf);(try(refine ⟨(rfl:(_:Heap)=_),?_⟩;(conv=>whnf)))) | (refine ⟨fun h => absurd h (by decide), fun _ => ?_⟩; (conv=>whnf);(try(refine ⟨(rfl:(_:Heap)=_),?_⟩;(conv=>whnf)))))); (refine ⟨217, by kernel_rfl, rfl, _, _, (way6_sound h).frame rfl _, ?_⟩); (conv=>whnf);(try(refine ⟨(rfl:(_:Heap)=_),?_⟩;(conv=>whnf))); exact ⟨.inl rfl, _, .refl _, rfl⟩
abbrev eve0 : Eve := ⟨0, 0, 0, 0, 0, false, 0, false, false, false, ⟨0, 0, 0, 0, 0, 0, 0, six0⟩⟩
end Go.Pla
namespace Go.Pla
open Go.Ab Go.Proofs Go.Hy
set_option linter.unusedVariables false
set_option linter.unusedSimpArgs false
set_option maxRecDepth 100000
set_option maxHeartbeats 4000000
inductive Goes : Nat → Wor → Mac → Wor → Mac → Prop
  | last {w w' : Wor} {m m' : Mac} {e : Eve} (h : SoundAt Tryz.prog 32 [] [Sw w, Sm m] (Sr w' m' e) []) (he : e.access ≠ 0) (hd : m'.done = true) : Goes 1 w m w' m'
  | more {n : Nat} {w w' w2 : Wor} {m m' m2 : Mac} {e : Eve} (h : SoundAt Tryz.prog 32 [] [Sw w, Sm m] (Sr w' m' e) []) (he : e.access ≠ 0) (hd : m'.done = false) (hg : Goes n w' m' w2 m2) : Goes (n + 1) w m w2 m2
theorem alone_sound {n : Nat} {w w' : Wor} {m m' : Mac} (hg : Goes n w m w' m') (hn : n ≤ 3000) : SoundAt Tryz.prog 17 [] [Sw w, Sm m] (.tup [Sw w', .agg (encA m'.answer), Bo true]) [] := by
  refine SoundAt.of_wpA1 (fn := Tryz.f17) Tryz.func17 rfl ?_
  conv => whnf
  refine Loops.inv (fun i t1 H1 => ∃ (k : Nat) (wk : Wor) (mk : Mac), k + i = n ∧ Goes i wk mk w' m' ∧ t1 = [.junk, .junk, .ref 0 [] 8 0 0, .ref 1 [] 44 0 0, .ref 2 [] 8 0 0, .ref 3 [] 13 0 0, Bo false, I k, .junk, .junk, .junk, .junk, .junk, .junk, .junk, .junk, .junk, .junk, .junk, .junk, .junk, .junk, .junk, .junk, .junk, .junk, .junk, .junk, .junk, .junk, .junk, .junk, .junk, .junk, .junk, .junk, .junk, .junk] ∧ H1 = [⟨1, 48, 8, [encW (wk)], 0⟩, ⟨1, 37, 44, [encM (mk)], 0⟩, ⟨1, 48, 8, [[I 0, I 0, I 0, .lst 1 0 [], .lst 1 0 [], .lst 1 0 [], .lst 1 0 [], .lst 1 0 []]], 0⟩, ⟨1, 35, 13, [encA ⟨0, 0, 0, 0, 0, 0, 0, six0⟩], 0⟩]) n ?_ ?_
  · exact ⟨_, _, Weak.cov (by (conv => whnf); (repeat (refine ⟨rfl, ?_⟩; (conv => whnf))); exact trivial), 0, w, m, by simp, hg, rfl, rfl⟩
  rintro i _ _ ⟨k, wk, mk, hk, hg, rfl, rfl⟩
  have hi : 1 ≤ i := by cases hg <;> omega
  conv => whnf
  (refine ⟨fun _ => ?_, fun h => absurd h (by simp; omega)⟩); (conv=>whnf);(try(refine ⟨(rfl:(_:Heap)=_),?_⟩;(conv=>whnf)))
  cases hg with
  | last h he hd =>
    refine ⟨_, _, (h).frame rfl _, ?_⟩; (conv=>whnf);(try(refine ⟨(rfl:(_:Heap)=_),?_⟩;(conv=>whnf)))
    refine ⟨fun h => absurd h (by simpa using he), fun _ => ?_⟩
    (conv=>whnf);(try(refine ⟨(rfl:(_:Heap)=_),?_⟩;(conv=>whnf)))
    refine ⟨fun _ => ?_, fun h => absurd ((hd).symm.trans h : true = false) (by decide)⟩; (conv=>whnf);(try(refine ⟨(rfl:(_:Heap)=_),?_⟩;(conv=>whnf)))
    refine .inl ⟨⟨false, [0, 2], [0, 1], []⟩, by kernel_rfl, ?_⟩; (conv => whnf)
    repeat (refine ⟨rfl, ?_⟩; ((conv=>whnf);(try(refine ⟨(rfl:(_:Heap)=_),?_⟩;(conv=>whnf)))))
    refine .inr ⟨by simp, ?_⟩
    conv => whnf
    exact ⟨.inl rfl, _, .refl _, rfl⟩
  | more h he hd hg =>
    refine ⟨_, _, (h).frame rfl _, ?_⟩; (conv=>whnf);(try(refine ⟨(rfl:(_:Heap)=_),?_⟩;(conv=>whnf)))
    refine ⟨fun h => absurd h (by simpa using he), fun _ => ?_⟩
    (conv=>whnf);(try(refine ⟨(rfl:(_:Heap)=_),?_⟩;(conv=>whnf)))
    refine ⟨fun h => absurd ((hd).symm.trans h : false = true) (by decide), fun _ => ?_⟩; (conv=>whnf);(try(refine ⟨(rfl:(_:Heap)=_),?_⟩;(conv=>whnf)))
    rw [i64_nat (by omega)]
    exact .inl ⟨rfl, _, _, _, Nat.lt_succ_self _, Weak.covD 4 (by (conv => whnf); (repeat (refine ⟨rfl, ?_⟩; (conv => whnf))); exact trivial) rfl rfl rfl rfl rfl, k + 1, _, _, by omega, hg, rfl, rfl⟩
end Go.Pla
namespace Go.Dep
open Go.Ab
set_option linter.unusedVariables false
set_option linter.unusedSimpArgs false
set_option maxRecDepth 100000
set_option maxHeartbeats 4000000
def deepC : Nat → C → C
  | 0, c => c
  | k + 1, c => match c with
    | .lst o sz rows => match rows with
      | [] => .lst (if o = 2 then 2 else 0) 0 []
      | r :: rs => .lst (if o = 2 then 2 else 0) sz (r.map (deepC k) :: rs.map fun r => r.map (deepC k))
    | .agg cs => .agg (cs.map (deepC k))
    | c => c
theorem deepC_lst (k o sz : Nat) (rows : List (List C)) (h : rows ≠ []) : deepC (k + 1) (.lst o sz rows) = .lst (if o = 2 then 2 else 0) sz (rows.map fun r => r.map (deepC k)) := by
  cases rows with
  | nil => exact absurd rfl h
  | cons r rs => rfl
theorem cells_map {f : C → C} {rows : List (List C)} {i j : Nat} {r : List C} {c : C} (h1 : (rows.map fun r => r.map f)[i]? = some r) (h2 : r[j]? = some c) : ∃ r0 c0, rows[i]? = some r0 ∧ r0[j]? = some c0 ∧ c = f c0 := by
  rw [List.getElem?_map] at h1
  cases h3 : rows[i]? with
  | none => rw [h3] at h1; cases h1
  | some r0 =>
    rw [h3] at h1
    cases h1
    rw [List.getElem?_map] at h2
    cases h4 : r0[j]? with
    | none => rw [h4] at h2; cases h2
    | some c0 => rw [h4] at h2; cases h2; exact ⟨r0, c0, rfl, h4, rfl⟩
theorem deepC_L : ∀ (k : Nat) {E : Env} {c : C} {y : Value}, L E c y → L E (deepC k c) y := by
  intro k
  induction k with
  | zero => intro E c y h; exact h
  | succ k ih =>
    intro E c y h
    cases h with
    | lst o sz rows b off cap us ho hc hsz hst hL =>
      have ho2 : o ≠ 2 := by rcases ho with h | h <;> omega
      by_cases hr : rows = []
      · subst hr
        have e : deepC (k + 1) (.lst o sz []) = .lst 0 0 [] := by show C.lst (if o = 2 then 2 else 0) 0 _ = _; rw [if_neg ho2]
        rw [e]
        exact .lst 0 0 [] b off cap us (.inl rfl) hc (fun r hr => by cases hr) (fun i r j c h1 h2 => by simp at h1) (fun i r j c h1 h2 => by simp at h1)
      rw [deepC_lst k o sz rows hr, if_neg ho2]
      have := L.lst (E := E) 0 sz (rows.map fun r => r.map (deepC k)) b off cap us (.inl rfl) (by simpa using hc)
        (fun r hr => by obtain ⟨r0, h1, rfl⟩ := List.mem_map.1 hr; simpa using hsz r0 h1)
        (fun i r j c h1 h2 => by obtain ⟨r0, c0, h3, h4, rfl⟩ := cells_map h1 h2; exact hst i r0 j c0 h3 h4)
        (fun i r j c h1 h2 => by obtain ⟨r0, c0, h3, h4, rfl⟩ := cells_map h1 h2; exact ih (hL i r0 j c0 h3 h4))
      rw [List.length_map] at this
      exact this
    | lnil o sz ho a =>
      have ho2 : o ≠ 2 := by rcases ho with h | h <;> omega
      have e : deepC (k + 1) (.lst o sz []) = .lst 0 0 [] := by show C.lst (if o = 2 then 2 else 0) 0 _ = _; rw [if_neg ho2]
      rw [e]
      exact .lnil 0 0 (.inl rfl) a
    | agg cs ys h1 h2 h3 =>
      have := LL.ren (f := deepC k) (E' := E) (cs := cs) (ys := ys.toList) ⟨by simpa using h1, fun i c y e1 e2 => h2 i c y e1 (by simpa using e2)⟩ (fun c y hl => ih hl)
      exact .agg _ ys (by simpa using this.1) (fun i c y e1 e2 => this.2 i c y e1 (by simpa using e2)) h3
    | v x hx => exact .v _ hx
    | sref cells b off us hst hL => exact .sref cells b off us hst hL
    | ref id hops sz i j hn => exact .ref id hops sz i j hn
    | sl id hops sz lo len full cap hn hlen hf hf' => exact .sl id hops sz lo len full cap hn hlen hf hf'
    | fn f first caps ys zs h1 h2 h3 h4 => exact .fn f first caps ys zs h1 h2 h3 h4
    | mp id hn => exact .mp id hn
    | tup cs ys h1 h2 => exact .tup cs ys h1 h2
    | un => exact .un
    | junk y => exact .junk y
    | gl id sz rows y hn hg h => exact .gl id sz rows y hn hg h
    | ifc t c y h => exact .ifc t c y h
def plainB : Nat → C → Bool
  | 0, _ => true
  | k + 1, c => match c with
    | .lst o _ rows => o == 0 && rows.all fun r => r.all (plainB k)
    | .agg cs => cs.all (plainB k)
    | _ => true
theorem deepC_back : ∀ (k : Nat) {E : Env} {c : C} {y : Value}, plainB k c = true → L E (deepC k c) y → L E c y := by
  intro k
  induction k with
  | zero => intro E c y _ h; exact h
  | succ k ih =>
    intro E c y hp h
    cases c with
    | lst o sz rows =>
      simp only [plainB, Bool.and_eq_true, beq_iff_eq, List.all_eq_true] at hp
      obtain ⟨rfl, hp⟩ := hp
      by_cases hr : rows = []
      · subst hr
        have h : L E (.lst 0 0 []) y := h
        exact WC.none 0 0 sz E y h
      rw [deepC_lst k 0 sz rows hr, if_neg (by decide)] at h
      generalize hgr : (rows.map fun r => r.map (deepC k)) = rows' at h
      cases h with
      | lst _ _ _ b off cap us ho hc hsz hst hL =>
        subst hgr
        have back : ∀ {i : Nat} {r : List C} {j : Nat} {c : C}, rows[i]? = some r → r[j]? = some c → (rows.map fun r => r.map (deepC k))[i]? = some (r.map (deepC k)) ∧ (r.map (deepC k))[j]? = some (deepC k c) := fun h1 h2 => by
          rw [List.getElem?_map, h1, List.getElem?_map, h2]; exact ⟨rfl, rfl⟩
        have := L.lst (E := E) 0 sz rows b off cap us (.inl rfl) (by simpa using hc)
          (fun r hr => by have := hsz _ (List.mem_map_of_mem (f := fun r => r.map (deepC k)) hr); simpa using this)
          (fun i r j c h1 h2 => hst i _ j _ (back h1 h2).1 (back h1 h2).2)
          (fun i r j c h1 h2 => ih (hp r (List.mem_of_getElem? h1) c (List.mem_of_getElem? h2)) (hL i _ j _ (back h1 h2).1 (back h1 h2).2))
        rw [List.length_map]
        exact this
      | lnil o sz ho a => exact absurd (List.map_eq_nil_iff.1 hgr) hr
    | agg cs =>
      have hp : cs.all (plainB k) = true := hp
      rw [List.all_eq_true] at hp
      have h : L E (.agg (cs.map (deepC k))) y := h
      generalize hg : cs.map (deepC k) = cs' at h
      cases h with
      | agg _ ys h1 h2 h3 =>
        subst hg
        refine .agg cs ys (by simpa using h1) (fun i c y e1 e2 => ih (hp c (List.mem_of_getElem? e1)) (h2 i _ y (by rw [List.getElem?_map, e1]; rfl) e2)) h3
    | _ => exact h
theorem SoundAt.deepA {P : Program} {f : FuncId} {H H' : Heap} {args args' : List C} {r : C} (k : Nat) (h : SoundAt P f H args r H') (hp : args.all (plainB k) = true) (ha : args'.map (deepC k) = args.map (deepC k)) : SoundAt P f H args' r H' := fun w E vs hh hl =>
  h w E vs hh ⟨by have := congrArg List.length ha; simp at this; rw [← this]; exact hl.1, fun i c y e1 e2 => by
    have e3 : (args'.map (deepC k))[i]? = some (deepC k c) := by rw [ha, List.getElem?_map, e1]; rfl
    rw [List.getElem?_map] at e3
    cases hx : args'[i]? with
    | none => rw [hx] at e3; cases e3
    | some c' =>
      rw [hx] at e3
      simp only [Option.map_some, Option.some.injEq] at e3
      exact deepC_back k (List.all_eq_true.1 hp c (List.mem_of_getElem? e1)) (e3 ▸ deepC_L k (hl.2 i c' y hx e2))⟩
end Go.Dep
