/- Layer 29 (linear): the reference's Check, walked (seat Great). -/
import Derived.Test.YtbndjpkncgfpiaaGreatQM
namespace Go.Lin
open Go.Ab Go.Proofs Go.Hy Go.Gat Go.Nam Go.Hos Go.Con Go.Sna Go.Cal
set_option linter.unusedVariables false
set_option linter.unusedSimpArgs false
set_option maxRecDepth 100000
set_option maxHeartbeats 4000000

theorem has_sound (s : Scr) (c : Cal) : SoundAt Tryz.prog 18 [] [Csc s, Ccl c] (Bo (!foreignV s c)) [] := by
  have m1 : (s.threads.map encOps).length = s.threads.length := List.length_map ..
  refine SoundAt.of_wpA1 (fn := Tryz.f18) Tryz.func18 rfl ?_
  conv => whnf
  refine ⟨⟨false, [24], [], []⟩, by kernel_rfl, ?_⟩; (conv => whnf)
  refine ⟨fun h1 => ?_, fun h1 => ?_⟩
  rotate_left
  · have f : foreignV s c = true := by unfold foreignV; rw [show decide (c.thread < 0) = true from by simp at h1 ⊢; omega]; rfl
    rw [f]
    (conv => whnf); (try (refine ⟨(rfl : (_ : Heap) = _), ?_⟩; (conv => whnf)))
    exact ⟨.inl rfl, _, .refl _, rfl⟩
  have g1 : decide (c.thread < 0) = false := by simp at h1 ⊢; omega
  (conv => whnf); (try (refine ⟨(rfl : (_ : Heap) = _), ?_⟩; (conv => whnf)))
  rw [m1]
  refine ⟨fun h2 => ?_, fun h2 => ?_⟩
  rotate_left
  · have f : foreignV s c = true := by unfold foreignV; rw [g1, show decide (c.thread ≥ (s.threads.length : Int)) = true from by simp at h2 ⊢; omega]; rfl
    rw [f]
    (conv => whnf); (try (refine ⟨(rfl : (_ : Heap) = _), ?_⟩; (conv => whnf)))
    exact ⟨.inl rfl, _, .refl _, rfl⟩
  have g2 : decide (c.thread ≥ (s.threads.length : Int)) = false := by simp at h2 ⊢; omega
  (conv => whnf); (try (refine ⟨(rfl : (_ : Heap) = _), ?_⟩; (conv => whnf)))
  refine ⟨fun h3 => ?_, fun h3 => ?_⟩
  rotate_left
  · have f : foreignV s c = true := by unfold foreignV; rw [g1, g2, show decide (c.op < 0) = true from by simp at h3 ⊢; omega]; rfl
    rw [f]
    (conv => whnf); (try (refine ⟨(rfl : (_ : Heap) = _), ?_⟩; (conv => whnf)))
    exact ⟨.inl rfl, _, .refl _, rfl⟩
  have g3 : decide (c.op < 0) = false := by simp at h3 ⊢; omega
  have ht : c.thread.toNat < s.threads.length := by simp at h1 h2; omega
  have e1 := List.getElem?_eq_getElem ht
  have hg : (s.threads.map encOps)[c.thread.toNat]? = some (encOps s.threads[c.thread.toNat]) := by rw [List.getElem?_map, e1]; rfl
  have m2 : (s.threads[c.thread.toNat].map encP).length = s.threads[c.thread.toNat].length := List.length_map ..
  have e2 : foreignV s c = decide (c.op ≥ (s.threads[c.thread.toNat].length : Int)) := by unfold foreignV; rw [g1, g2, g3, e1]; rfl
  rw [e2]
  (conv => whnf); (try (refine ⟨(rfl : (_ : Heap) = _), ?_⟩; (conv => whnf)))
  refine ⟨by simp at h1; omega, _, hg, ?_⟩
  (conv => whnf); (try (refine ⟨(rfl : (_ : Heap) = _), ?_⟩; (conv => whnf)))
  rw [m2]
  refine ⟨fun h4 => ?_, fun h4 => ?_⟩
  · have f : (!decide (c.op ≥ (s.threads[c.thread.toNat].length : Int))) = true := by simp at h4 ⊢; omega
    rw [f]
    (conv => whnf); (try (refine ⟨(rfl : (_ : Heap) = _), ?_⟩; (conv => whnf)))
    exact ⟨.inl rfl, _, .refl _, rfl⟩
  · have f : (!decide (c.op ≥ (s.threads[c.thread.toNat].length : Int))) = false := by simp at h4 ⊢; omega
    rw [f]
    (conv => whnf); (try (refine ⟨(rfl : (_ : Heap) = _), ?_⟩; (conv => whnf)))
    exact ⟨.inl rfl, _, .refl _, rfl⟩

theorem rcheck29_sound (s : Scr) (l : List Eve) (hs : SmallScr s) (hl : l.length ≤ 1000000) : SoundAt Tryz.prog 6 [] [Csc s, lEv l] (.tup [I (chkV s l (Cal.ofV l)).1, Bo (chkV s l (Cal.ofV l)).2]) [] := by
  have hlm : (l.map encEv).length = l.length := List.length_map ..
  have ro := refOf_sound l (by omega)
  rw [ref_of l] at ro
  refine SoundAt.of_wpA1 (fn := Tryz.f6) Tryz.func6 rfl ?_
  conv => whnf
  refine ⟨_, _, (ro).frame rfl _, ?_⟩; (conv => whnf); (try (refine ⟨(rfl : (_ : Heap) = _), ?_⟩; (conv => whnf)))
  by_cases hb : (buildV s.first).2.1 = 0
  rotate_left
  · refine callPartR [] (Go.Ab.SoundAt.toR (R := fun r H' => r = .tup [.v (.pointer none), I (buildV s.first).2.1] ∧ H' = []) (rnewNo_sound s.first hs.first hb) ⟨rfl, rfl⟩) (fun r H' h => by obtain ⟨_, rfl⟩ := h; rfl) rfl rfl rfl rfl rfl ?_
    rintro _ _ ⟨rfl, rfl⟩
    have er : chkV s l (Cal.ofV l) = (0, false) := by unfold chkV; rw [if_pos (.inr (.inl hb))]
    rw [er]
    conv => whnf
    refine ⟨fun h1 => ?_, fun h1 => ?_⟩
    · (conv => whnf); (try (refine ⟨(rfl : (_ : Heap) = _), ?_⟩; (conv => whnf)))
      exact ⟨.inl rfl, _, .refl _, rfl⟩
    · (conv => whnf); (try (refine ⟨(rfl : (_ : Heap) = _), ?_⟩; (conv => whnf)))
      refine ⟨fun _ => ?_, fun h => absurd h (by simp [hb])⟩
      (conv => whnf); (try (refine ⟨(rfl : (_ : Heap) = _), ?_⟩; (conv => whnf)))
      exact ⟨.inl rfl, _, .refl _, rfl⟩
  refine callPartR [] (Go.Ab.SoundAt.toR (R := fun r H' => r = .tup [.ref 0 [] 3 0 0, I 0] ∧ H' = _) (rnewYes_sound s.first hs.first hb) ⟨rfl, rfl⟩) (fun r H' h => by obtain ⟨_, rfl⟩ := h; rfl) rfl rfl rfl rfl rfl ?_
  rintro _ _ ⟨rfl, rfl⟩
  conv => whnf
  refine ⟨fun h1 => ?_, fun h1 => ?_⟩
  · have er : chkV s l (Cal.ofV l) = (0, false) := by unfold chkV; rw [if_pos (.inl (by simpa using h1))]
    rw [er]
    (conv => whnf); (try (refine ⟨(rfl : (_ : Heap) = _), ?_⟩; (conv => whnf)))
    exact ⟨.inl rfl, _, .refl _, rfl⟩
  have h1 : (Cal.ofV l).2 = 0 := by simpa using h1
  (conv => whnf); (try (refine ⟨(rfl : (_ : Heap) = _), ?_⟩; (conv => whnf)))
  (repeat (first | (refine ⟨fun _ => ?_, fun h => absurd h (by decide)⟩; (conv => whnf); (try (refine ⟨(rfl : (_ : Heap) = _), ?_⟩; (conv => whnf)))) | (refine ⟨fun h => absurd h (by decide), fun _ => ?_⟩; (conv => whnf); (try (refine ⟨(rfl : (_ : Heap) = _), ?_⟩; (conv => whnf))))))
  obtain ⟨hcl, hco⟩ := ofV_ok h1
  have hol := ord_len (Cal.ofV l).1
  have cm : ((Cal.ofV l).1.map encCal).length = (Cal.ofV l).1.length := List.length_map ..
  have hpl : ∀ x ∈ Srt.ordV (Cal.ofV l).1, ∃ c, (Cal.ofV l).1[x.toNat]? = some c ∧ c ∈ (Cal.ofV l).1 ∧ 0 ≤ x ∧ 0 ≤ c.point ∧ c.point.toNat < l.length := fun x hx => ord_ok h1 hx
  have key : chkV s l (Cal.ofV l) = if (Cal.ofV l).1.any (foreignV s) = true then (0, false) else goV s l (Cal.ofV l).1 (Srt.ordV (Cal.ofV l).1) (firstM s.first) 0 := by
    unfold chkV
    by_cases h2 : (Cal.ofV l).1.any (foreignV s) = true
    · rw [if_pos (.inr (.inr h2)), if_pos h2]
    · rw [if_neg (by simp only [h1, hb, h2]; decide), if_neg h2]
  rw [key]
  revert hpl hol cm hcl hco
  generalize (Cal.ofV l).1 = cs
  intro hcl hco hol cm hpl
  refine Loops.seq cs.length (fun k => [Csc s, lEv l, .ref 0 [] 5 0 0, .junk, I 0, Bo false, lCal cs, I (Cal.ofV l).2, .ref 1 [] 3 0 0, I 0, I k, .junk, .junk, .junk, .junk, .junk, .junk, .junk, .junk, .junk, .junk, .junk, .junk, .junk, .junk, .junk, .junk, .junk, .junk, .junk, .junk, .junk, .junk, .junk, .junk, .junk, .junk, .junk, .junk, .junk, .junk, .junk, .junk, .junk, .junk, .junk, .junk, .junk, .junk, .junk, .junk, .junk, .junk, .junk, .junk, .junk, .junk, .junk, .junk, .junk, .junk, .junk, .junk, .junk, .junk, .junk, .junk, .junk, .junk, .junk, .junk, .junk, .junk, .junk, .junk, .junk, .junk, .junk, .junk, .junk, .junk, .junk, .junk, .junk, .junk, .junk, .junk, .junk, .junk, .junk, .junk, .junk, .junk, .junk, .junk, .junk, .junk, .junk, .junk, .junk, .junk]) (fun k => [⟨1, 30, 5, [encScr s], 0⟩, ⟨1, 93, 3, [[.gl 2 3 ((firstM s.first).snaps.map encS), I (firstM s.first).now, .gl 3 1 ((firstM s.first).dr.map encT)]], 0⟩, ⟨4, 80, 3, (firstM s.first).snaps.map encS, 0⟩, ⟨4, 9, 1, (firstM s.first).dr.map encT, 0⟩]) (fun k => ∀ j, (h : j < cs.length) → j < k → foreignV s cs[j] = false) ?_ (by simp) (fun k hk hr => ?_) (fun hr => ?_)
  · exact Weak.cov (by (conv => whnf); (repeat (refine ⟨rfl, ?_⟩; (conv => whnf))); exact trivial)
  · have gc : (cs.map encCal)[k]? = some (encCal cs[k]) := by rw [List.getElem?_map, List.getElem?_eq_getElem hk]; rfl
    conv => whnf
    rw [cm]
    (refine ⟨fun _ => ?_, fun h => absurd h (by simp; omega)⟩); (conv => whnf); (try (refine ⟨(rfl : (_ : Heap) = _), ?_⟩; (conv => whnf)))
    refine ⟨⟨false, [4, 5], [], []⟩, by kernel_rfl, ?_⟩; (conv => whnf)
    refine ⟨by omega, _, by rw [toNat_cast]; exact gc, ?_⟩
    (conv => whnf); (try (refine ⟨(rfl : (_ : Heap) = _), ?_⟩; (conv => whnf)))
    refine ⟨Bo (!foreignV s cs[k]), fun H2 => (has_sound s cs[k]).frame rfl H2, ?_⟩
    (conv => whnf); (try (refine ⟨(rfl : (_ : Heap) = _), ?_⟩; (conv => whnf)))
    refine ⟨fun h2 => ?_, fun h2 => ?_⟩
    · (conv => whnf); (try (refine ⟨(rfl : (_ : Heap) = _), ?_⟩; (conv => whnf)))
      (repeat (first | (refine ⟨fun _ => ?_, fun h => absurd h (by decide)⟩; (conv => whnf); (try (refine ⟨(rfl : (_ : Heap) = _), ?_⟩; (conv => whnf)))) | (refine ⟨fun h => absurd h (by decide), fun _ => ?_⟩; (conv => whnf); (try (refine ⟨(rfl : (_ : Heap) = _), ?_⟩; (conv => whnf))))))
      repeat (refine ⟨rfl, ?_⟩; ((conv => whnf); (try (refine ⟨(rfl : (_ : Heap) = _), ?_⟩; (conv => whnf)))))
      refine .inl ⟨rfl, ?_, fun j hj hjk => ?_⟩
      · rw [i64_nat (by omega)]
        exact Weak.covD 4 (by (conv => whnf); (repeat (refine ⟨rfl, ?_⟩; (conv => whnf))); exact trivial) rfl rfl rfl rfl rfl
      · by_cases e : j = k
        · subst e; simpa using h2
        · exact hr j hj (by omega)
    · have ha : cs.any (foreignV s) = true := List.any_eq_true.2 ⟨cs[k], List.getElem_mem hk, by simpa using h2⟩
      rw [if_pos ha]
      (conv => whnf); (try (refine ⟨(rfl : (_ : Heap) = _), ?_⟩; (conv => whnf)))
      (repeat (first | (refine ⟨fun _ => ?_, fun h => absurd h (by decide)⟩; (conv => whnf); (try (refine ⟨(rfl : (_ : Heap) = _), ?_⟩; (conv => whnf)))) | (refine ⟨fun h => absurd h (by decide), fun _ => ?_⟩; (conv => whnf); (try (refine ⟨(rfl : (_ : Heap) = _), ?_⟩; (conv => whnf))))))
      repeat (refine ⟨rfl, ?_⟩; ((conv => whnf); (try (refine ⟨(rfl : (_ : Heap) = _), ?_⟩; (conv => whnf)))))
      refine .inr ⟨by simp, ?_⟩
      conv => whnf
      exact ⟨.inl rfl, _, .refl _, rfl⟩
  have h2 : cs.any (foreignV s) = false := by
    rw [List.any_eq_false]
    intro x hx
    obtain ⟨j, hj, rfl⟩ := List.mem_iff_getElem.1 hx
    simp [hr j hj hj]
  rw [if_neg (by simp [h2])]
  conv => whnf
  rw [cm]
  (conv => whnf); (refine ⟨fun h => absurd h (by simp), fun _ => ?_⟩); (conv => whnf); (try (refine ⟨(rfl : (_ : Heap) = _), ?_⟩; (conv => whnf))); (refine ⟨by simp, ?_⟩); (conv => whnf)
  refine ⟨_, _, (Srt.refOrder_sound cs (by omega)).frame rfl _, ?_⟩; (conv => whnf); (try (refine ⟨(rfl : (_ : Heap) = _), ?_⟩; (conv => whnf)))
  have om : ((Srt.ordV cs).map encI).length = (Srt.ordV cs).length := List.length_map ..
  refine Loops.inv (fun q t1 H1 => ∃ (k : Nat) (m : Msh) (n : Nat), k + q = (Srt.ordV cs).length ∧ n ≤ k ∧ GoodN n m ∧ goV s l cs ((Srt.ordV cs).drop k) m n = goV s l cs (Srt.ordV cs) (firstM s.first) 0 ∧ t1 = [Csc s, lEv l, .ref 0 [] 5 0 0, .junk, I 0, Bo false, lCal cs, .junk, .ref 1 [] 3 0 0, I 0, .junk, I n, lI (Srt.ordV cs), I k, .junk, .junk, .junk, .junk, .junk, .junk, .junk, .junk, .junk, .junk, .junk, .junk, .junk, .junk, .junk, .junk, .junk, .junk, .junk, .junk, .junk, .junk, .junk, .junk, .junk, .junk, .junk, .junk, .junk, .junk, .junk, .junk, .junk, .junk, .junk, .junk, .junk, .junk, .junk, .junk, .junk, .junk, .junk, .junk, .junk, .junk, .junk, .junk, .junk, .junk, .junk, .junk, .junk, .junk, .junk, .junk, .junk, .junk, .junk, .junk, .junk, .junk, .junk, .junk, .junk, .junk, .junk, .junk, .junk, .junk, .junk, .junk, .junk, .junk, .junk, .junk, .junk, .junk, .junk, .junk, .junk, .junk, .junk, .junk, .junk, .junk, .junk] ∧ H1 = [⟨1, 30, 5, [encScr s], 0⟩, ⟨1, 93, 3, [[.gl 2 3 ((m).snaps.map encS), I (m).now, .gl 3 1 ((m).dr.map encT)]], 0⟩, ⟨4, 80, 3, (m).snaps.map encS, 0⟩, ⟨4, 9, 1, (m).dr.map encT, 0⟩]) (Srt.ordV cs).length ?_ ?_
  · exact ⟨[Csc s, lEv l, .ref 0 [] 5 0 0, .junk, I 0, Bo false, lCal cs, .junk, .ref 1 [] 3 0 0, I 0, .junk, I (0 : Nat), lI (Srt.ordV cs), I (0 : Nat), .junk, .junk, .junk, .junk, .junk, .junk, .junk, .junk, .junk, .junk, .junk, .junk, .junk, .junk, .junk, .junk, .junk, .junk, .junk, .junk, .junk, .junk, .junk, .junk, .junk, .junk, .junk, .junk, .junk, .junk, .junk, .junk, .junk, .junk, .junk, .junk, .junk, .junk, .junk, .junk, .junk, .junk, .junk, .junk, .junk, .junk, .junk, .junk, .junk, .junk, .junk, .junk, .junk, .junk, .junk, .junk, .junk, .junk, .junk, .junk, .junk, .junk, .junk, .junk, .junk, .junk, .junk, .junk, .junk, .junk, .junk, .junk, .junk, .junk, .junk, .junk, .junk, .junk, .junk, .junk, .junk, .junk, .junk, .junk, .junk, .junk, .junk], _, Weak.cov (by (conv => whnf); (repeat (refine ⟨rfl, ?_⟩; (conv => whnf))); exact trivial), 0, firstM s.first, 0, by omega, by omega, GoodN.first hs.first hs.health hb, rfl, rfl, rfl⟩
  rintro q t1 H1 ⟨k, m, n, k1, k2, k3, k4, rfl, rfl⟩
  conv => whnf
  rw [om]
  refine ⟨fun hc => ?_, fun hc => ?_⟩
  rotate_left
  · have hk : (Srt.ordV cs).length ≤ k := by simp at hc; omega
    rw [List.drop_of_length_le hk] at k4
    rw [← k4]
    (conv => whnf); (try (refine ⟨(rfl : (_ : Heap) = _), ?_⟩; (conv => whnf)))
    refine .inr ⟨by simp, ?_⟩
    conv => whnf
    exact ⟨.inl rfl, _, .refl _, rfl⟩
  have hk : k < (Srt.ordV cs).length := by simp at hc; omega
  obtain ⟨c, gc, hcm, x0, p0, p1⟩ := hpl _ (List.getElem_mem hk)
  have gx : ((Srt.ordV cs).map encI)[k]? = some (encI (Srt.ordV cs)[k]) := by rw [List.getElem?_map, List.getElem?_eq_getElem hk]; rfl
  have gy : (cs.map encCal)[((Srt.ordV cs)[k]).toNat]? = some (encCal c) := by rw [List.getElem?_map, gc]; rfl
  have hf : foreignV s c = false := by
    rw [List.any_eq_false] at h2
    simpa using h2 c hcm
  obtain ⟨ops, o, t0, o0, g1, g2, g3⟩ := op_some hf
  have g1' : (s.threads.map encOps)[c.thread.toNat]? = some (encOps ops) := by rw [List.getElem?_map, g1]; rfl
  have g2' : (ops.map encP)[c.op.toNat]? = some (encP o) := by rw [List.getElem?_map, g2]; rfl
  have hq : SmallQ o := (hs.ops ops (List.mem_of_getElem? g1)).2 o (List.mem_of_getElem? g2)
  rw [List.drop_eq_getElem_cons hk] at k4
  simp only [goV, gc] at k4
  have es : stepV s l c m = match ansV l o c with | none => some (m, false) | some a => if (takeV m o a).1 then some ((takeV m o a).2, true) else none := by unfold stepV; rw [g3] <;> rfl
  (conv => whnf); (try (refine ⟨(rfl : (_ : Heap) = _), ?_⟩; (conv => whnf)))
  refine ⟨by omega, _, by rw [toNat_cast]; exact gx, ?_⟩
  (conv => whnf); (try (refine ⟨(rfl : (_ : Heap) = _), ?_⟩; (conv => whnf)))
  refine ⟨x0, _, gy, ?_⟩
  (conv => whnf); (try (refine ⟨(rfl : (_ : Heap) = _), ?_⟩; (conv => whnf)))
  refine ⟨⟨false, [1, 3, 5, 7, 9], [0, 4], []⟩, by kernel_rfl, ?_⟩; (conv => whnf)
  refine ⟨t0, _, g1', ?_⟩
  (conv => whnf); (try (refine ⟨(rfl : (_ : Heap) = _), ?_⟩; (conv => whnf)))
  refine ⟨o0, _, g2', ?_⟩
  (conv => whnf); (try (refine ⟨(rfl : (_ : Heap) = _), ?_⟩; (conv => whnf)))
  repeat (refine ⟨rfl, ?_⟩; ((conv => whnf); (try (refine ⟨(rfl : (_ : Heap) = _), ?_⟩; (conv => whnf)))))
  refine ⟨fun h5 => ?_, fun h5 => ?_⟩
  rotate_left
  · have ea : ansV l o c = some c.answer := by unfold ansV; rw [if_pos (by simp at h5; omega)]
    rw [es, ea] at k4
    simp only at k4
    (conv => whnf); (try (refine ⟨(rfl : (_ : Heap) = _), ?_⟩; (conv => whnf)))
    (repeat (first | (refine ⟨fun _ => ?_, fun h => absurd h (by decide)⟩; (conv => whnf); (try (refine ⟨(rfl : (_ : Heap) = _), ?_⟩; (conv => whnf)))) | (refine ⟨fun h => absurd h (by decide), fun _ => ?_⟩; (conv => whnf); (try (refine ⟨(rfl : (_ : Heap) = _), ?_⟩; (conv => whnf))))))
    refine ⟨fun h => absurd ((h5).symm.trans h : false = true) (by decide), fun _ => ?_⟩; (conv => whnf); (try (refine ⟨(rfl : (_ : Heap) = _), ?_⟩; (conv => whnf)))
    have ht := rtake_sound m (k3.good (by omega)) o c.answer hq.toSmallP
    refine callPart [1, 2, 3] (ht) rfl rfl rfl rfl rfl rfl ?_; (conv => whnf); (try (refine ⟨(rfl : (_ : Heap) = _), ?_⟩; (conv => whnf)))
    refine ⟨fun h7 => ?_, fun h7 => ?_⟩
    · rw [if_pos h7] at k4
      simp only at k4
      (conv => whnf); (try (refine ⟨(rfl : (_ : Heap) = _), ?_⟩; (conv => whnf)))
      (repeat (first | (refine ⟨fun _ => ?_, fun h => absurd h (by decide)⟩; (conv => whnf); (try (refine ⟨(rfl : (_ : Heap) = _), ?_⟩; (conv => whnf)))) | (refine ⟨fun h => absurd h (by decide), fun _ => ?_⟩; (conv => whnf); (try (refine ⟨(rfl : (_ : Heap) = _), ?_⟩; (conv => whnf))))))
      rw [i64_nat (by omega), i64_nat (by omega)]
      refine .inl ⟨rfl, q - 1, [Csc s, lEv l, .ref 0 [] 5 0 0, .junk, I 0, Bo false, lCal cs, .junk, .ref 1 [] 3 0 0, I 0, .junk, I (n + 1 : Nat), lI (Srt.ordV cs), I (k + 1 : Nat), .junk, .junk, .junk, .junk, .junk, .junk, .junk, .junk, .junk, .junk, .junk, .junk, .junk, .junk, .junk, .junk, .junk, .junk, .junk, .junk, .junk, .junk, .junk, .junk, .junk, .junk, .junk, .junk, .junk, .junk, .junk, .junk, .junk, .junk, .junk, .junk, .junk, .junk, .junk, .junk, .junk, .junk, .junk, .junk, .junk, .junk, .junk, .junk, .junk, .junk, .junk, .junk, .junk, .junk, .junk, .junk, .junk, .junk, .junk, .junk, .junk, .junk, .junk, .junk, .junk, .junk, .junk, .junk, .junk, .junk, .junk, .junk, .junk, .junk, .junk, .junk, .junk, .junk, .junk, .junk, .junk, .junk, .junk, .junk, .junk, .junk, .junk], _, by omega, ?_, k + 1, (takeV m o c.answer).2, n + 1, by omega, by omega, k3.take hq, k4, rfl, rfl⟩
      exact Weak.covD 4 (by (conv => whnf); (repeat (refine ⟨rfl, ?_⟩; (conv => whnf))); exact trivial) rfl rfl rfl rfl rfl
    · rw [if_neg (by rw [h7]; decide)] at k4
      simp only at k4
      rw [← k4]
      (conv => whnf); (try (refine ⟨(rfl : (_ : Heap) = _), ?_⟩; (conv => whnf)))
      (repeat (first | (refine ⟨fun _ => ?_, fun h => absurd h (by decide)⟩; (conv => whnf); (try (refine ⟨(rfl : (_ : Heap) = _), ?_⟩; (conv => whnf)))) | (refine ⟨fun h => absurd h (by decide), fun _ => ?_⟩; (conv => whnf); (try (refine ⟨(rfl : (_ : Heap) = _), ?_⟩; (conv => whnf))))))
      refine .inr ⟨by simp, ?_⟩
      conv => whnf
      exact ⟨.inl rfl, _, .refl _, rfl⟩
  have h5' : ¬ 0 ≤ c.to_ := by simp at h5; omega
  (conv => whnf); (try (refine ⟨(rfl : (_ : Heap) = _), ?_⟩; (conv => whnf)))
  refine ⟨fun h6 => ?_, fun h6 => ?_⟩
  · have ea : ansV l o c = none := by unfold ansV; rw [if_neg h5', if_neg (by simpa using h6)]
    rw [es, ea] at k4
    simp only at k4
    (conv => whnf); (try (refine ⟨(rfl : (_ : Heap) = _), ?_⟩; (conv => whnf)))
    (repeat (first | (refine ⟨fun _ => ?_, fun h => absurd h (by decide)⟩; (conv => whnf); (try (refine ⟨(rfl : (_ : Heap) = _), ?_⟩; (conv => whnf)))) | (refine ⟨fun h => absurd h (by decide), fun _ => ?_⟩; (conv => whnf); (try (refine ⟨(rfl : (_ : Heap) = _), ?_⟩; (conv => whnf))))))
    rw [i64_nat (by omega)]
    refine .inl ⟨rfl, q - 1, [Csc s, lEv l, .ref 0 [] 5 0 0, .junk, I 0, Bo false, lCal cs, .junk, .ref 1 [] 3 0 0, I 0, .junk, I n, lI (Srt.ordV cs), I (k + 1 : Nat), .junk, .junk, .junk, .junk, .junk, .junk, .junk, .junk, .junk, .junk, .junk, .junk, .junk, .junk, .junk, .junk, .junk, .junk, .junk, .junk, .junk, .junk, .junk, .junk, .junk, .junk, .junk, .junk, .junk, .junk, .junk, .junk, .junk, .junk, .junk, .junk, .junk, .junk, .junk, .junk, .junk, .junk, .junk, .junk, .junk, .junk, .junk, .junk, .junk, .junk, .junk, .junk, .junk, .junk, .junk, .junk, .junk, .junk, .junk, .junk, .junk, .junk, .junk, .junk, .junk, .junk, .junk, .junk, .junk, .junk, .junk, .junk, .junk, .junk, .junk, .junk, .junk, .junk, .junk, .junk, .junk, .junk, .junk, .junk, .junk, .junk, .junk], [⟨1, 30, 5, [encScr s], 0⟩, ⟨1, 93, 3, [[.gl 2 3 ((m).snaps.map encS), I (m).now, .gl 3 1 ((m).dr.map encT)]], 0⟩, ⟨4, 80, 3, (m).snaps.map encS, 0⟩, ⟨4, 9, 1, (m).dr.map encT, 0⟩], by omega, ?_, k + 1, m, n, by omega, by omega, k3, k4, rfl, rfl⟩
    exact Weak.covD 4 (by (conv => whnf); (repeat (refine ⟨rfl, ?_⟩; (conv => whnf))); exact trivial) rfl rfl rfl rfl rfl
  have ge : (l.map encEv)[c.point.toNat]? = some (encEv l[c.point.toNat]) := by rw [List.getElem?_map, List.getElem?_eq_getElem p1]; rfl
  have ev : valAt l c.point = l[c.point.toNat].value := by unfold valAt; rw [List.getElem?_eq_getElem p1]
  have ea : ansV l o c = some ⟨8, l[c.point.toNat].value, 0, 0, 0, 0, 0, zeroX⟩ := by unfold ansV; rw [if_neg h5', if_pos (by simpa using h6), ev]
  rw [es, ea] at k4
  simp only at k4
  (conv => whnf); (try (refine ⟨(rfl : (_ : Heap) = _), ?_⟩; (conv => whnf)))
  (repeat (first | (refine ⟨fun _ => ?_, fun h => absurd h (by decide)⟩; (conv => whnf); (try (refine ⟨(rfl : (_ : Heap) = _), ?_⟩; (conv => whnf)))) | (refine ⟨fun h => absurd h (by decide), fun _ => ?_⟩; (conv => whnf); (try (refine ⟨(rfl : (_ : Heap) = _), ?_⟩; (conv => whnf))))))
  refine ⟨fun _ => ?_, fun h => absurd ((h5).symm.trans h : true = false) (by decide)⟩; (conv => whnf); (try (refine ⟨(rfl : (_ : Heap) = _), ?_⟩; (conv => whnf)))
  refine ⟨p0, _, ge, ?_⟩
  (conv => whnf); (try (refine ⟨(rfl : (_ : Heap) = _), ?_⟩; (conv => whnf)))
  have ht := rtake_sound m (k3.good (by omega)) o ⟨8, l[c.point.toNat].value, 0, 0, 0, 0, 0, zeroX⟩ hq.toSmallP
  refine callPart [1, 2, 3] (ht) rfl rfl rfl rfl rfl rfl ?_; (conv => whnf); (try (refine ⟨(rfl : (_ : Heap) = _), ?_⟩; (conv => whnf)))
  refine ⟨fun h7 => ?_, fun h7 => ?_⟩
  · rw [if_pos h7] at k4
    simp only at k4
    (conv => whnf); (try (refine ⟨(rfl : (_ : Heap) = _), ?_⟩; (conv => whnf)))
    (repeat (first | (refine ⟨fun _ => ?_, fun h => absurd h (by decide)⟩; (conv => whnf); (try (refine ⟨(rfl : (_ : Heap) = _), ?_⟩; (conv => whnf)))) | (refine ⟨fun h => absurd h (by decide), fun _ => ?_⟩; (conv => whnf); (try (refine ⟨(rfl : (_ : Heap) = _), ?_⟩; (conv => whnf))))))
    rw [i64_nat (by omega), i64_nat (by omega)]
    refine .inl ⟨rfl, q - 1, [Csc s, lEv l, .ref 0 [] 5 0 0, .junk, I 0, Bo false, lCal cs, .junk, .ref 1 [] 3 0 0, I 0, .junk, I (n + 1 : Nat), lI (Srt.ordV cs), I (k + 1 : Nat), .junk, .junk, .junk, .junk, .junk, .junk, .junk, .junk, .junk, .junk, .junk, .junk, .junk, .junk, .junk, .junk, .junk, .junk, .junk, .junk, .junk, .junk, .junk, .junk, .junk, .junk, .junk, .junk, .junk, .junk, .junk, .junk, .junk, .junk, .junk, .junk, .junk, .junk, .junk, .junk, .junk, .junk, .junk, .junk, .junk, .junk, .junk, .junk, .junk, .junk, .junk, .junk, .junk, .junk, .junk, .junk, .junk, .junk, .junk, .junk, .junk, .junk, .junk, .junk, .junk, .junk, .junk, .junk, .junk, .junk, .junk, .junk, .junk, .junk, .junk, .junk, .junk, .junk, .junk, .junk, .junk, .junk, .junk, .junk, .junk, .junk, .junk], _, by omega, ?_, k + 1, (takeV m o ⟨8, l[c.point.toNat].value, 0, 0, 0, 0, 0, zeroX⟩).2, n + 1, by omega, by omega, k3.take hq, k4, rfl, rfl⟩
    exact Weak.covD 4 (by (conv => whnf); (repeat (refine ⟨rfl, ?_⟩; (conv => whnf))); exact trivial) rfl rfl rfl rfl rfl
  · rw [if_neg (by rw [h7]; decide)] at k4
    simp only at k4
    rw [← k4]
    (conv => whnf); (try (refine ⟨(rfl : (_ : Heap) = _), ?_⟩; (conv => whnf)))
    (repeat (first | (refine ⟨fun _ => ?_, fun h => absurd h (by decide)⟩; (conv => whnf); (try (refine ⟨(rfl : (_ : Heap) = _), ?_⟩; (conv => whnf)))) | (refine ⟨fun h => absurd h (by decide), fun _ => ?_⟩; (conv => whnf); (try (refine ⟨(rfl : (_ : Heap) = _), ?_⟩; (conv => whnf))))))
    refine .inr ⟨by simp, ?_⟩
    conv => whnf
    exact ⟨.inl rfl, _, .refl _, rfl⟩
end Go.Lin
