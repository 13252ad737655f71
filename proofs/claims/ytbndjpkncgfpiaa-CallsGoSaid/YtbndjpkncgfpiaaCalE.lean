/- Layer 10 (calls): what the program makes of a trace, walked. -/import Derived.Test.YtbndjpkncgfpiaaCalD
namespace Go.Cal
open Go.Ab Go.Proofs Go.Hy
set_option linter.unusedVariables false
set_option maxRecDepth 100000




/-! ### Plain -/

/-- What is kept behind so many events. -/
def bkAt (l : List Eve) : Nat → Option Bk
  | 0 => some bk0
  | k + 1 => (bkAt l k).bind fun b => (l[k]?).bind fun e => eventV b k e
def bkD (l : List Eve) (k : Nat) : Bk := (bkAt l k).getD bk0
def ofV (l : List Eve) : List Cal × Int := match bkAt l l.length with
  | some b => (b.l, 0)
  | none => ([], 11)

theorem bk0_ok : bk0.ok := ⟨fun k => ⟨by rw [get0]; decide, by rw [get0]; decide⟩, fun k => ⟨by rw [get0]; decide, by rw [get0]; decide⟩⟩

theorem event_len {b b' : Bk} {i : Int} {e : Eve} (hb : b.ok) (h : eventV b i e = some b') : b'.l.length = b.l.length + (if e.begin_ then 1 else 0) := by
  unfold eventV at h
  split at h
  · rename_i he
    split at h
    · cases h
    · rw [(go_ok (begin_ok hb) h).2, if_pos he]; simp [beginV]
  · rename_i he
    rw [(go_ok hb h).2, if_neg he]; rfl

theorem bkAt_ok {l : List Eve} : ∀ {k : Nat} {b : Bk}, bkAt l k = some b → b.ok ∧ b.l.length ≤ k
  | 0, b, h => by cases h; exact ⟨bk0_ok, Nat.le_refl _⟩
  | k + 1, b, h => by
    simp only [bkAt] at h
    cases h1 : bkAt l k with
    | none => rw [h1] at h; cases h
    | some b0 =>
      rw [h1] at h
      obtain ⟨h2, h3⟩ := bkAt_ok h1
      cases h4 : l[k]? with
      | none => rw [h4] at h; cases h
      | some e =>
        rw [h4] at h
        refine ⟨event_ok h2 h, ?_⟩
        rw [event_len h2 h]
        split <;> omega

theorem bkAt_none {l : List Eve} {k : Nat} (h : bkAt l k = none) : ∀ m, k ≤ m → bkAt l m = none := by
  intro m hm
  induction m with
  | zero => (have e : k = 0 := by omega); subst e; exact h
  | succ m ih =>
    rcases Nat.lt_or_ge k (m + 1) with h1 | h1
    · simp only [bkAt]; rw [ih (by omega)]; rfl
    · have e : k = m + 1 := by omega
      subst e; exact h

theorem first_some (i : Int) (e : Eve) (he : e.begin_ = true) : ∃ b, eventV bk0 i e = some b := by
  have hno : ¬ (0 < getI bk0.of_ (e.thread, e.op) ∨ 0 < getI bk0.busy e.thread) := by rw [get0, get0]; decide
  unfold eventV
  rw [if_pos he, if_neg hno]
  unfold goV
  rw [if_neg]
  · exact ⟨_, rfl⟩
  · have : getI (beginV bk0 i e).busy e.thread = 1 := by simp only [beginV, findV_put]; simp
    rw [this]
    simp

/-! ### Walked -/

abbrev tC (r : List Cal × Int) : C := .tup [lCal r.1, I r.2]

theorem of_sound (l : List Eve) (hl : l.length < 900000000000) : SoundAt Try.prog 14 [] [lEv l] (tC (ofV l)) [] := by
  have hlm : (l.map encEv).length = l.length := List.length_map ..
  refine SoundAt.of_wpA1 (fn := Try.f14) Try.func14 rfl ?_
  conv => whnf
  intro b1
  (conv => whnf); (try (refine ⟨(rfl : (_ : Heap) = _), ?_⟩; (conv => whnf)))
  intro b2
  (conv => whnf); (try (refine ⟨(rfl : (_ : Heap) = _), ?_⟩; (conv => whnf)))
  rw [hlm]
  refine Loops.seq l.length (fun k => [lEv l, .junk, .lst 1 0 [], I 0, .ref 2 [] 3 0 0, .fn 37 [] [], .junk, .junk, .junk, .junk, .junk, .junk, lEv l, I l.length, I k, .junk, .junk, .junk, .junk, .junk, .junk, .junk, .junk, .junk, .junk, .junk, .junk, .junk, .junk, .junk]) (fun k => (match k with | 0 => [obM b1 (entE encII (vI bk0.of_)) (vI bk0.of_).length, obM b2 (entE encI64 (vI bk0.busy)) (vI bk0.busy).length, ⟨1, 76, 3, [[.lst 1 0 [], .v (.map (some b1)), .v (.map (some b2))]], 0⟩] | j + 1 => [obM b1 (entE encII (vI (bkD l (j + 1)).of_)) (vI (bkD l (j + 1)).of_).length, obM b2 (entE encI64 (vI (bkD l (j + 1)).busy)) (vI (bkD l (j + 1)).busy).length, ⟨1, 76, 3, [[.sl 3 [] 18 0 (bkD l (j + 1)).l.length false, .v (.map (some b1)), .v (.map (some b2))]], 0⟩, ⟨2, 38, 18, ((bkD l (j + 1)).l).map encCal, 0⟩])) (fun k => ∃ b, bkAt l k = some b) ?_ ⟨_, rfl⟩ (fun k hk hr => ?_) (fun hr => ?_)
  · exact Weak.cov (by (conv => whnf); (repeat (refine ⟨rfl, ?_⟩; (conv => whnf))); exact trivial)
  · obtain ⟨b, hb⟩ := hr
    have hg : (l.map encEv)[k]? = some (encEv l[k]) := by rw [List.getElem?_map, List.getElem?_eq_getElem hk]; rfl
    have hgl : l[k]? = some l[k] := List.getElem?_eq_getElem hk
    obtain ⟨o1, o2⟩ := bkAt_ok hb
    have hnext : bkAt l (k + 1) = eventV b k l[k] := by simp only [bkAt, hb, hgl]; rfl
    have hbad : eventV b k l[k] = none → ofV l = ([], 11) := fun h => by
      have := bkAt_none (l := l) (k := k + 1) (by rw [hnext, h]) l.length (by omega)
      unfold ofV; rw [this]
    cases k with
    | zero =>
      cases hb
      conv => whnf
      refine ⟨fun _ => ?_, fun h => absurd hk (by simp at h; simp [h])⟩
      conv => whnf
      refine ⟨by omega, _, hg, ?_⟩
      (conv => whnf); (try (refine ⟨(rfl : (_ : Heap) = _), ?_⟩; (conv => whnf)))
      by_cases he : l[0].begin_ = true
      rotate_left
      · have he : l[0].begin_ = false := by simpa using he
        have hev : eventV bk0 0 l[0] = none := by
          unfold eventV; rw [if_neg (by simp [he])]; exact go_none (.inl (get0 _))
        rw [hbad hev]
        refine ⟨_, _, eventFirstNo_sound b1 b2 _ 0 l[0] he, ?_⟩
        (conv => whnf); (try (refine ⟨(rfl : (_ : Heap) = _), ?_⟩; (conv => whnf)))
        (repeat (first | (refine ⟨fun _ => ?_, fun h => absurd h (by decide)⟩; (conv => whnf); (try (refine ⟨(rfl : (_ : Heap) = _), ?_⟩; (conv => whnf)))) | (refine ⟨fun h => absurd h (by decide), fun _ => ?_⟩; (conv => whnf); (try (refine ⟨(rfl : (_ : Heap) = _), ?_⟩; (conv => whnf))))))
        refine .inr ⟨by simp, ?_⟩
        conv => whnf
        exact ⟨.inl rfl, _, Weak.cell 2 rfl (WC.nil 0 18), rfl⟩
      · refine ⟨_, _, eventFirst_sound b1 b2 _ ((0 : Nat) : Int) l[0] he, ?_⟩
        (conv => whnf); (try (refine ⟨(rfl : (_ : Heap) = _), ?_⟩; (conv => whnf)))
        (repeat (first | (refine ⟨fun _ => ?_, fun h => absurd h (by decide)⟩; (conv => whnf); (try (refine ⟨(rfl : (_ : Heap) = _), ?_⟩; (conv => whnf)))) | (refine ⟨fun h => absurd h (by decide), fun _ => ?_⟩; (conv => whnf); (try (refine ⟨(rfl : (_ : Heap) = _), ?_⟩; (conv => whnf))))))
        obtain ⟨b, hev⟩ : ∃ b, eventV bk0 ((0 : Nat) : Int) l[0] = some b := first_some _ _ he
        have e2 : bkD l (0 + 1) = b := by unfold bkD; rw [hnext, hev]; rfl
        refine .inl ⟨rfl, ?_, ⟨b, by rw [hnext, hev]⟩⟩
        have e3 : b.l.length = 1 := by rw [event_len bk0_ok hev, if_pos he]; rfl
        dsimp only
        rw [hev, e2, e3, i64_nat (by omega)]
        exact Weak.ren [0, 1, 2, 5] [0, 2, 3, 4, 5, 12, 13, 14] _ _ rfl rfl rfl rfl
    | succ j =>
      have hD : bkD l (j + 1) = b := by unfold bkD; rw [hb]; rfl
      dsimp only
      rw [hD]
      conv => whnf
      refine ⟨fun _ => ?_, fun h => absurd h (by simp; omega)⟩
      conv => whnf
      refine ⟨by omega, _, by rw [toNat_cast]; exact hg, ?_⟩
      (conv => whnf); (try (refine ⟨(rfl : (_ : Heap) = _), ?_⟩; (conv => whnf)))
      by_cases he : l[j + 1].begin_ = true
      rotate_left
      · have he : l[j + 1].begin_ = false := by simpa using he
        refine ⟨_, _, eventGo_sound b1 b2 b o1 (by omega) _ ((j + 1 : Nat) : Int) l[j + 1] he, ?_⟩
        cases hev : eventV b ((j + 1 : Nat) : Int) l[j + 1] with
        | none =>
          rw [hbad hev]
          (conv => whnf); (try (refine ⟨(rfl : (_ : Heap) = _), ?_⟩; (conv => whnf)))
          (repeat (first | (refine ⟨fun _ => ?_, fun h => absurd h (by decide)⟩; (conv => whnf); (try (refine ⟨(rfl : (_ : Heap) = _), ?_⟩; (conv => whnf)))) | (refine ⟨fun h => absurd h (by decide), fun _ => ?_⟩; (conv => whnf); (try (refine ⟨(rfl : (_ : Heap) = _), ?_⟩; (conv => whnf))))))
          refine .inr ⟨by simp, ?_⟩
          conv => whnf
          exact ⟨.inl rfl, _, Weak.cell 2 rfl (WC.nil 0 18), rfl⟩
        | some b' =>
          (conv => whnf); (try (refine ⟨(rfl : (_ : Heap) = _), ?_⟩; (conv => whnf)))
          (first | (refine ⟨fun _ => ?_, ?_⟩; rotate_left 1; (focus (intro h; simp at h; done)); ((conv => whnf); (try (refine ⟨(rfl : (_ : Heap) = _), ?_⟩; (conv => whnf))))) | (refine ⟨?_, fun _ => ?_⟩; (focus (intro h; simp at h; done)); ((conv => whnf); (try (refine ⟨(rfl : (_ : Heap) = _), ?_⟩; (conv => whnf))))))
          have e2 : bkD l (j + 1 + 1) = b' := by unfold bkD; rw [hnext, hev]; rfl
          have e3 : b'.l.length = b.l.length := by rw [event_len o1 hev, if_neg (by simp [he])]; rfl
          refine .inl ⟨rfl, ?_, ⟨b', by rw [hnext, hev]⟩⟩
          dsimp only
          rw [e2, e3, i64_nat (by omega)]
          exact Weak.covD 4 (by (conv => whnf); (repeat (refine ⟨rfl, ?_⟩; (conv => whnf))); exact trivial) rfl rfl rfl rfl rfl
      · refine ⟨_, _, eventBegin_sound b1 b2 b o1 (by omega) _ ((j + 1 : Nat) : Int) l[j + 1] he, ?_⟩
        cases hev : eventV b ((j + 1 : Nat) : Int) l[j + 1] with
        | none =>
          rw [hbad hev]
          (conv => whnf); (try (refine ⟨(rfl : (_ : Heap) = _), ?_⟩; (conv => whnf)))
          (repeat (first | (refine ⟨fun _ => ?_, fun h => absurd h (by decide)⟩; (conv => whnf); (try (refine ⟨(rfl : (_ : Heap) = _), ?_⟩; (conv => whnf)))) | (refine ⟨fun h => absurd h (by decide), fun _ => ?_⟩; (conv => whnf); (try (refine ⟨(rfl : (_ : Heap) = _), ?_⟩; (conv => whnf))))))
          refine .inr ⟨by simp, ?_⟩
          conv => whnf
          exact ⟨.inl rfl, _, Weak.cell 2 rfl (WC.nil 0 18), rfl⟩
        | some b' =>
          (conv => whnf); (try (refine ⟨(rfl : (_ : Heap) = _), ?_⟩; (conv => whnf)))
          (first | (refine ⟨fun _ => ?_, ?_⟩; rotate_left 1; (focus (intro h; simp at h; done)); ((conv => whnf); (try (refine ⟨(rfl : (_ : Heap) = _), ?_⟩; (conv => whnf))))) | (refine ⟨?_, fun _ => ?_⟩; (focus (intro h; simp at h; done)); ((conv => whnf); (try (refine ⟨(rfl : (_ : Heap) = _), ?_⟩; (conv => whnf))))))
          have e2 : bkD l (j + 1 + 1) = b' := by unfold bkD; rw [hnext, hev]; rfl
          have e3 : b'.l.length = b.l.length + 1 := by rw [event_len o1 hev, if_pos he]
          refine .inl ⟨rfl, ?_, ⟨b', by rw [hnext, hev]⟩⟩
          dsimp only
          rw [e2, e3, i64_nat (by omega)]
          exact Weak.ren [0, 1, 2, 6] [0, 2, 3, 4, 5, 12, 13, 14] _ _ rfl rfl rfl rfl
  · obtain ⟨b, hb⟩ := hr
    have e1 : ofV l = (b.l, 0) := by unfold ofV; rw [hb]
    rw [e1]
    cases hN : l.length with
    | zero =>
      rw [hN] at hb
      cases hb
      conv => whnf
      refine ⟨fun h => absurd h (by simp), fun _ => ?_⟩
      conv => whnf
      refine ⟨by simp, ?_⟩
      conv => whnf
      exact ⟨.inl rfl, _, Weak.cell 2 rfl (WC.nil 0 18), rfl⟩
    | succ j =>
      have hD : bkD l (j + 1) = b := by unfold bkD; rw [← hN, hb]; rfl
      dsimp only
      rw [hD]
      conv => whnf
      refine ⟨fun h => absurd h (by simp), fun _ => ?_⟩
      conv => whnf
      refine ⟨by simp, ?_⟩
      conv => whnf
      exact ⟨.inl rfl, _, Weak.freezeA 2 rfl rfl (by simp) (fun r hr c hc => by
        obtain ⟨x, _, rfl⟩ := List.mem_map.1 hr
        exact List.all_eq_true.1 (List.all_eq_true.1 (enc_own b.l) _ hr) c hc), rfl⟩

end Go.Cal
