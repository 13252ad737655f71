/- Joined: LinF LinG LinI. -/
import Derived.Test.YtbndjpkncgfpiaaGreatQG
import Derived.Test.YtbndjpkncgfpiaaGreatQH
import Derived.Test.YtbndjpkncgfpiaaGreatQK
/- Layer 29 (linear): a trace's calls held against a mesh, plain; calls of no operation, walked. -/
namespace Go.Lin
open Go.Ab Go.Proofs Go.Hy Go.Gat Go.Nam Go.Hos Go.Con Go.Sna
set_option linter.unusedVariables false
set_option linter.unusedSimpArgs false
set_option maxRecDepth 100000
set_option maxHeartbeats 4000000

abbrev Csc (s : Scr) : C := .agg (encScr s)
abbrev Ccl (c : Cal) : C := .agg (encCal c)
def foreignV (s : Scr) (c : Cal) : Bool := decide (c.thread < 0) || decide (c.thread ≥ (s.threads.length : Int)) || decide (c.op < 0) || (match s.threads[c.thread.toNat]? with | some ops => decide (c.op ≥ (ops.length : Int)) | none => true)
def opV (s : Scr) (c : Cal) : Option Opn := (s.threads[c.thread.toNat]?).bind fun ops => ops[c.op.toNat]?
theorem op_some {s : Scr} {c : Cal} (h : foreignV s c = false) : ∃ ops o, 0 ≤ c.thread ∧ 0 ≤ c.op ∧ s.threads[c.thread.toNat]? = some ops ∧ ops[c.op.toNat]? = some o ∧ opV s c = some o := by
  unfold foreignV at h
  simp only [Bool.or_eq_false_iff, decide_eq_false_iff_not] at h
  obtain ⟨⟨⟨h1, h2⟩, h3⟩, h4⟩ := h
  have h5 : c.thread.toNat < s.threads.length := by omega
  have e1 := List.getElem?_eq_getElem h5
  rw [e1] at h4
  simp only [decide_eq_false_iff_not] at h4
  have h6 : c.op.toNat < (s.threads[c.thread.toNat]).length := by omega
  have e2 := List.getElem?_eq_getElem h6
  exact ⟨_, _, by omega, by omega, e1, e2, by unfold opV; rw [e1]; exact e2⟩

abbrev zeroX : Six := ⟨0, 0, 0, 0, 0, 0⟩
def valAt (l : List Eve) (i : Int) : Int := match l[i.toNat]? with | some e => e.value | none => 0
def ansV (l : List Eve) (o : Opn) (c : Cal) : Option Ans := if 0 ≤ c.to_ then some c.answer else if o.kind = 3 then some ⟨8, valAt l c.point, 0, 0, 0, 0, 0, zeroX⟩ else none
/-- One call: none when it is not taken. -/
def stepV (s : Scr) (l : List Eve) (c : Cal) (m : Msh) : Option (Msh × Bool) := match opV s c with
  | none => none
  | some o => match ansV l o c with
    | none => some (m, false)
    | some a => if (takeV m o a).1 then some ((takeV m o a).2, true) else none
def goV (s : Scr) (l : List Eve) (cs : List Cal) : List Int → Msh → Int → Int × Bool
  | [], m, n => (n, true)
  | i :: is, m, n => match cs[i.toNat]? with
    | none => (n, true)
    | some c => match stepV s l c m with
      | none => (n, false)
      | some (m', b) => goV s l cs is m' (if b then n + 1 else n)
noncomputable def chkV (s : Scr) (l : List Eve) (cs : List Cal × Int) : Int × Bool :=
  if cs.2 ≠ 0 ∨ (buildV s.first).2.1 ≠ 0 ∨ cs.1.any (foreignV s) = true then (0, false) else goV s l cs.1 (Srt.ordV cs.1) (firstM s.first) 0

/-- A mesh behind so many steps. -/
structure GoodN (n : Nat) (m : Msh) : Prop where
  len : m.snaps.length ≤ n + 1
  now0 : 0 ≤ m.now
  now1 : m.now.toNat < m.snaps.length
  all : ∀ s ∈ m.snaps, GoodS s
  dr : m.dr.length ≤ n
theorem GoodN.good {n : Nat} {m : Msh} (h : GoodN n m) (hn : n < 100000000000) : GoodM m := ⟨by have := h.len; omega, h.now0, h.now1, h.all, by have := h.dr; omega⟩
structure SmallQ (o : Opn) : Prop extends SmallP o where
  health : ∀ x ∈ o.config.clusters, x.health.length < 1000000000000
theorem GoodN.take {n : Nat} {m : Msh} {o : Opn} {a : Ans} (h : GoodN n m) (ho : SmallQ o) : GoodN (n + 1) (takeV m o a).2 := by
  have hle := h.len
  have hld := h.dr
  have same : GoodN (n + 1) m := ⟨by omega, h.now0, h.now1, h.all, by omega⟩
  unfold takeV
  split
  · exact same
  · split
    · unfold swapV
      split
      · exact same
      · rename_i h1
        split
        · exact same
        · refine ⟨by simp; omega, by simp, by simp, fun s hs => ?_, by simp; omega⟩
          rcases List.mem_append.1 hs with h2 | h2
          · exact h.all s h2
          · obtain rfl := List.mem_singleton.1 h2
            exact build_good ho.config ho.health (by simpa using h1)
    · split
      · simp only
        split
        · exact ⟨by simp; omega, h.now0, h.now1, h.all, by simp; omega⟩
        · exact same
      · exact same
theorem GoodN.first {c : Cfg} (hc : SmallC c) (hh : ∀ x ∈ c.clusters, x.health.length < 1000000000000) (h : (buildV c).2.1 = 0) : GoodN 0 (firstM c) :=
  ⟨by simp, by simp, by simp, fun s hs => by obtain rfl := List.mem_singleton.1 hs; exact build_good hc hh h, by simp⟩
structure SmallScr (s : Scr) : Prop where
  first : SmallC s.first
  health : ∀ x ∈ s.first.clusters, x.health.length < 1000000000000
  threads : s.threads.length < 4000000000000000000
  ops : ∀ ops ∈ s.threads, ops.length < 4000000000000000000 ∧ ∀ o ∈ ops, SmallQ o

theorem foreign_sound (s : Scr) (c : Cal) : SoundAt Tryz.prog 13 [] [Csc s, Ccl c] (Bo (foreignV s c)) [] := by
  have m1 : (s.threads.map encOps).length = s.threads.length := List.length_map ..
  refine SoundAt.of_wpA1 (fn := Tryz.f13) Tryz.func13 rfl ?_
  conv => whnf
  refine ⟨⟨false, [24], [], []⟩, by kernel_rfl, ?_⟩; (conv => whnf)
  refine ⟨fun h1 => ?_, fun h1 => ?_⟩
  · (conv => whnf); (try (refine ⟨(rfl : (_ : Heap) = _), ?_⟩; (conv => whnf)))
    (exact ⟨.inl rfl, _, .refl _, congrArg (fun b => some (C.v (Value.bool b))) (by unfold foreignV; rw [h1]; rfl)⟩)
  (conv => whnf); (try (refine ⟨(rfl : (_ : Heap) = _), ?_⟩; (conv => whnf)))
  rw [m1]
  refine ⟨fun h2 => ?_, fun h2 => ?_⟩
  · (conv => whnf); (try (refine ⟨(rfl : (_ : Heap) = _), ?_⟩; (conv => whnf)))
    (exact ⟨.inl rfl, _, .refl _, congrArg (fun b => some (C.v (Value.bool b))) (by unfold foreignV; rw [h1, h2]; rfl)⟩)
  (conv => whnf); (try (refine ⟨(rfl : (_ : Heap) = _), ?_⟩; (conv => whnf)))
  refine ⟨fun h3 => ?_, fun h3 => ?_⟩
  · (conv => whnf); (try (refine ⟨(rfl : (_ : Heap) = _), ?_⟩; (conv => whnf)))
    (exact ⟨.inl rfl, _, .refl _, congrArg (fun b => some (C.v (Value.bool b))) (by unfold foreignV; rw [h1, h2, h3]; rfl)⟩)
  have ht : c.thread.toNat < s.threads.length := by simp at h1 h2; omega
  have e1 := List.getElem?_eq_getElem ht
  have hg : (s.threads.map encOps)[c.thread.toNat]? = some (encOps s.threads[c.thread.toNat]) := by rw [List.getElem?_map, e1]; rfl
  have m2 : (s.threads[c.thread.toNat].map encP).length = s.threads[c.thread.toNat].length := List.length_map ..
  have e2 : foreignV s c = decide (c.op ≥ (s.threads[c.thread.toNat].length : Int)) := by unfold foreignV; rw [h1, h2, h3, e1]; rfl
  rw [e2]
  (conv => whnf); (try (refine ⟨(rfl : (_ : Heap) = _), ?_⟩; (conv => whnf)))
  refine ⟨by simp at h1; omega, _, hg, ?_⟩
  (conv => whnf); (try (refine ⟨(rfl : (_ : Heap) = _), ?_⟩; (conv => whnf)))
  rw [m2]
  refine ⟨fun h4 => ?_, fun h4 => ?_⟩
  · (conv => whnf); (try (refine ⟨(rfl : (_ : Heap) = _), ?_⟩; (conv => whnf)))
    (exact ⟨.inl rfl, _, .refl _, congrArg (fun b => some (C.v (Value.bool b))) (by exact h4.symm)⟩)
  · (conv => whnf); (try (refine ⟨(rfl : (_ : Heap) = _), ?_⟩; (conv => whnf)))
    (exact ⟨.inl rfl, _, .refl _, congrArg (fun b => some (C.v (Value.bool b))) (by exact h4.symm)⟩)

theorem idxK_sound {H : Heap} {f : FuncId} {caps : List C} {l : List Cal} (p : Cal → Bool) (hcb : callable Tryz.prog f = true) (hp : ∀ r ∈ l, SoundAt Tryz.prog f H ([Ccl r] ++ caps) (Bo (p r)) H) (hl : l.length < 4611686018427387904) :
    SoundAt Tryz.prog 25 H [lCal l, .fn f [] caps] (I (match l.findIdx? p with | some i => (i : Int) | none => -1)) H := by
  refine SoundAt.of_wpA (fn := Tryz.f25) Tryz.func25 rfl ?_
  conv => whnf
  refine Loops.inv (fun n t1 H1 => ∃ k, k + n = l.length ∧ H1 = H ∧ (∀ j, j < k → ∀ r, l[j]? = some r → p r = false) ∧
     t1 = [lCal l, .fn f [] caps, .junk, .junk, I 0, .junk, .junk, I (l.map encCal).length, I k, .junk, .junk, .junk, .junk, .junk, .junk, .junk, .junk, .junk, .junk]) l.length ?_ ?_
  · exact ⟨_, _, Weak.mask [0, 1, 4, 7, 8] _ _, 0, by simp, rfl, by simp, rfl⟩
  rintro n _ _ ⟨k, hk, rfl, hno, rfl⟩
  conv => whnf
  refine ⟨fun h => ?_, fun h => ?_⟩
  · conv => whnf
    have hlt : k < l.length := by simpa using h
    refine ⟨by omega, encCal l[k], by simp [hlt], ?_⟩
    conv => whnf
    rw [hcb]
    refine ⟨_, _, hp _ (List.getElem_mem hlt), ?_⟩
    conv => whnf
    refine ⟨fun h2 => ?_, fun h2 => ?_⟩
    · conv => whnf
      refine .inr ⟨by simp, ?_⟩
      conv => whnf
      refine ⟨.inl rfl, _, .refl _, rfl, ?_⟩
      have : l.findIdx? p = some k := by
        rw [List.findIdx?_eq_some_iff_getElem]
        refine ⟨hlt, h2, fun j hj => ?_⟩
        simp [hno j hj _ (List.getElem?_eq_getElem (by omega))]
      rw [this]
      rfl
    · conv => whnf
      refine .inl ⟨rfl, n - 1, _, _, by omega, Weak.mask [0, 1, 4, 7, 8] _ _, k + 1, by omega, rfl, ?_, ?_⟩
      · intro j hj r hr
        by_cases hjk : j = k
        · subst hjk
          rw [List.getElem?_eq_getElem hlt] at hr
          cases hr
          exact h2
        · exact hno j (by omega) r hr
      · rw [i64_nat (by omega)]; rfl
  · conv => whnf
    refine .inr ⟨by simp, ?_⟩
    conv => whnf
    refine ⟨.inl rfl, _, .refl _, rfl, ?_⟩
    have : l.findIdx? p = none := by
      rw [List.findIdx?_eq_none_iff]
      intro x hx
      obtain ⟨j, hj⟩ := List.mem_iff_getElem?.1 hx
      have hjl := (List.getElem?_eq_some_iff.1 hj).1
      have : ¬ k < l.length := by simpa using h
      exact hno j (by omega) x hj
    rw [this]
    rfl
theorem conK_sound {H : Heap} {f : FuncId} {caps : List C} {l : List Cal} (p : Cal → Bool) (hcb : callable Tryz.prog f = true) (hp : ∀ r ∈ l, SoundAt Tryz.prog f H ([Ccl r] ++ caps) (Bo (p r)) H) (hl : l.length < 4611686018427387904) :
    SoundAt Tryz.prog 11 H [lCal l, .fn f [] caps] (Bo (l.any p)) H := by
  refine SoundAt.of_wpA (fn := Tryz.f11) Tryz.func11 rfl ?_
  conv => whnf
  refine ⟨_, _, idxK_sound p hcb hp hl, ?_⟩
  (conv => whnf); (try (refine ⟨(rfl : (_ : Heap) = _), ?_⟩; (conv => whnf)))
  rw [show decide ((match l.findIdx? p with | some i => ((i : Nat) : Int) | none => (-1 : Int)) ≥ (0 : Int)) = l.any p from idx_any l p]
  refine ⟨fun h => ?_, fun h => ?_⟩ <;> rw [h]
  · (conv => whnf); (try (refine ⟨(rfl : (_ : Heap) = _), ?_⟩; (conv => whnf)))
    exact ⟨.inl rfl, _, .refl _, rfl, rfl⟩
  · (conv => whnf); (try (refine ⟨(rfl : (_ : Heap) = _), ?_⟩; (conv => whnf)))
    exact ⟨.inl rfl, _, .refl _, rfl, rfl⟩
end Go.Lin

/- Layer 29 (linear): the program's Check, walked. -/
namespace Go.Lin
open Go.Ab Go.Proofs Go.Hy Go.Gat Go.Nam Go.Hos Go.Con Go.Sna Go.Cal
set_option linter.unusedVariables false
set_option linter.unusedSimpArgs false
set_option maxRecDepth 100000
set_option maxHeartbeats 4000000

theorem ofV_ok {l : List Eve} (h : (Cal.ofV l).2 = 0) : (Cal.ofV l).1.length ≤ l.length ∧ ∀ c ∈ (Cal.ofV l).1, CalOk (l.length : Int) c := by
  unfold Cal.ofV at h ⊢
  split
  · rename_i b hb
    have hc := bk_count l hb
    refine ⟨?_, hc.ok⟩
    rw [hc.begun]
    exact Nat.le_trans List.countP_le_length (by simp)
  · rename_i hb
    simp only [hb] at h
    exact absurd h (by decide)
theorem ord_ok {l : List Eve} (h : (Cal.ofV l).2 = 0) {x : Int} (hx : x ∈ Srt.ordV (Cal.ofV l).1) : ∃ c, (Cal.ofV l).1[x.toNat]? = some c ∧ c ∈ (Cal.ofV l).1 ∧ 0 ≤ x ∧ 0 ≤ c.point ∧ c.point.toNat < l.length := by
  obtain ⟨h1, h2, h3⟩ := Srt.idx_mem ((Srt.ordV_perm _).mem_iff.1 hx)
  have hlt : x.toNat < (Cal.ofV l).1.length := by omega
  have hm := List.getElem_mem hlt
  have hp := ((ofV_ok h).2 _ hm).point0
  have hf := ((ofV_ok h).2 _ hm).from0
  have e : Srt.ptV (Cal.ofV l).1 x = ((Cal.ofV l).1[x.toNat]).point := by unfold Srt.ptV; rw [List.getElem?_eq_getElem hlt]; rfl
  rw [e] at h3
  exact ⟨_, List.getElem?_eq_getElem hlt, hm, h1, by omega, by omega⟩
theorem ord_len (cs : List Cal) : (Srt.ordV cs).length ≤ cs.length := by rw [(Srt.ordV_perm cs).length_eq]; exact Srt.idx_len _

theorem chk1_sound (s : Scr) (c : Cal) : SoundAt Tryz.prog 12 [⟨1, 30, 5, [encScr s], 0⟩] ([Ccl c] ++ [.ref 0 [] 5 0 0]) (Bo (foreignV s c)) [⟨1, 30, 5, [encScr s], 0⟩] := by
  refine SoundAt.of_wpA (fn := Tryz.f12) Tryz.func12 rfl ?_
  conv => whnf
  refine ⟨_, _, (foreign_sound s c).frame rfl _, ?_⟩; (conv => whnf); (try (refine ⟨(rfl : (_ : Heap) = _), ?_⟩; (conv => whnf)))
  refine ⟨fun h => ?_, fun h => ?_⟩ <;> rw [h]
  · conv => whnf
    exact ⟨.inl rfl, _, Weak.keep [3] 1 _ _ rfl rfl rfl rfl, rfl, rfl⟩
  · conv => whnf
    exact ⟨.inl rfl, _, Weak.keep [3] 1 _ _ rfl rfl rfl rfl, rfl, rfl⟩

theorem check_sound (s : Scr) (l : List Eve) (hs : SmallScr s) (hl : l.length ≤ 1000000) : SoundAt Tryz.prog 5 [] [Csc s, lEv l] (.tup [I (chkV s l (Cal.ofV l)).1, Bo (chkV s l (Cal.ofV l)).2]) [] := by
  have hlm : (l.map encEv).length = l.length := List.length_map ..
  refine SoundAt.of_wpA1 (fn := Tryz.f5) Tryz.func5 rfl ?_
  conv => whnf
  refine ⟨_, _, (of_sound l (by omega)).frame rfl _, ?_⟩; (conv => whnf); (try (refine ⟨(rfl : (_ : Heap) = _), ?_⟩; (conv => whnf)))
  by_cases hb : (buildV s.first).2.1 = 0
  rotate_left
  · refine callPartR [] ((newNo_sound s.first hs.first hb).toR (R := fun r H' => r = .tup [.v (.pointer none), I (buildV s.first).2.1] ∧ H' = []) ⟨rfl, rfl⟩) (fun r H' h => h.2 ▸ rfl) rfl rfl rfl rfl rfl ?_
    rintro _ _ ⟨rfl, rfl⟩
    have er : chkV s l (Cal.ofV l) = (0, false) := by unfold chkV; rw [if_pos (.inr (.inl hb))]
    rw [er]
    conv => whnf
    refine ⟨fun h1 => ?_, fun h1 => ?_⟩
    · (conv => whnf); (try (refine ⟨(rfl : (_ : Heap) = _), ?_⟩; (conv => whnf)))
      (repeat (first | (refine ⟨fun _ => ?_, fun h => absurd h (by decide)⟩; (conv => whnf); (try (refine ⟨(rfl : (_ : Heap) = _), ?_⟩; (conv => whnf)))) | (refine ⟨fun h => absurd h (by decide), fun _ => ?_⟩; (conv => whnf); (try (refine ⟨(rfl : (_ : Heap) = _), ?_⟩; (conv => whnf))))))
      exact ⟨.inl rfl, _, .refl _, rfl⟩
    · (conv => whnf); (try (refine ⟨(rfl : (_ : Heap) = _), ?_⟩; (conv => whnf)))
      refine ⟨fun _ => ?_, fun h => absurd h (by simp [hb])⟩
      (conv => whnf); (try (refine ⟨(rfl : (_ : Heap) = _), ?_⟩; (conv => whnf)))
      (repeat (first | (refine ⟨fun _ => ?_, fun h => absurd h (by decide)⟩; (conv => whnf); (try (refine ⟨(rfl : (_ : Heap) = _), ?_⟩; (conv => whnf)))) | (refine ⟨fun h => absurd h (by decide), fun _ => ?_⟩; (conv => whnf); (try (refine ⟨(rfl : (_ : Heap) = _), ?_⟩; (conv => whnf))))))
      exact ⟨.inl rfl, _, .refl _, rfl⟩
  refine callPartR [] (newYes_sound s.first hs.first hb) (fun r H' ⟨b, _, h⟩ => h ▸ rfl) rfl rfl rfl rfl rfl ?_
  rintro _ _ ⟨b, rfl, rfl⟩
  conv => whnf
  refine ⟨fun h1 => ?_, fun h1 => ?_⟩
  · have er : chkV s l (Cal.ofV l) = (0, false) := by unfold chkV; rw [if_pos (.inl (by simpa using h1))]
    rw [er]
    (conv => whnf); (try (refine ⟨(rfl : (_ : Heap) = _), ?_⟩; (conv => whnf)))
    (repeat (first | (refine ⟨fun _ => ?_, fun h => absurd h (by decide)⟩; (conv => whnf); (try (refine ⟨(rfl : (_ : Heap) = _), ?_⟩; (conv => whnf)))) | (refine ⟨fun h => absurd h (by decide), fun _ => ?_⟩; (conv => whnf); (try (refine ⟨(rfl : (_ : Heap) = _), ?_⟩; (conv => whnf))))))
    exact ⟨.inl rfl, _, .refl _, rfl⟩
  have h1 : (Cal.ofV l).2 = 0 := by simpa using h1
  (conv => whnf); (try (refine ⟨(rfl : (_ : Heap) = _), ?_⟩; (conv => whnf)))
  (repeat (first | (refine ⟨fun _ => ?_, fun h => absurd h (by decide)⟩; (conv => whnf); (try (refine ⟨(rfl : (_ : Heap) = _), ?_⟩; (conv => whnf)))) | (refine ⟨fun h => absurd h (by decide), fun _ => ?_⟩; (conv => whnf); (try (refine ⟨(rfl : (_ : Heap) = _), ?_⟩; (conv => whnf))))))
  obtain ⟨hcl, hco⟩ := ofV_ok h1
  have hcon := conK_sound (H := [⟨1, 30, 5, [encScr s], 0⟩]) (f := 12) (l := (Cal.ofV l).1) (caps := [.ref 0 [] 5 0 0]) (foreignV s) (by kernel_rfl) (fun r _ => chk1_sound s r) (by omega)
  refine callPart [0] (hcon) rfl rfl rfl rfl rfl rfl ?_; (conv => whnf); (try (refine ⟨(rfl : (_ : Heap) = _), ?_⟩; (conv => whnf)))
  refine ⟨fun h2 => ?_, fun h2 => ?_⟩
  · have er : chkV s l (Cal.ofV l) = (0, false) := by unfold chkV; rw [if_pos (.inr (.inr h2))]
    rw [er]
    (conv => whnf); (try (refine ⟨(rfl : (_ : Heap) = _), ?_⟩; (conv => whnf)))
    (repeat (first | (refine ⟨fun _ => ?_, fun h => absurd h (by decide)⟩; (conv => whnf); (try (refine ⟨(rfl : (_ : Heap) = _), ?_⟩; (conv => whnf)))) | (refine ⟨fun h => absurd h (by decide), fun _ => ?_⟩; (conv => whnf); (try (refine ⟨(rfl : (_ : Heap) = _), ?_⟩; (conv => whnf))))))
    exact ⟨.inl rfl, _, .refl _, rfl⟩
  have er : chkV s l (Cal.ofV l) = goV s l (Cal.ofV l).1 (Srt.ordV (Cal.ofV l).1) (firstM s.first) 0 := by unfold chkV; rw [if_neg (by simp only [h1, hb, h2]; decide)]
  rw [er]
  (conv => whnf); (try (refine ⟨(rfl : (_ : Heap) = _), ?_⟩; (conv => whnf)))
  refine ⟨_, _, (Srt.order_sound (Cal.ofV l).1 (by omega)).frame rfl _, ?_⟩; (conv => whnf); (try (refine ⟨(rfl : (_ : Heap) = _), ?_⟩; (conv => whnf)))
  have hol := ord_len (Cal.ofV l).1
  have om : ((Srt.ordV (Cal.ofV l).1).map encI).length = (Srt.ordV (Cal.ofV l).1).length := List.length_map ..
  have cm : ((Cal.ofV l).1.map encCal).length = (Cal.ofV l).1.length := List.length_map ..
  have hpl : ∀ x ∈ Srt.ordV (Cal.ofV l).1, ∃ c, (Cal.ofV l).1[x.toNat]? = some c ∧ c ∈ (Cal.ofV l).1 ∧ 0 ≤ x ∧ 0 ≤ c.point ∧ c.point.toNat < l.length := fun x hx => ord_ok h1 hx
  revert hpl hol om cm h2 hcl hco
  generalize (Cal.ofV l).1 = cs
  intro hcl hco h2 hol om cm hpl
  rw [om]
  refine Loops.inv (fun q t1 H1 => ∃ (k : Nat) (m : Msh) (n : Nat), k + q = (Srt.ordV cs).length ∧ n ≤ k ∧ GoodN n m ∧ goV s l cs ((Srt.ordV cs).drop k) m n = goV s l cs (Srt.ordV cs) (firstM s.first) 0 ∧ t1 = [Csc s, lEv l, .ref 0 [] 5 0 0, .junk, I 0, Bo false, lCal cs, I (Cal.ofV l).2, .ref 2 [] 3 0 0, I 0, I n, .junk, .junk, .junk, .junk, .junk, .junk, .junk, .junk, .junk, .junk, .junk, .junk, .junk, .junk, .junk, .junk, .junk, .junk, .junk, .junk, .junk, .junk, .junk, .junk, .junk, .junk, .junk, lI (Srt.ordV cs), I (Srt.ordV cs).length, I k, .junk, .junk, .junk, .junk, .junk, .junk, .junk, .junk, .junk, .junk, .junk, .junk, .junk, .junk, .junk, .junk, .junk, .junk, .junk, .junk, .junk, .junk, .junk, .junk, .junk, .junk, .junk, .junk, .junk, .junk, .junk, .junk, .junk, .junk, .junk, .junk, .junk, .junk, .junk, .junk, .junk, .junk, .junk, .junk] ∧ H1 = [⟨1, 30, 5, [encScr s], 0⟩, mapO b m, ⟨1, 86, 3, [[.gl 3 3 ((m).snaps.map encS), I (m).now, .v (.map (some b))]], 0⟩, rowO (m)]) (Srt.ordV cs).length ?_ ?_
  · exact ⟨[Csc s, lEv l, .ref 0 [] 5 0 0, .junk, I 0, Bo false, lCal cs, I (Cal.ofV l).2, .ref 2 [] 3 0 0, I 0, I (0 : Nat), .junk, .junk, .junk, .junk, .junk, .junk, .junk, .junk, .junk, .junk, .junk, .junk, .junk, .junk, .junk, .junk, .junk, .junk, .junk, .junk, .junk, .junk, .junk, .junk, .junk, .junk, .junk, lI (Srt.ordV cs), I (Srt.ordV cs).length, I (0 : Nat), .junk, .junk, .junk, .junk, .junk, .junk, .junk, .junk, .junk, .junk, .junk, .junk, .junk, .junk, .junk, .junk, .junk, .junk, .junk, .junk, .junk, .junk, .junk, .junk, .junk, .junk, .junk, .junk, .junk, .junk, .junk, .junk, .junk, .junk, .junk, .junk, .junk, .junk, .junk, .junk, .junk, .junk, .junk, .junk], _, Weak.cov (by (conv => whnf); (repeat (refine ⟨rfl, ?_⟩; (conv => whnf))); exact trivial), 0, firstM s.first, 0, by omega, by omega, GoodN.first hs.first hs.health hb, rfl, rfl, rfl⟩
  rintro q t1 H1 ⟨k, m, n, k1, k2, k3, k4, rfl, rfl⟩
  conv => whnf
  refine ⟨fun hc => ?_, fun hc => ?_⟩
  rotate_left
  · have hk : (Srt.ordV cs).length ≤ k := by simp at hc; omega
    rw [List.drop_of_length_le hk] at k4
    rw [← k4]
    (conv => whnf); (try (refine ⟨(rfl : (_ : Heap) = _), ?_⟩; (conv => whnf)))
    refine .inr ⟨by simp, ?_⟩
    conv => whnf
    exact ⟨.inl rfl, _, .refl _, rfl⟩
  have hk : k < (Srt.ordV cs).length := by simp at hc; omega
  obtain ⟨c, gc, hcm, x0, p0, p1⟩ := hpl _ (List.getElem_mem hk)
  have gx : ((Srt.ordV cs).map encI)[k]? = some (encI (Srt.ordV cs)[k]) := by rw [List.getElem?_map, List.getElem?_eq_getElem hk]; rfl
  have gy : (cs.map encCal)[((Srt.ordV cs)[k]).toNat]? = some (encCal c) := by rw [List.getElem?_map, gc]; rfl
  have hf : foreignV s c = false := by
    rw [List.any_eq_false] at h2
    simpa using h2 c hcm
  obtain ⟨ops, o, t0, o0, g1, g2, g3⟩ := op_some hf
  have g1' : (s.threads.map encOps)[c.thread.toNat]? = some (encOps ops) := by rw [List.getElem?_map, g1]; rfl
  have g2' : (ops.map encP)[c.op.toNat]? = some (encP o) := by rw [List.getElem?_map, g2]; rfl
  have hq : SmallQ o := (hs.ops ops (List.mem_of_getElem? g1)).2 o (List.mem_of_getElem? g2)
  rw [List.drop_eq_getElem_cons hk] at k4
  simp only [goV, gc] at k4
  have es : stepV s l c m = match ansV l o c with | none => some (m, false) | some a => if (takeV m o a).1 then some ((takeV m o a).2, true) else none := by unfold stepV; rw [g3] <;> rfl
  (conv => whnf); (try (refine ⟨(rfl : (_ : Heap) = _), ?_⟩; (conv => whnf)))
  refine ⟨by omega, _, by rw [toNat_cast]; exact gx, ?_⟩
  (conv => whnf); (try (refine ⟨(rfl : (_ : Heap) = _), ?_⟩; (conv => whnf)))
  refine ⟨x0, _, gy, ?_⟩
  (conv => whnf); (try (refine ⟨(rfl : (_ : Heap) = _), ?_⟩; (conv => whnf)))
  refine ⟨⟨false, [1, 3, 5, 7, 9], [0, 4], []⟩, by kernel_rfl, ?_⟩; (conv => whnf)
  refine ⟨t0, _, g1', ?_⟩
  (conv => whnf); (try (refine ⟨(rfl : (_ : Heap) = _), ?_⟩; (conv => whnf)))
  refine ⟨o0, _, g2', ?_⟩
  (conv => whnf); (try (refine ⟨(rfl : (_ : Heap) = _), ?_⟩; (conv => whnf)))
  repeat (refine ⟨rfl, ?_⟩; ((conv => whnf); (try (refine ⟨(rfl : (_ : Heap) = _), ?_⟩; (conv => whnf)))))
  refine ⟨fun h5 => ?_, fun h5 => ?_⟩
  · have ea : ansV l o c = some c.answer := by unfold ansV; rw [if_pos (by simpa using h5)]
    rw [es, ea] at k4
    simp only at k4
    (conv => whnf); (try (refine ⟨(rfl : (_ : Heap) = _), ?_⟩; (conv => whnf)))
    have ht := take_sound b m (k3.good (by omega)) o c.answer hq.toSmallP
    refine callPart [1, 2, 3] (ht) rfl rfl rfl rfl rfl rfl ?_; (conv => whnf); (try (refine ⟨(rfl : (_ : Heap) = _), ?_⟩; (conv => whnf)))
    refine ⟨fun h7 => ?_, fun h7 => ?_⟩
    · rw [if_pos h7] at k4
      simp only at k4
      (conv => whnf); (try (refine ⟨(rfl : (_ : Heap) = _), ?_⟩; (conv => whnf)))
      (repeat (first | (refine ⟨fun _ => ?_, fun h => absurd h (by decide)⟩; (conv => whnf); (try (refine ⟨(rfl : (_ : Heap) = _), ?_⟩; (conv => whnf)))) | (refine ⟨fun h => absurd h (by decide), fun _ => ?_⟩; (conv => whnf); (try (refine ⟨(rfl : (_ : Heap) = _), ?_⟩; (conv => whnf))))))
      rw [i64_nat (by omega), i64_nat (by omega)]
      refine .inl ⟨rfl, q - 1, [Csc s, lEv l, .ref 0 [] 5 0 0, .junk, I 0, Bo false, lCal cs, I (Cal.ofV l).2, .ref 2 [] 3 0 0, I 0, I (n + 1 : Nat), .junk, .junk, .junk, .junk, .junk, .junk, .junk, .junk, .junk, .junk, .junk, .junk, .junk, .junk, .junk, .junk, .junk, .junk, .junk, .junk, .junk, .junk, .junk, .junk, .junk, .junk, .junk, lI (Srt.ordV cs), I (Srt.ordV cs).length, I (k + 1 : Nat), .junk, .junk, .junk, .junk, .junk, .junk, .junk, .junk, .junk, .junk, .junk, .junk, .junk, .junk, .junk, .junk, .junk, .junk, .junk, .junk, .junk, .junk, .junk, .junk, .junk, .junk, .junk, .junk, .junk, .junk, .junk, .junk, .junk, .junk, .junk, .junk, .junk, .junk, .junk, .junk, .junk, .junk, .junk, .junk], _, by omega, ?_, k + 1, (takeV m o c.answer).2, n + 1, by omega, by omega, k3.take hq, k4, rfl, rfl⟩
      exact Weak.covD 4 (by (conv => whnf); (repeat (refine ⟨rfl, ?_⟩; (conv => whnf))); exact trivial) rfl rfl rfl rfl rfl
    · rw [if_neg (by rw [h7]; decide)] at k4
      simp only at k4
      rw [← k4]
      (conv => whnf); (try (refine ⟨(rfl : (_ : Heap) = _), ?_⟩; (conv => whnf)))
      (repeat (first | (refine ⟨fun _ => ?_, fun h => absurd h (by decide)⟩; (conv => whnf); (try (refine ⟨(rfl : (_ : Heap) = _), ?_⟩; (conv => whnf)))) | (refine ⟨fun h => absurd h (by decide), fun _ => ?_⟩; (conv => whnf); (try (refine ⟨(rfl : (_ : Heap) = _), ?_⟩; (conv => whnf))))))
      refine .inr ⟨by simp, ?_⟩
      conv => whnf
      exact ⟨.inl rfl, _, .refl _, rfl⟩
  have h5 : ¬ 0 ≤ c.to_ := by simpa using h5
  (conv => whnf); (try (refine ⟨(rfl : (_ : Heap) = _), ?_⟩; (conv => whnf)))
  refine ⟨fun h6 => ?_, fun h6 => ?_⟩
  rotate_left
  · have ea : ansV l o c = none := by unfold ansV; rw [if_neg h5, if_neg (by simpa using h6)]
    rw [es, ea] at k4
    simp only at k4
    (conv => whnf); (try (refine ⟨(rfl : (_ : Heap) = _), ?_⟩; (conv => whnf)))
    rw [i64_nat (by omega)]
    refine .inl ⟨rfl, q - 1, [Csc s, lEv l, .ref 0 [] 5 0 0, .junk, I 0, Bo false, lCal cs, I (Cal.ofV l).2, .ref 2 [] 3 0 0, I 0, I n, .junk, .junk, .junk, .junk, .junk, .junk, .junk, .junk, .junk, .junk, .junk, .junk, .junk, .junk, .junk, .junk, .junk, .junk, .junk, .junk, .junk, .junk, .junk, .junk, .junk, .junk, .junk, lI (Srt.ordV cs), I (Srt.ordV cs).length, I (k + 1 : Nat), .junk, .junk, .junk, .junk, .junk, .junk, .junk, .junk, .junk, .junk, .junk, .junk, .junk, .junk, .junk, .junk, .junk, .junk, .junk, .junk, .junk, .junk, .junk, .junk, .junk, .junk, .junk, .junk, .junk, .junk, .junk, .junk, .junk, .junk, .junk, .junk, .junk, .junk, .junk, .junk, .junk, .junk, .junk, .junk], [⟨1, 30, 5, [encScr s], 0⟩, mapO b m, ⟨1, 86, 3, [[.gl 3 3 ((m).snaps.map encS), I (m).now, .v (.map (some b))]], 0⟩, rowO (m)], by omega, ?_, k + 1, m, n, by omega, by omega, k3, k4, rfl, rfl⟩
    exact Weak.covD 4 (by (conv => whnf); (repeat (refine ⟨rfl, ?_⟩; (conv => whnf))); exact trivial) rfl rfl rfl rfl rfl
  have ge : (l.map encEv)[c.point.toNat]? = some (encEv l[c.point.toNat]) := by rw [List.getElem?_map, List.getElem?_eq_getElem p1]; rfl
  have ev : valAt l c.point = l[c.point.toNat].value := by unfold valAt; rw [List.getElem?_eq_getElem p1]
  have ea : ansV l o c = some ⟨8, l[c.point.toNat].value, 0, 0, 0, 0, 0, zeroX⟩ := by unfold ansV; rw [if_neg h5, if_pos (by simpa using h6), ev]
  rw [es, ea] at k4
  simp only at k4
  (conv => whnf); (try (refine ⟨(rfl : (_ : Heap) = _), ?_⟩; (conv => whnf)))
  refine ⟨p0, _, ge, ?_⟩
  (conv => whnf); (try (refine ⟨(rfl : (_ : Heap) = _), ?_⟩; (conv => whnf)))
  have ht := take_sound b m (k3.good (by omega)) o ⟨8, l[c.point.toNat].value, 0, 0, 0, 0, 0, zeroX⟩ hq.toSmallP
  refine callPart [1, 2, 3] (ht) rfl rfl rfl rfl rfl rfl ?_; (conv => whnf); (try (refine ⟨(rfl : (_ : Heap) = _), ?_⟩; (conv => whnf)))
  refine ⟨fun h7 => ?_, fun h7 => ?_⟩
  · rw [if_pos h7] at k4
    simp only at k4
    (conv => whnf); (try (refine ⟨(rfl : (_ : Heap) = _), ?_⟩; (conv => whnf)))
    (repeat (first | (refine ⟨fun _ => ?_, fun h => absurd h (by decide)⟩; (conv => whnf); (try (refine ⟨(rfl : (_ : Heap) = _), ?_⟩; (conv => whnf)))) | (refine ⟨fun h => absurd h (by decide), fun _ => ?_⟩; (conv => whnf); (try (refine ⟨(rfl : (_ : Heap) = _), ?_⟩; (conv => whnf))))))
    rw [i64_nat (by omega), i64_nat (by omega)]
    refine .inl ⟨rfl, q - 1, [Csc s, lEv l, .ref 0 [] 5 0 0, .junk, I 0, Bo false, lCal cs, I (Cal.ofV l).2, .ref 2 [] 3 0 0, I 0, I (n + 1 : Nat), .junk, .junk, .junk, .junk, .junk, .junk, .junk, .junk, .junk, .junk, .junk, .junk, .junk, .junk, .junk, .junk, .junk, .junk, .junk, .junk, .junk, .junk, .junk, .junk, .junk, .junk, .junk, lI (Srt.ordV cs), I (Srt.ordV cs).length, I (k + 1 : Nat), .junk, .junk, .junk, .junk, .junk, .junk, .junk, .junk, .junk, .junk, .junk, .junk, .junk, .junk, .junk, .junk, .junk, .junk, .junk, .junk, .junk, .junk, .junk, .junk, .junk, .junk, .junk, .junk, .junk, .junk, .junk, .junk, .junk, .junk, .junk, .junk, .junk, .junk, .junk, .junk, .junk, .junk, .junk, .junk], _, by omega, ?_, k + 1, (takeV m o ⟨8, l[c.point.toNat].value, 0, 0, 0, 0, 0, zeroX⟩).2, n + 1, by omega, by omega, k3.take hq, k4, rfl, rfl⟩
    exact Weak.covD 4 (by (conv => whnf); (repeat (refine ⟨rfl, ?_⟩; (conv => whnf))); exact trivial) rfl rfl rfl rfl rfl
  · rw [if_neg (by rw [h7]; decide)] at k4
    simp only at k4
    rw [← k4]
    (conv => whnf); (try (refine ⟨(rfl : (_ : Heap) = _), ?_⟩; (conv => whnf)))
    (repeat (first | (refine ⟨fun _ => ?_, fun h => absurd h (by decide)⟩; (conv => whnf); (try (refine ⟨(rfl : (_ : Heap) = _), ?_⟩; (conv => whnf)))) | (refine ⟨fun h => absurd h (by decide), fun _ => ?_⟩; (conv => whnf); (try (refine ⟨(rfl : (_ : Heap) = _), ?_⟩; (conv => whnf))))))
    refine .inr ⟨by simp, ?_⟩
    conv => whnf
    exact ⟨.inl rfl, _, .refl _, rfl⟩
end Go.Lin

/- Layer 29 (linear): what is taken, at given values. -/
namespace Go.Lin
open Go.Ab Go.Proofs Go.Hy Go.Gat Go.Nam Go.Hos Go.Con Go.Sna Go.Cal
set_option linter.unusedVariables false
set_option linter.unusedSimpArgs false
set_option maxRecDepth 100000
set_option maxHeartbeats 4000000

/-- Lists by value, shared, and empty ones alike. -/
def deepC : Nat → C → C
  | 0, c => c
  | k + 1, c => match c with
    | .lst o sz rows => match rows with
      | [] => .lst (if o = 2 then 2 else 0) 0 []
      | r :: rs => .lst (if o = 2 then 2 else 0) sz (r.map (deepC k) :: rs.map fun r => r.map (deepC k))
    | .agg cs => .agg (cs.map (deepC k))
    | c => c
theorem deepC_lst (k o sz : Nat) (rows : List (List C)) (h : rows ≠ []) : deepC (k + 1) (.lst o sz rows) = .lst (if o = 2 then 2 else 0) sz (rows.map fun r => r.map (deepC k)) := by
  cases rows with
  | nil => exact absurd rfl h
  | cons r rs => rfl
theorem cells_map {f : C → C} {rows : List (List C)} {i j : Nat} {r : List C} {c : C} (h1 : (rows.map fun r => r.map f)[i]? = some r) (h2 : r[j]? = some c) : ∃ r0 c0, rows[i]? = some r0 ∧ r0[j]? = some c0 ∧ c = f c0 := by
  rw [List.getElem?_map] at h1
  cases h3 : rows[i]? with
  | none => rw [h3] at h1; cases h1
  | some r0 =>
    rw [h3] at h1
    cases h1
    rw [List.getElem?_map] at h2
    cases h4 : r0[j]? with
    | none => rw [h4] at h2; cases h2
    | some c0 => rw [h4] at h2; cases h2; exact ⟨r0, c0, rfl, h4, rfl⟩
theorem deepC_L : ∀ (k : Nat) {E : Env} {c : C} {y : Value}, L E c y → L E (deepC k c) y := by
  intro k
  induction k with
  | zero => intro E c y h; exact h
  | succ k ih =>
    intro E c y h
    cases h with
    | lst o sz rows b off cap us ho hc hsz hst hL =>
      have ho2 : o ≠ 2 := by rcases ho with h | h <;> omega
      by_cases hr : rows = []
      · subst hr
        have e : deepC (k + 1) (.lst o sz []) = .lst 0 0 [] := by show C.lst (if o = 2 then 2 else 0) 0 _ = _; rw [if_neg ho2]
        rw [e]
        exact .lst 0 0 [] b off cap us (.inl rfl) hc (fun r hr => by cases hr) (fun i r j c h1 h2 => by simp at h1) (fun i r j c h1 h2 => by simp at h1)
      rw [deepC_lst k o sz rows hr, if_neg ho2]
      have := L.lst (E := E) 0 sz (rows.map fun r => r.map (deepC k)) b off cap us (.inl rfl) (by simpa using hc)
        (fun r hr => by obtain ⟨r0, h1, rfl⟩ := List.mem_map.1 hr; simpa using hsz r0 h1)
        (fun i r j c h1 h2 => by obtain ⟨r0, c0, h3, h4, rfl⟩ := cells_map h1 h2; exact hst i r0 j c0 h3 h4)
        (fun i r j c h1 h2 => by obtain ⟨r0, c0, h3, h4, rfl⟩ := cells_map h1 h2; exact ih (hL i r0 j c0 h3 h4))
      rw [List.length_map] at this
      exact this
    | lnil o sz ho a =>
      have ho2 : o ≠ 2 := by rcases ho with h | h <;> omega
      have e : deepC (k + 1) (.lst o sz []) = .lst 0 0 [] := by show C.lst (if o = 2 then 2 else 0) 0 _ = _; rw [if_neg ho2]
      rw [e]
      exact .lnil 0 0 (.inl rfl) a
    | agg cs ys h1 h2 h3 =>
      have := LL.ren (f := deepC k) (E' := E) (cs := cs) (ys := ys.toList) ⟨by simpa using h1, fun i c y e1 e2 => h2 i c y e1 (by simpa using e2)⟩ (fun c y hl => ih hl)
      exact .agg _ ys (by simpa using this.1) (fun i c y e1 e2 => this.2 i c y e1 (by simpa using e2)) h3
    | v x hx => exact .v _ hx
    | sref cells b off us hst hL => exact .sref cells b off us hst hL
    | ref id hops sz i j hn => exact .ref id hops sz i j hn
    | sl id hops sz lo len full cap hn hlen hf hf' => exact .sl id hops sz lo len full cap hn hlen hf hf'
    | fn f first caps ys zs h1 h2 h3 h4 => exact .fn f first caps ys zs h1 h2 h3 h4
    | mp id hn => exact .mp id hn
    | tup cs ys h1 h2 => exact .tup cs ys h1 h2
    | un => exact .un
    | junk y => exact .junk y
    | gl id sz rows y hn hg h => exact .gl id sz rows y hn hg h
    | ifc t c y h => exact .ifc t c y h
/-- Only shared lists, plain values and structs of such. -/
def plainB : Nat → C → Bool
  | 0, _ => true
  | k + 1, c => match c with
    | .lst o _ rows => o == 0 && rows.all fun r => r.all (plainB k)
    | .agg cs => cs.all (plainB k)
    | _ => true
theorem deepC_back : ∀ (k : Nat) {E : Env} {c : C} {y : Value}, plainB k c = true → L E (deepC k c) y → L E c y := by
  intro k
  induction k with
  | zero => intro E c y _ h; exact h
  | succ k ih =>
    intro E c y hp h
    cases c with
    | lst o sz rows =>
      simp only [plainB, Bool.and_eq_true, beq_iff_eq, List.all_eq_true] at hp
      obtain ⟨rfl, hp⟩ := hp
      by_cases hr : rows = []
      · subst hr
        have h : L E (.lst 0 0 []) y := h
        exact WC.none 0 0 sz E y h
      rw [deepC_lst k 0 sz rows hr, if_neg (by decide)] at h
      generalize hgr : (rows.map fun r => r.map (deepC k)) = rows' at h
      cases h with
      | lst _ _ _ b off cap us ho hc hsz hst hL =>
        subst hgr
        have back : ∀ {i : Nat} {r : List C} {j : Nat} {c : C}, rows[i]? = some r → r[j]? = some c → (rows.map fun r => r.map (deepC k))[i]? = some (r.map (deepC k)) ∧ (r.map (deepC k))[j]? = some (deepC k c) := fun h1 h2 => by
          rw [List.getElem?_map, h1, List.getElem?_map, h2]; exact ⟨rfl, rfl⟩
        have := L.lst (E := E) 0 sz rows b off cap us (.inl rfl) (by simpa using hc)
          (fun r hr => by have := hsz _ (List.mem_map_of_mem (f := fun r => r.map (deepC k)) hr); simpa using this)
          (fun i r j c h1 h2 => hst i _ j _ (back h1 h2).1 (back h1 h2).2)
          (fun i r j c h1 h2 => ih (hp r (List.mem_of_getElem? h1) c (List.mem_of_getElem? h2)) (hL i _ j _ (back h1 h2).1 (back h1 h2).2))
        rw [List.length_map]
        exact this
      | lnil o sz ho a => exact absurd (List.map_eq_nil_iff.1 hgr) hr
    | agg cs =>
      have hp : cs.all (plainB k) = true := hp
      rw [List.all_eq_true] at hp
      have h : L E (.agg (cs.map (deepC k))) y := h
      generalize hg : cs.map (deepC k) = cs' at h
      cases h with
      | agg _ ys h1 h2 h3 =>
        subst hg
        refine .agg cs ys (by simpa using h1) (fun i c y e1 e2 => ih (hp c (List.mem_of_getElem? e1)) (h2 i _ y (by rw [List.getElem?_map, e1]; rfl) e2)) h3
    | _ => exact h
theorem SoundAt.deep {P : Program} {f : FuncId} {H H' : Heap} {args : List C} {r : C} (k : Nat) (h : SoundAt P f H args r H') {r' : C} (hp : plainB k r' = true) (hr : deepC k r = deepC k r') : SoundAt P f H args r' H' := fun w E vs hh hl =>
  (h w E vs hh hl).mono fun e w' ⟨v, E', h1, h2, h3, h4⟩ => ⟨v, E', h1, h2, deepC_back k hp (hr ▸ deepC_L k h3), h4⟩
/-- Arguments that say more. -/
theorem SoundAt.deepA {P : Program} {f : FuncId} {H H' : Heap} {args args' : List C} {r : C} (k : Nat) (h : SoundAt P f H args r H') (hp : args.all (plainB k) = true) (ha : args'.map (deepC k) = args.map (deepC k)) : SoundAt P f H args' r H' := fun w E vs hh hl =>
  h w E vs hh ⟨by have := congrArg List.length ha; simp at this; rw [← this]; exact hl.1, fun i c y e1 e2 => by
    have e3 : (args'.map (deepC k))[i]? = some (deepC k c) := by rw [ha, List.getElem?_map, e1]; rfl
    rw [List.getElem?_map] at e3
    cases hx : args'[i]? with
    | none => rw [hx] at e3; cases e3
    | some c' =>
      rw [hx] at e3
      simp only [Option.map_some, Option.some.injEq] at e3
      exact deepC_back k (List.all_eq_true.1 hp c (List.mem_of_getElem? e1)) (e3 ▸ deepC_L k (hl.2 i c' y hx e2))⟩

abbrev tIn : Str := [105, 110]
abbrev tA : Str := [97]
abbrev tStar : Str := [42]
abbrev tSl : Str := [47]
abbrev tX : Str := [120]
abbrev cfg0 : Cfg := ⟨[tIn], [⟨tIn, tStar, tSl, tA⟩], [⟨tA, 1, 1, [false, true]⟩]⟩
abbrev cfgZ : Cfg := ⟨[], [], []⟩
abbrev sna0 : Sna := ⟨[tIn], [⟨0, tStar, tSl, 0⟩], [⟨tA, 1, 1, [false, true]⟩]⟩
abbrev opR : Opn := ⟨1, tIn, tX, tSl, 0, 0, 0, cfgZ⟩
abbrev opS : Opn := ⟨3, [], [], [], 0, 0, 0, cfg0⟩
abbrev opZ : Opn := ⟨3, [], [], [], 0, 0, 0, cfgZ⟩
abbrev opD : Opn := ⟨4, tIn, [], [], 0, 0, 0, cfgZ⟩
abbrev an (k v e n : Int) : Ans := ⟨k, v, 0, e, 0, 0, n, zeroX⟩
abbrev msh0 : Msh := ⟨[sna0], 0, []⟩
abbrev msh1 : Msh := ⟨[sna0, sna0], 1, []⟩
abbrev msh2 : Msh := ⟨[sna0, sna0], 1, [tIn]⟩
theorem first0 : firstM cfg0 = msh0 := by kernel_rfl
theorem bld0 : (buildV cfg0).2.1 = 0 := by kernel_rfl
theorem bldZ : (buildV cfgZ).2.1 = 6 := by kernel_rfl
theorem tk1 : takeV msh0 opR (an 1 0 1 0) = (true, msh0) := by kernel_rfl
theorem tk2 : takeV msh0 opR (an 1 0 0 0) = (false, msh0) := by kernel_rfl
theorem tk3 : takeV msh0 opS (an 8 1 0 0) = (true, msh1) := by kernel_rfl
theorem tk4 : takeV msh1 opR (an 1 0 1 0) = (false, msh1) := by kernel_rfl
theorem tk5 : takeV msh1 opZ (an 9 0 0 6) = (true, msh1) := by kernel_rfl
theorem tk6 : takeV msh1 opD (an 10 0 0 0) = (true, msh2) := by kernel_rfl
theorem tk7 : takeV msh2 opR (an 5 0 0 0) = (true, msh2) := by kernel_rfl
theorem tk8 : takeV msh2 opR (an 4 0 0 0) = (false, msh2) := by kernel_rfl
abbrev scr0 : Scr := ⟨cfg0, [[opR]], []⟩
abbrev evt (e : Int) : Eve := ⟨0, 0, 0, 0, 0, false, 0, true, true, true, an 1 0 e 0⟩
abbrev cal0 (e : Int) : Cal := ⟨0, 0, 0, 0, 0, an 1 0 e 0⟩
theorem of_e1 : Cal.ofV [evt 1] = ([cal0 1], 0) := by kernel_rfl
theorem of_e0 : Cal.ofV [evt 0] = ([cal0 0], 0) := by kernel_rfl
theorem ord_one (e : Int) : Srt.ordV [cal0 e] = [0] := by
  have h := Srt.ordV_perm [cal0 e]
  rw [show Srt.idx [cal0 e] [cal0 e].length = [(0 : Int)] from rfl] at h
  exact List.perm_singleton.1 h
theorem chk_e1 : chkV scr0 [evt 1] (Cal.ofV [evt 1]) = (1, true) := by
  rw [of_e1]
  unfold chkV
  rw [if_neg (by simp only; decide), ord_one, first0]
  kernel_rfl
theorem chk_e0 : chkV scr0 [evt 0] (Cal.ofV [evt 0]) = (0, false) := by
  rw [of_e0]
  unfold chkV
  rw [if_neg (by simp only; decide), ord_one, first0]
  kernel_rfl
theorem smallZ : SmallC cfgZ := ⟨by decide, by decide, by decide⟩
theorem small0 : SmallC cfg0 := ⟨by decide, by decide, by decide⟩
theorem goodS0 : GoodS sna0 := by
  have h := build_good small0 (by decide) bld0
  rw [show (buildV cfg0).1 = sna0 from by kernel_rfl] at h
  exact h
theorem plain_sound : SoundAt Tryz.prog 21 [] [] (Cf cfg0) [] := by
  refine SoundAt.deep 9 (r := .agg [.lst 1 1 [[Tx tIn]], .lst 1 4 [[Tx tIn, Tx tStar, Tx tSl, Tx tA]], .lst 1 4 [[Tx tA, I 1, I 1, .lst 1 1 [[Bo false], [Bo true]]]]]) ?_ rfl rfl
  refine SoundAt.of_wpA1 (fn := Tryz.f21) Tryz.func21 rfl ?_
  conv => whnf
  exact ⟨.inl rfl, _, .refl _, rfl⟩
theorem versionNil_sound : SoundAt Tryz.prog 22 [] [.v (.pointer none)] (I (-1)) [] := by
  refine SoundAt.of_wpA1 (fn := Tryz.f22) Tryz.func22 rfl ?_
  conv => whnf
  (repeat (first | (refine ⟨fun _ => ?_, fun h => absurd h (by decide)⟩; (conv => whnf); (try (refine ⟨(rfl : (_ : Heap) = _), ?_⟩; (conv => whnf)))) | (refine ⟨fun h => absurd h (by decide), fun _ => ?_⟩; (conv => whnf); (try (refine ⟨(rfl : (_ : Heap) = _), ?_⟩; (conv => whnf))))))
  exact ⟨.inl rfl, _, .refl _, rfl⟩
theorem takeNil_sound (o : Opn) (a : Ans) : SoundAt Tryz.prog 15 [] [.v (.pointer none), Cp o, Ca a] (Bo false) [] := by
  refine SoundAt.of_wpA1 (fn := Tryz.f15) Tryz.func15 rfl ?_
  conv => whnf
  (repeat (first | (refine ⟨fun _ => ?_, fun h => absurd h (by decide)⟩; (conv => whnf); (try (refine ⟨(rfl : (_ : Heap) = _), ?_⟩; (conv => whnf)))) | (refine ⟨fun h => absurd h (by decide), fun _ => ?_⟩; (conv => whnf); (try (refine ⟨(rfl : (_ : Heap) = _), ?_⟩; (conv => whnf))))))
  exact ⟨.inl rfl, _, .refl _, rfl⟩
theorem gm0 : GoodM msh0 := ⟨by decide, by decide, by decide, fun s hs => by obtain rfl := List.mem_singleton.1 hs; exact goodS0, by decide⟩
theorem gm1 : GoodM msh1 := ⟨by decide, by decide, by decide, fun s hs => by rcases List.mem_cons.1 hs with rfl | hs; exact goodS0; obtain rfl := List.mem_singleton.1 hs; exact goodS0, by decide⟩
theorem gm2 : GoodM msh2 := ⟨by decide, by decide, by decide, gm1.all, by decide⟩
theorem spR : SmallP opR := ⟨by decide, by decide, smallZ⟩
theorem spS : SmallP opS := ⟨by decide, by decide, small0⟩
theorem spZ : SmallP opZ := ⟨by decide, by decide, smallZ⟩
theorem spD : SmallP opD := ⟨by decide, by decide, smallZ⟩
theorem sscr0 : SmallScr scr0 := by
  refine ⟨small0, by decide, by decide, fun ops h => ?_⟩
  obtain rfl := List.mem_singleton.1 h
  refine ⟨by decide, fun o h2 => ?_⟩
  obtain rfl := List.mem_singleton.1 h2
  exact ⟨spR, by decide⟩

theorem taken_sound : SoundAt Tryz.prog 7 [] [] (Bo true) [] := by
  have hn : SoundR Tryz.prog 10 [] [Cf cfg0] (NewR cfg0) := newYes_sound cfg0 small0 bld0
  refine SoundAt.of_wpA1 (fn := Tryz.f7) Tryz.func7 rfl ?_
  conv => whnf
  refine ⟨_, _, (plain_sound).frame rfl _, ?_⟩; (conv => whnf); (try (refine ⟨(rfl : (_ : Heap) = _), ?_⟩; (conv => whnf)))
  refine callPartR [] hn (fun r H' ⟨b, _, h⟩ => h ▸ rfl) rfl rfl rfl rfl rfl ?_
  rintro _ _ ⟨b, rfl, rfl⟩
  rw [first0]
  have t1 := take_sound b msh0 gm0 opR (an 1 0 1 0) spR
  have t2 := take_sound b msh0 gm0 opR (an 1 0 0 0) spR
  have t3 := take_sound b msh0 gm0 opS (an 8 1 0 0) spS
  have t4 := take_sound b msh1 gm1 opR (an 1 0 1 0) spR
  have t5 := take_sound b msh1 gm1 opZ (an 9 0 0 6) spZ
  have t6 := take_sound b msh1 gm1 opD (an 10 0 0 0) spD
  have t7 := take_sound b msh2 gm2 opR (an 5 0 0 0) spR
  have t8 := take_sound b msh2 gm2 opR (an 4 0 0 0) spR
  rw [tk1] at t1
  rw [tk2] at t2
  rw [tk3] at t3
  rw [tk4] at t4
  rw [tk5] at t5
  rw [tk6] at t6
  rw [tk7] at t7
  rw [tk8] at t8
  conv => whnf
  refine ⟨_, _, (plain_sound).frame rfl _, ?_⟩; (conv => whnf); (try (refine ⟨(rfl : (_ : Heap) = _), ?_⟩; (conv => whnf)))
  refine callPart [0, 1, 2] (SoundAt.deepA 9 (t1) rfl ?_) rfl rfl rfl rfl rfl rfl ?_; (focus rfl); (conv => whnf); (try (refine ⟨(rfl : (_ : Heap) = _), ?_⟩; (conv => whnf)))
  (refine ⟨fun _ => ?_, fun h => absurd (h.symm.trans rfl : false = true) (by decide)⟩); (conv => whnf); (try (refine ⟨(rfl : (_ : Heap) = _), ?_⟩; (conv => whnf)))
  refine callPart [0, 1, 2] (SoundAt.deepA 9 (t2) rfl ?_) rfl rfl rfl rfl rfl rfl ?_; (focus rfl); (conv => whnf); (try (refine ⟨(rfl : (_ : Heap) = _), ?_⟩; (conv => whnf)))
  (refine ⟨fun h => absurd (h.symm.trans rfl : true = false) (by decide), fun _ => ?_⟩); (conv => whnf); (try (refine ⟨(rfl : (_ : Heap) = _), ?_⟩; (conv => whnf)))
  refine callPart [0, 1, 2] (SoundAt.deepA 9 (t3) rfl ?_) rfl rfl rfl rfl rfl rfl ?_; (focus rfl); (conv => whnf); (try (refine ⟨(rfl : (_ : Heap) = _), ?_⟩; (conv => whnf)))
  (refine ⟨fun _ => ?_, fun h => absurd (h.symm.trans rfl : false = true) (by decide)⟩); (conv => whnf); (try (refine ⟨(rfl : (_ : Heap) = _), ?_⟩; (conv => whnf)))
  refine callPart [0, 1, 2] (SoundAt.deepA 9 (t4) rfl ?_) rfl rfl rfl rfl rfl rfl ?_; (focus rfl); (conv => whnf); (try (refine ⟨(rfl : (_ : Heap) = _), ?_⟩; (conv => whnf)))
  (refine ⟨fun h => absurd (h.symm.trans rfl : true = false) (by decide), fun _ => ?_⟩); (conv => whnf); (try (refine ⟨(rfl : (_ : Heap) = _), ?_⟩; (conv => whnf)))
  refine callPart [0, 1, 2] (SoundAt.deepA 9 (t5) rfl ?_) rfl rfl rfl rfl rfl rfl ?_; (focus rfl); (conv => whnf); (try (refine ⟨(rfl : (_ : Heap) = _), ?_⟩; (conv => whnf)))
  (refine ⟨fun _ => ?_, fun h => absurd (h.symm.trans rfl : false = true) (by decide)⟩); (conv => whnf); (try (refine ⟨(rfl : (_ : Heap) = _), ?_⟩; (conv => whnf)))
  refine callPart [0, 1, 2] (SoundAt.deepA 9 (t6) rfl ?_) rfl rfl rfl rfl rfl rfl ?_; (focus rfl); (conv => whnf); (try (refine ⟨(rfl : (_ : Heap) = _), ?_⟩; (conv => whnf)))
  (refine ⟨fun _ => ?_, fun h => absurd (h.symm.trans rfl : false = true) (by decide)⟩); (conv => whnf); (try (refine ⟨(rfl : (_ : Heap) = _), ?_⟩; (conv => whnf)))
  refine callPart [0, 1, 2] (SoundAt.deepA 9 (t7) rfl ?_) rfl rfl rfl rfl rfl rfl ?_; (focus rfl); (conv => whnf); (try (refine ⟨(rfl : (_ : Heap) = _), ?_⟩; (conv => whnf)))
  (refine ⟨fun _ => ?_, fun h => absurd (h.symm.trans rfl : false = true) (by decide)⟩); (conv => whnf); (try (refine ⟨(rfl : (_ : Heap) = _), ?_⟩; (conv => whnf)))
  refine callPart [0, 1, 2] (SoundAt.deepA 9 (t8) rfl ?_) rfl rfl rfl rfl rfl rfl ?_; (focus rfl); (conv => whnf); (try (refine ⟨(rfl : (_ : Heap) = _), ?_⟩; (conv => whnf)))
  (refine ⟨fun h => absurd (h.symm.trans rfl : true = false) (by decide), fun _ => ?_⟩); (conv => whnf); (try (refine ⟨(rfl : (_ : Heap) = _), ?_⟩; (conv => whnf)))
  refine ⟨⟨true, [0, 1], [3], [0]⟩, by kernel_rfl, ?_⟩; (conv => whnf)
  refine ⟨_, fun H2 => (plain_sound).frame rfl H2, ?_⟩; (conv => whnf); (try (refine ⟨(rfl : (_ : Heap) = _), ?_⟩; (conv => whnf)))
  repeat (refine ⟨rfl, ?_⟩; ((conv => whnf); (try (refine ⟨(rfl : (_ : Heap) = _), ?_⟩; (conv => whnf)))))
  have c1 := check_sound scr0 [evt 1] sscr0 (by decide)
  rw [chk_e1] at c1
  have c0 := check_sound scr0 [evt 0] sscr0 (by decide)
  rw [chk_e0] at c0
  refine ⟨_, _, (SoundAt.deepA 9 (c1) rfl ?_).frame rfl _, ?_⟩; (focus rfl); (conv => whnf); (try (refine ⟨(rfl : (_ : Heap) = _), ?_⟩; (conv => whnf)))
  (refine ⟨fun _ => ?_, fun h => absurd (h.symm.trans rfl : false = true) (by decide)⟩); (conv => whnf); (try (refine ⟨(rfl : (_ : Heap) = _), ?_⟩; (conv => whnf)))
  refine ⟨_, _, (SoundAt.deepA 9 (c0) rfl ?_).frame rfl _, ?_⟩; (focus rfl); (conv => whnf); (try (refine ⟨(rfl : (_ : Heap) = _), ?_⟩; (conv => whnf)))
  (refine ⟨fun h => absurd (h.symm.trans rfl : true = false) (by decide), fun _ => ?_⟩); (conv => whnf); (try (refine ⟨(rfl : (_ : Heap) = _), ?_⟩; (conv => whnf)))
  have z := newNo_sound cfgZ smallZ (by rw [bldZ]; decide)
  rw [bldZ] at z
  refine callPartR [] (Go.Ab.SoundAt.toR (R := fun r H' => r = .tup [.v (.pointer none), I 6] ∧ H' = []) (SoundAt.deepA 9 z rfl ?_) ⟨rfl, rfl⟩) (fun r H' h => by obtain ⟨_, rfl⟩ := h; rfl) rfl rfl rfl rfl rfl ?_
  (focus rfl)
  rintro _ _ ⟨rfl, rfl⟩
  conv => whnf
  (repeat ((refine ⟨fun _ => ?_, fun h => absurd (h.symm.trans rfl : false = true) (by decide)⟩); (conv => whnf); (try (refine ⟨(rfl : (_ : Heap) = _), ?_⟩; (conv => whnf)))))
  refine callPart [0, 1, 2] (version_sound b msh2) rfl rfl rfl rfl rfl rfl ?_; (conv => whnf); (try (refine ⟨(rfl : (_ : Heap) = _), ?_⟩; (conv => whnf)))
  (repeat ((refine ⟨fun _ => ?_, fun h => absurd (h.symm.trans rfl : false = true) (by decide)⟩); (conv => whnf); (try (refine ⟨(rfl : (_ : Heap) = _), ?_⟩; (conv => whnf)))))
  refine ⟨_, _, (versionNil_sound).frame rfl _, ?_⟩; (conv => whnf); (try (refine ⟨(rfl : (_ : Heap) = _), ?_⟩; (conv => whnf)))
  (repeat ((refine ⟨fun _ => ?_, fun h => absurd (h.symm.trans rfl : false = true) (by decide)⟩); (conv => whnf); (try (refine ⟨(rfl : (_ : Heap) = _), ?_⟩; (conv => whnf)))))
  refine ⟨_, _, (SoundAt.deepA 9 (takeNil_sound opR (an 0 0 0 0)) rfl ?_).frame rfl _, ?_⟩; (focus rfl); (conv => whnf); (try (refine ⟨(rfl : (_ : Heap) = _), ?_⟩; (conv => whnf)))
  (refine ⟨fun h => absurd (h.symm.trans rfl : true = false) (by decide), fun _ => ?_⟩); (conv => whnf); (try (refine ⟨(rfl : (_ : Heap) = _), ?_⟩; (conv => whnf)))
  exact ⟨.inl rfl, _, .refl _, rfl⟩
end Go.Lin

