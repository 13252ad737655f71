/- Regions that draw their order and turn the heap: one walk of the lexical order serves every order, where each look at the heap stands in a chain with what turns it. -/
import Derived.Test.YtbndjpkncgfpiaaAbF
import Derived.Test.YtbndjpkncgfpiaaAbC
namespace Go.Ab
set_option linter.unusedVariables false

/-- It may turn the heap, as far as its text tells. -/
def turnsO (calls : Bool) (o : Oper) : Bool :=
  match o.op with
  | .alloc _ | .box .. | .store .. | .makeSlice .. | .makeMap .. | .mapUpdate .. | .insert .. | .mapEntry .. | .entryStore .. => true
  | .call cl => match cl.callee with
    | .builtin .len => false
    | .builtin _ => true
    | _ => calls
  | _ => false

/-- It does not look at the heap. -/
def blindO (o : Oper) : Bool :=
  match o.op with
  | .move _ | .assign _ | .pick .. | .fieldAddr .. | .indexAddr .. | .extract .. | .nilCheck _ | .makeFunc .. | .build .. | .buildSlice .. | .slice .. | .index .. | .binOp .. | .unOp .. | .convert .. => true
  | .call cl => match cl.callee with
    | .builtin .len => true
    | _ => false
  | _ => false

section
variable {P : Program} {o : Oper} {ρ : Operand → C} {H : Heap} {K : C → Heap → Prop}

/-- **What does not look at the heap yields the same over each.** -/
theorem stepC_blind (hb : blindO o = true) (h : stepC P H ρ o K) : ∃ c, (∀ H2, OpV P o ρ H2 c H2) ∧ K c H := by
  unfold stepC at h
  split at h
  · rename_i x ho
    exact ⟨_, fun H2 => .same <| .move x (.inl ho), forceC_spec (k := fun c => K c H) h⟩
  · rename_i x ho
    exact ⟨_, fun H2 => .same <| .move x (.inr ho), forceC_spec (k := fun c => K c H) h⟩
  · rename_i x y z ho
    split at h
    · rename_i b hb
      exact ⟨_, fun H2 => .same <| .pick x y z ho b hb, forceC_spec (k := fun c => K c H) h⟩
    · exact h.elim
  · rename_i t ho; simp [blindO, ho] at hb
  · rename_i t x ho; simp [blindO, ho] at hb
  · rename_i t x f ho; exact fieldK_spec ho h
  · rename_i t x y ho; obtain ⟨c, h1, h2⟩ := indexK_spec (ρ := fun x => asL (ρ x)) ho h; exact ⟨c, fun H2 => (h1 H2).asL, h2⟩
  · rename_i t x y ho; exact indexV_spec ho h
  · rename_i t x ho; simp [blindO, ho] at hb
  · rename_i t x y ho; simp [blindO, ho] at hb
  · rename_i x n ho
    split at h
    · rename_i vs hx
      split at h
      · rename_i c hc
        exact ⟨c, fun H2 => .same <| .extract x n ho hx hc, forceC_spec (k := fun c => K c H) (okB_spec (k := fun c => forceC c fun c => K c H) h)⟩
      · exact h.elim
    · exact h.elim
  · rename_i x ho
    exact ⟨_, fun H2 => .same <| .nilCheck x ho (bK_spec h).1, forceC_spec (k := fun c => K c H) (bK_spec h).2⟩
  · rename_i f first caps ho
    split at h
    · have h := eachK_spec (fun _ _ h => forceC_spec h) h
      exact ⟨_, fun H2 => .same <| .makeFunc _ first caps ho, eachK_spec (fun _ _ h => forceC_spec h) (k := fun b => K (.fn _ (first.toList.map ρ) b) H) h⟩
    · exact h.elim
  · rename_i t parts ho
    split at h
    · rename_i cs hc
      exact ⟨_, fun H2 => .same <| .build t parts ho hc, eachK_spec (fun _ _ h => forceC_spec h) (k := fun cs => K (.agg cs) H) h⟩
    · exact h.elim
  · rename_i t len parts ho
    split at h
    · rename_i c hc
      split at h
      · rename_i o' sz rows
        have h := eachK_spec (fun _ _ h => eachK_spec (fun _ _ h => forceC_spec h) h) (k := fun rows => forceN sz fun sz => K (.lst o' sz rows) H) h
        exact ⟨_, fun H2 => .asL (ρ := ρ) <| .same <| .buildSlice t len parts ho hc, forceN_spec (k := fun sz => K (.lst o' sz rows) H) h⟩
      · exact h.elim
    · exact h.elim
  · rename_i t x lo hi mx ho; obtain ⟨c, h1, h2⟩ := sliceK_spec (ρ := fun x => asL (ρ x)) ho h; exact ⟨c, fun H2 => (h1 H2).asL, h2⟩
  · rename_i t x y ho; simp [blindO, ho] at hb
  · rename_i ho; simp [blindO, ho] at hb
  · rename_i ho; simp [blindO, ho] at hb
  · rename_i ho; simp [blindO, ho] at hb
  · rename_i ho; simp [blindO, ho] at hb
  · rename_i cl ho
    have hc : cl.callee = .builtin .len := by
      simp only [blindO, ho] at hb
      split at hb
      · assumption
      · cases hb
    have hns : notSelect o = true := by simp [notSelect, ho]
    unfold callK at h
    rw [hc] at h
    dsimp only at h
    split at h
    · rename_i x t hx ht
      split at h
      · rename_i e hu
        split at h
        · rename_i n hn
          exact ⟨_, fun H2 => .asL (ρ := ρ) <| .same <| .len cl ho hc x (Array.of_toList hx) (Array.of_toList ht) hu hn, h⟩
        · exact h.elim
      · rename_i hu
        split at h
        · rename_i s hs
          obtain ⟨⟨b⟩⟩ := s
          exact ⟨_, fun H2 => .same <| .strLen cl ho hc x (Array.of_toList hx) (Array.of_toList ht) hu hs, h⟩
        · exact h.elim
      · split at h
        · rename_i v e
          obtain ⟨h1, h2⟩ := bK_spec h
          simp only [Bool.and_eq_true, Array.all_toList] at h1
          exact ⟨.v v, fun H2 => .same <| .scalar hns h1.1 e h1.2, okB_spec (k := fun c => K c H) h2⟩
        · exact h.elim
    · exact h.elim
  · rename_i op t x y t' ho
    split at h
    · rename_i xs ys hx hy
      obtain ⟨h1, h⟩ := h
      simp only [Bool.and_eq_true, Bool.not_eq_true'] at h1
      split at h
      · rename_i b hb
        split at h
        · exact ⟨_, fun H2 => .same <| .eqStruct .eql t t' x y ho (.inl rfl) h1.1 h1.2 hx hy hb, okB_spec (k := fun c => K c H) h⟩
        · exact ⟨_, fun H2 => .same <| .eqStruct .neq t t' x y ho (.inr rfl) h1.1 h1.2 hx hy hb, okB_spec (k := fun c => K c H) h⟩
        · exact h.elim
      · exact h.elim
    · rename_i s s' hx hy
      obtain ⟨⟨a⟩⟩ := s
      obtain ⟨⟨b⟩⟩ := s'
      exact strK_spec ho hx hy h
    · exact scalar_spec h
  · rename_i src dst x ho; exact convK_spec ho h
  · split at h
    · rename_i v e
      obtain ⟨h1, h2⟩ := bK_spec h
      simp only [Bool.and_eq_true, Array.all_toList] at h1
      exact ⟨.v v, fun H2 => .same <| .scalar h1.1.1 h1.1.2 e h1.2, litB_spec (k := fun c => K c H) h2⟩
    · exact h.elim
  · exact scalar_spec h

end

section
variable {P : Program} {B : Nat} {ops : Array Oper} {md : Region.Mode} {Hs : Nat → Heap} {eff : Nat → Bool} {idx : Nat → Nat} {inR : Nat → Nat → Bool}

/-- Whom each one waits for, through others, as bits. -/
def maskStep (md : Region.Mode) (ms : List Nat) (o : Oper) : List Nat :=
  ms ++ [o.after.toList.foldl (fun m e => if Region.binds md e then m ||| (1 <<< e.on) ||| (ms[e.on]?).getD 0 else m) 0]
def masks (md : Region.Mode) (ops : Array Oper) : List Nat := ops.toList.foldl (maskStep md) []
def depB (md : Region.Mode) (ops : Array Oper) (ms : List Nat) (j i : Nat) : Bool := Nat.testBit ((ms[j]?).getD 0) i

theorem mask_fold {md : Region.Mode} {ms : List Nat} {i : Nat} : ∀ {l : List Edge} {m0 : Nat}, Nat.testBit (l.foldl (fun m e => if Region.binds md e then m ||| (1 <<< e.on) ||| (ms[e.on]?).getD 0 else m) m0) i = true →
    Nat.testBit m0 i = true ∨ ∃ e ∈ l, Region.binds md e = true ∧ (e.on = i ∨ Nat.testBit ((ms[e.on]?).getD 0) i = true)
  | [], m0, h => .inl h
  | e :: l, m0, h => by
    rw [List.foldl_cons] at h
    rcases mask_fold h with h1 | ⟨e', h1, h2⟩
    · split at h1
      · rename_i hb
        simp only [Nat.testBit_or, Bool.or_eq_true] at h1
        rcases h1 with (h1 | h1) | h1
        · exact .inl h1
        · refine .inr ⟨e, by simp, hb, .inl ?_⟩
          rw [Nat.testBit_shiftLeft] at h1
          simp only [Bool.and_eq_true, decide_eq_true_eq] at h1
          obtain ⟨h2, h3⟩ := h1
          have := Nat.testBit_one_eq_true_iff_self_eq_zero.1 h3
          omega
        · exact .inr ⟨e, by simp, hb, .inr h1⟩
      · exact .inl h1
    · exact .inr ⟨e', by simp [h1], h2⟩

/-- The masks are right for these. -/
def MaskOK (md : Region.Mode) (l : List Oper) (ms : List Nat) : Prop := ms.length = l.length ∧ ∀ (j i : Nat), Nat.testBit ((ms[j]?).getD 0) i = true →
    ∃ oj, l[j]? = some oj ∧ ∃ e ∈ oj.after, Region.binds md e = true ∧ (e.on = i ∨ (e.on < j ∧ Nat.testBit ((ms[e.on]?).getD 0) i = true))

theorem MaskOK.step {md : Region.Mode} {l : List Oper} {ms : List Nat} (h0 : MaskOK md l ms) (o : Oper) : MaskOK md (l ++ [o]) (maskStep md ms o) := by
  obtain ⟨ih1, ih2⟩ := h0
  refine ⟨by simp [maskStep, ih1], ?_⟩
  intro j i h
  unfold maskStep at h ⊢
  by_cases hj : j < ms.length
  · rw [List.getElem?_append_left hj] at h
    obtain ⟨oj, h1, e, h2, h3, h4⟩ := ih2 j i h
    refine ⟨oj, by rw [List.getElem?_append_left (by omega)]; exact h1, e, h2, h3, h4.imp id fun ⟨h5, h6⟩ => ⟨h5, ?_⟩⟩
    rw [List.getElem?_append_left (by omega)]
    exact h6
  · rw [List.getElem?_append_right (by omega)] at h
    have hj0 : j - ms.length = 0 := by
      rcases Nat.eq_zero_or_pos (j - ms.length) with h0 | h0
      · exact h0
      · rw [List.getElem?_eq_none (by simp; omega)] at h
        simp at h
    rw [hj0] at h
    simp only [List.getElem?_cons_zero, Option.getD_some] at h
    rcases mask_fold h with h1 | ⟨e, h1, h2, h3⟩
    · simp at h1
    · refine ⟨o, by rw [List.getElem?_append_right (by omega), ← ih1, hj0]; rfl, e, by simpa using h1, h2, h3.imp id fun h4 => ?_⟩
      have hlt : e.on < ms.length := by
        rcases Nat.lt_or_ge e.on ms.length with h5 | h5
        · exact h5
        · rw [List.getElem?_eq_none h5] at h4; simp at h4
      exact ⟨by omega, by rw [List.getElem?_append_left hlt]; exact h4⟩

theorem MaskOK.fold {md : Region.Mode} : ∀ {l pre : List Oper} {ms : List Nat}, MaskOK md pre ms → MaskOK md (pre ++ l) (l.foldl (maskStep md) ms)
  | [], pre, ms, h => by simpa using h
  | o :: l, pre, ms, h => by
    have := (h.step o).fold (l := l)
    simpa using this

theorem masks_spec {md : Region.Mode} (ops : Array Oper) : MaskOK md ops.toList (masks md ops) := by
  have := MaskOK.fold (md := md) (l := ops.toList) (pre := []) (ms := []) ⟨rfl, by simp⟩
  simpa [masks] using this

/-- Whoever is listed, those that it waits for are. -/
def Down (md : Region.Mode) (ops : Array Oper) (listed : Array Bool) : Prop := ∀ j oj, ops[j]? = some oj → listed.getD j false = true → ∀ e ∈ oj.after, Region.binds md e = true → listed.getD e.on false = true

theorem Down.start : Down md ops (Array.replicate ops.size false) := fun j oj _ h => by
  exfalso
  rw [Array.getD_eq_getD_getElem?, Array.getElem?_replicate] at h
  split at h <;> simp at h

theorem Down.dep {listed : Array Bool} (hd : Down md ops listed) (j i : Nat) (hj : listed.getD j false = true) (h : depB md ops (masks md ops) j i = true) : listed.getD i false = true := by
  induction j using Nat.strongRecOn with
  | _ j ih =>
    obtain ⟨oj, h1, e, h2, h3, h4⟩ := (masks_spec (md := md) ops).2 j i h
    have h5 := hd j oj (by simpa using h1) hj e h2 h3
    rcases h4 with rfl | ⟨h6, h7⟩
    · exact h5
    · exact ih e.on h6 h5 h7

theorem Down.ready {listed : Array Bool} (hd : Down md ops listed) {j i : Nat} (hj : j ∈ Region.ready md ops listed) (h : depB md ops (masks md ops) j i = true) : listed.getD i false = true := by
  obtain ⟨_, oj, ho, hall⟩ := mem_ready.1 hj
  obtain ⟨oj', h1, e, h2, h3, h4⟩ := (masks_spec (md := md) ops).2 j i h
  have e1 : oj' = oj := by
    have : ops[j]? = some oj' := by simpa using h1
    rw [ho] at this
    cases this
    rfl
  subst e1
  have h5 := hall e h2 h3
  rcases h4 with rfl | ⟨h6, h7⟩
  · exact h5
  · exact hd.dep e.on i h5 h7

theorem Down.step {listed : Array Bool} (hd : Down md ops listed) {i : Nat} (hi : i ∈ Region.ready md ops listed) : Down md ops (listed.setIfInBounds i true) := fun j oj ho hj e he hb => by
  by_cases hji : i = j
  · subst hji
    obtain ⟨_, oi, ho', hall⟩ := mem_ready.1 hi
    rw [ho] at ho'
    cases ho'
    exact getD_set_true (hall e he hb)
  · rw [getD_set_ne false hji] at hj
    exact getD_set_true (hd j oj ho hj e he hb)

/-! ### The walk, with the number of turns so far -/

def QA (P : Program) (ops : Array Oper) (Hs : Nat → Heap) (r : Nat → Bool) (o : Oper) (c : C) (t : List C) : Prop :=
  (aWanted ops t o = some true ∧ ∀ k, r k = true → OpV P o (ev t) (Hs k) c (Hs k)) ∨ (aWanted ops t o = some false ∧ c = .un)
def EA (P : Program) (ops : Array Oper) (H H' : Heap) (o : Oper) (c : C) (t : List C) : Prop :=
  (aWanted ops t o = some true ∧ OpV P o (ev t) H c H') ∨ (aWanted ops t o = some false ∧ c = .un ∧ H' = H)

theorem QA.put {r : Nat → Bool} {o : Oper} {c x : C} {t : List C} {dst : Option Tmp} (h : ∀ d, dst = some d → d ∉ o.looksAt ops) : QA P ops Hs r o c (put t dst x) ↔ QA P ops Hs r o c t := by
  unfold QA
  rw [aWanted_put h]
  constructor
  · rintro (⟨h1, h2⟩ | h1)
    · exact .inl ⟨h1, fun k hk => (OpV.put h).1 (h2 k hk)⟩
    · exact .inr h1
  · rintro (⟨h1, h2⟩ | h1)
    · exact .inl ⟨h1, fun k hk => (OpV.put h).2 (h2 k hk)⟩
    · exact .inr h1
theorem EA.put {H H' : Heap} {o : Oper} {c x : C} {t : List C} {dst : Option Tmp} (h : ∀ d, dst = some d → d ∉ o.looksAt ops) : EA P ops H H' o c (put t dst x) ↔ EA P ops H H' o c t := by
  unfold EA
  rw [aWanted_put h, OpV.put h]

def Fst2 (P : Program) (ops : Array Oper) (Hs : Nat → Heap) (eff : Nat → Bool) (idx : Nat → Nat) (inR : Nat → Nat → Bool) (i : Nat) (o : Oper) (c : C) (n' : Nat) (t : List C) (n : Nat) : Prop :=
  (eff i = false ∧ inR i n = true ∧ QA P ops Hs (inR i) o c t ∧ n' = n) ∨ (eff i = true ∧ idx i = n ∧ EA P ops (Hs n) (Hs (n + 1)) o c t ∧ n' = n + 1)

def AOp2 (P : Program) (ops : Array Oper) (Hs : Nat → Heap) (eff : Nat → Bool) (idx : Nat → Nat) (inR : Nat → Nat → Bool) (i : Nat) (K : List C → Nat → Prop) (t : List C) (n : Nat) : Prop :=
  match ops[i]? with
  | none => K t n
  | some o => ∃ c n', Fst2 P ops Hs eff idx inR i o c n' t n ∧ K (put t o.dst c) n'

theorem AOp2_mono {i : Nat} {t : List C} {n : Nat} {K K' : List C → Nat → Prop} (h : ∀ t n, K t n → K' t n) (hh : AOp2 P ops Hs eff idx inR i K t n) : AOp2 P ops Hs eff idx inR i K' t n := by
  unfold AOp2 at *
  split
  · exact h _ _ (by simpa [*] using hh)
  · rename_i o ho
    simp only [ho] at hh
    obtain ⟨c, n', h1, h2⟩ := hh
    exact ⟨c, n', h1, h _ _ h2⟩

def walk2 (P : Program) (ops : Array Oper) (Hs : Nat → Heap) (eff : Nat → Bool) (idx : Nat → Nat) (inR : Nat → Nat → Bool) (Q : List C → Nat → Prop) : List Oper → Nat → List C → Nat → Prop
  | [], _, t, n => Q t n
  | _ :: l, k, t, n => AOp2 P ops Hs eff idx inR k (walk2 P ops Hs eff idx inR Q l (k + 1)) t n

def any2 (P : Program) (md : Region.Mode) (ops : Array Oper) (Hs : Nat → Heap) (eff : Nat → Bool) (idx : Nat → Nat) (inR : Nat → Nat → Bool) (Q : List C → Nat → Prop) : Nat → Array Bool → List C → Nat → Prop
  | 0, listed, t, n => Region.ready md ops listed = [] ∧ Q t n
  | fuel + 1, listed, t, n => (Region.ready md ops listed = [] → Q t n) ∧ ∀ i ∈ Region.ready md ops listed, AOp2 P ops Hs eff idx inR i (any2 P md ops Hs eff idx inR Q fuel (listed.setIfInBounds i true)) t n

/-- It is so of the model. -/
theorem wpAny_of_any2 {q : Option Nat} {m : Nat} {H0 : Heap} {Q : List C → Nat → Prop} {w0 : World} {E0 : Env} {Q' : Exit → Act → World → Prop} (hQ : ∀ t n w E a, Q t n → SRel B m w E ⟨t, Hs n⟩ a → GrowB B w0 E0 H0 w E (Hs n) → Q' .normal a w) :
    ∀ (fuel : Nat) (listed : Array Bool) (t : List C) (n : Nat) (w : World) (E : Env) (a : Act), SRel B m w E ⟨t, Hs n⟩ a → GrowB B w0 E0 H0 w E (Hs n) → any2 P md ops Hs eff idx inR Q fuel listed t n → wpAnyIn (fw q) 0 P md ops Q' fuel listed a w
  | 0, _, t, n, w, E, a, hs, hg, h => ⟨h.1, hQ t n w E a h.2 hs hg⟩
  | fuel + 1, listed, t, n, w, E, a, hs, hg, h => ⟨fun h0 => hQ t n w E a (h.1 h0) hs hg, fun i hi => by
      have h1 := h.2 i hi
      unfold AOp2 at h1
      unfold wpOpIn
      split
      · rename_i ho
        simp only [ho] at h1
        exact wpAny_of_any2 hQ fuel _ t n w E a hs hg h1
      · rename_i o ho
        simp only [ho] at h1
        obtain ⟨c, n', hf, hK⟩ := h1
        rcases hf with ⟨_, hin, ⟨hw, hv⟩ | ⟨hw, rfl⟩, rfl⟩ | ⟨_, _, ⟨hw, hv⟩ | ⟨hw, rfl, he⟩, rfl⟩
        · rw [if_pos (aWanted_ok hs.tmps hw)]
          exact RunOp.of_OpV (s := ⟨t, Hs n'⟩) (hv _ hin) q m w E a _ Q' hs fun w' E' a' h2 g2 => wpAny_of_any2 hQ fuel _ (put t o.dst c) n' w' E' a' h2 (hg.trans g2) hK
        · rw [if_neg (by rw [aWanted_ok hs.tmps hw]; decide)]
          exact ⟨fun _ _ => trivial, wpAny_of_any2 hQ fuel _ (put t o.dst .un) n' w E _ (hs.put .un o.dst) hg hK⟩
        · rw [if_pos (aWanted_ok hs.tmps hw)]
          exact RunOp.of_OpV (s := ⟨t, Hs n⟩) hv q m w E a _ Q' hs fun w' E' a' h2 g2 => wpAny_of_any2 hQ fuel _ (put t o.dst c) (n + 1) w' E' a' h2 (hg.trans g2) hK
        · rw [if_neg (by rw [aWanted_ok hs.tmps hw]; decide)]
          have hs' := hs.put .un o.dst
          exact ⟨fun _ _ => trivial, wpAny_of_any2 hQ fuel _ (put t o.dst .un) (n + 1) w E _ (by rw [he]; exact hs') (by rw [he]; exact hg) hK⟩⟩

/-- What is asked of two, the second of which is taken ahead of the first. -/
structure Pair (md : Region.Mode) (ops : Array Oper) (eff : Nat → Bool) (idx : Nat → Nat) (inR : Nat → Nat → Bool) (i j : Nat) : Prop where
  c1 : eff i = false → eff j = true → depB md ops (masks md ops) j i = false → inR i (idx j) = true → inR i (idx j + 1) = true
  c2 : eff i = true → eff j = false → depB md ops (masks md ops) j i = false → inR j (idx i + 1) = true → inR j (idx i) = true

theorem AOp2_swap {i j : Nat} {oi oj : Oper} {c : C} {n ni : Nat} (hj : ops[j]? = some oj) (hap : oi.apart ops oj = true) (he : eff i = true → eff j = false) (hp : Pair md ops eff idx inR i j) (hno : depB md ops (masks md ops) j i = false) {K : List C → Nat → Prop} {t : List C}
    (hf : Fst2 P ops Hs eff idx inR i oi c ni t n) (h : AOp2 P ops Hs eff idx inR j K (put t oi.dst c) ni) :
    AOp2 P ops Hs eff idx inR j (fun t' n' => ∃ n2, Fst2 P ops Hs eff idx inR i oi c n2 t' n' ∧ K (put t' oi.dst c) n2) t n := by
  obtain ⟨h1, h2, h3⟩ := Oper.apart_spec hap
  unfold AOp2 at *
  simp only [hj] at *
  obtain ⟨cj, nj, hfj, hK⟩ := h
  rw [put_comm _ _ h2] at hK
  rcases hf with ⟨e1, e2, e3, rfl⟩ | ⟨e1, e2, e3, rfl⟩
  · rcases hfj with ⟨f1, f2, f3, rfl⟩ | ⟨f1, f2, f3, rfl⟩
    · exact ⟨cj, nj, .inl ⟨f1, f2, (QA.put h1).1 f3, rfl⟩, nj, .inl ⟨e1, e2, (QA.put h3).2 e3, rfl⟩, hK⟩
    · refine ⟨cj, ni + 1, .inr ⟨f1, f2, (EA.put h1).1 f3, rfl⟩, ni + 1, .inl ⟨e1, ?_, (QA.put h3).2 e3, rfl⟩, hK⟩
      rw [← f2]
      exact hp.c1 e1 f1 hno (by rw [f2]; exact e2)
  · rcases hfj with ⟨f1, f2, f3, rfl⟩ | ⟨f1, f2, f3, rfl⟩
    · refine ⟨cj, n, .inl ⟨f1, ?_, (QA.put h1).1 f3, rfl⟩, n + 1, .inr ⟨e1, e2, (EA.put h3).2 e3, rfl⟩, hK⟩
      rw [← e2]
      exact hp.c2 e1 f1 hno (by rw [e2]; exact f2)
    · rw [he e1] at f1; cases f1

theorem any2_first {Q : List C → Nat → Prop} {i : Nat} {oi : Oper} {c : C} (hi : ops[i]? = some oi) :
    ∀ (fuel : Nat) (listed : Array Bool) (t : List C) (n ni : Nat), Down md ops listed →
      (∀ j oj, ops[j]? = some oj → j ≠ i → listed.getD j true = false → (∀ e ∈ oj.after, Region.binds md e = true → e.on ≠ i) → oi.apart ops oj = true ∧ (eff i = true → eff j = false) ∧ Pair md ops eff idx inR i j) →
      i ∈ Region.ready md ops listed → Fst2 P ops Hs eff idx inR i oi c ni t n →
      any2 P md ops Hs eff idx inR Q fuel (listed.setIfInBounds i true) (put t oi.dst c) ni → any2 P md ops Hs eff idx inR Q (fuel + 1) listed t n := by
  intro fuel
  induction fuel with
  | zero =>
    intro listed t n ni _ _ hr hy H
    refine ⟨fun h => (by rw [h] at hr; cases hr), fun j hj => ?_⟩
    by_cases hji : j = i
    · subst hji; unfold AOp2; simp only [hi]; exact ⟨c, ni, hy, H⟩
    · have := ready_mono hj hji
      rw [H.1] at this
      cases this
  | succ fuel ih =>
    intro listed t n ni hdown hfree hr hy H
    refine ⟨fun h => (by rw [h] at hr; cases hr), fun j hj => ?_⟩
    by_cases hji : j = i
    · subst hji; unfold AOp2; simp only [hi]; exact ⟨c, ni, hy, H⟩
    · have h1 := H.2 j (ready_mono hj hji)
      obtain ⟨hjun, oj, hoj, hall⟩ := mem_ready.1 hj
      have hiun : listed.getD i false = false := by
        have h0 := (mem_ready.1 hr).1
        rcases Nat.lt_or_ge i listed.size with h' | h'
        · simp [h'] at h0 ⊢; exact h0
        · simp [Array.getElem?_eq_none h']
      have hnot : ∀ e ∈ oj.after, Region.binds md e = true → e.on ≠ i := fun e he hb heq => by
        have h1 := hall e he hb
        rw [heq, hiun] at h1
        cases h1
      have hno : depB md ops (masks md ops) j i = false := by
        cases hd : depB md ops (masks md ops) j i with
        | false => rfl
        | true => have := hdown.ready hj hd; rw [hiun] at this; cases this
      obtain ⟨hap, hee, hp⟩ := hfree j oj hoj hji hjun hnot
      have h2 := AOp2_swap hoj hap hee hp hno hy h1
      have hfree' : ∀ k ok, ops[k]? = some ok → k ≠ i → (listed.setIfInBounds j true).getD k true = false →
          (∀ e ∈ ok.after, Region.binds md e = true → e.on ≠ i) → oi.apart ops ok = true ∧ (eff i = true → eff k = false) ∧ Pair md ops eff idx inR i k := fun k ok hk hki hun hno => by
        refine hfree k ok hk hki ?_ hno
        by_cases hjk : j = k
        · subst hjk; exact hjun
        · rw [getD_set_ne true hjk] at hun; exact hun
      refine AOp2_mono (fun t' n' ⟨n2, h3, h4⟩ => ih (listed.setIfInBounds j true) t' n' n2 (hdown.step hj) hfree' (ready_mono hr (Ne.symm hji)) h3 ?_) h2
      rw [Array.setIfInBounds_comm _ _ hji]
      exact h4

theorem any2_lex {Q : List C → Nat → Prop} (hE : effB md ops eff = true) (hP : ∀ i j, Pair md ops eff idx inR i j) : ∀ (l : List Oper) (k : Nat) (listed : Array Bool) (t : List C) (n : Nat), Down md ops listed → (∀ j, l[j]? = ops[k + j]?) → (∀ j, j < k → listed.getD j true = true) →
    Region.lexFrom md ops l.length k listed = true → walk2 P ops Hs eff idx inR Q l k t n → any2 P md ops Hs eff idx inR Q l.length listed t n
  | [], _, _, _, _, _, _, _, hB, h => ⟨by simpa [Region.lexFrom] using hB, h⟩
  | o :: l, k, listed, t, n, hd, hl, hk, hB, h => by
    have h0 : ops[k]? = some o := by simpa using (hl 0).symm
    simp only [List.length_cons, Region.lexFrom, Bool.and_eq_true] at hB
    obtain ⟨⟨hr, hf⟩, hB'⟩ := hB
    have h' : AOp2 P ops Hs eff idx inR k (walk2 P ops Hs eff idx inR Q l (k + 1)) t n := h
    unfold AOp2 at h'
    simp only [h0] at h'
    obtain ⟨c, n', hfst, hK⟩ := h'
    have hr' : k ∈ Region.ready md ops listed := by simpa using hr
    refine any2_first h0 l.length listed t n n' hd (fun j oj hj hne hun hno => ⟨Region.free_spec h0 hf j oj hj hne hun hno, fun he => ?_, hP k j⟩) hr' hfst
      (any2_lex hE hP l (k + 1) _ _ _ (hd.step hr') (fun j => by have := hl (j + 1); simpa [Nat.add_assoc, Nat.add_comm 1 j] using this) ?_ hB' hK)
    · refine effB_spec hE he ?_ hj hno
      rcases Nat.lt_trichotomy j k with hlt | heq | hlt
      · rw [hk j hlt] at hun; cases hun
      · exact absurd heq hne
      · exact hlt
    · intro j hj
      by_cases hjk : k = j
      · subst hjk
        by_cases hlt : k < listed.size
        · simp [hlt]
        · simp [hlt]
      · rw [getD_set_ne true hjk]; exact hk j (by omega)

/-- **A region that draws its order**: the lexical walk serves, though the heap turns. -/
theorem Run.draw2 {id n' : Nat} {t t' : List C} {H : Heap} (hm : P.follows .mixedOrders = true) (hB : Region.lexB .any ops = true) (hE : effB .any ops eff = true) (hP : ∀ i j, Pair .any ops eff idx inR i j) (hH : Hs 0 = H)
    (h : walk2 P ops Hs eff idx inR (fun t n => t = t' ∧ n = n') ops.toList 0 t 0) : Run P B (.region id ops true) ⟨t, H⟩ .normal ⟨t', Hs n'⟩ := fun q m w E a Q _ hs hq => by
  simp only [Region.lexB, Bool.and_eq_true] at hB
  subst hH
  refine wpIn_region_any hm (wpAny_of_any2 (Hs := Hs) (eff := eff) (idx := idx) (inR := inR) (H0 := Hs 0) (Q := fun t n => t = t' ∧ n = n') (w0 := w) (E0 := E) (fun t1 n1 w1 E1 a1 he h1 g1 => by obtain ⟨rfl, rfl⟩ := he; exact hq _ _ w1 E1 a1 ⟨rfl, rfl⟩ h1 g1) _ _ t 0 _ E a hs.drew ((Grow.drew w E (Hs 0)).toB (by rw [hs.heap.n]; exact hs.base)) ?_)
  have := any2_lex (Hs := Hs) (eff := eff) (idx := idx) (inR := inR) (Q := fun t n => t = t' ∧ n = n') (P := P) (md := .any) hE hP ops.toList 0 (Array.replicate ops.size false) t 0 Down.start (by simp) (fun j hj => absurd hj (Nat.not_lt_zero j)) (by simpa using hB.2) h
  simpa using this

/-! ### What turns the heap, by the operations' text -/

/-- What is told of operations: whether calls may turn the heap; which ones, by their places, do not look at it, though their text does not tell, or at objects alone that stay as they are; these objects. -/
structure Tell where
  calls : Bool
  bl : List Nat
  keep : List Nat := []

def memB : List Nat → Nat → Bool
  | [], _ => false
  | x :: xs, k => match Nat.beq x k with | true => true | false => memB xs k
def Tell.blind (T : Tell) (k : Nat) : Bool := memB T.bl k

def effS (T : Tell) (ops : Array Oper) (i : Nat) : Bool := match ops[i]? with | some o => turnsO T.calls o && !T.blind i | none => false
def cntS (T : Tell) (ops : Array Oper) (i : Nat) : Nat := ((List.range i).filter (effS T ops)).length
def inS (T : Tell) (ops : Array Oper) (i k : Nat) : Bool := match ops[i]? with | some o => (blindO o || T.blind i) || k == cntS T ops i | none => true

/-- Each look at the heap waits for the last turn ahead of it, and the next turn waits for it. -/
def tailB' (md : Region.Mode) (T : Tell) (ops : Array Oper) (ms : List Nat) : Bool :=
  effB md ops (effS T ops) && (List.range ops.size).all fun i => (List.range ops.size).all fun j =>
    (!(effS T ops j) || effS T ops i || inS T ops i (cntS T ops j + 1) || !(inS T ops i (cntS T ops j)) || depB md ops ms j i) &&
    (!(effS T ops i) || effS T ops j || inS T ops j (cntS T ops i) || !(inS T ops j (cntS T ops i + 1)) || depB md ops ms j i)

def tailB (md : Region.Mode) (T : Tell) (ops : Array Oper) : Bool := tailB' md T ops (masks md ops)

theorem tailB_pair {T : Tell} (h : tailB md T ops = true) (i j : Nat) : Pair md ops (effS T ops) (cntS T ops) (inS T ops) i j := by
  simp only [tailB, tailB', Bool.and_eq_true, List.all_eq_true, List.mem_range] at h
  have he : ∀ i, effS T ops i = true → i < ops.size := fun i hi => by
    unfold effS at hi
    split at hi
    · rename_i o ho; exact (Array.getElem?_eq_some_iff.1 ho).1
    · cases hi
  have hin : ∀ i k, ¬ i < ops.size → inS T ops i k = true := fun i k hi => by
    unfold inS
    rw [Array.getElem?_eq_none (by omega)]
  constructor
  · intro h1 h2 h3 h4
    by_cases hi : i < ops.size
    · have := (h.2 i hi j (he j h2)).1
      simp only [h1, h2, h3, h4, Bool.not_true, Bool.false_or, Bool.or_false] at this
      exact this
    · exact hin i _ hi
  · intro h1 h2 h3 h4
    by_cases hj : j < ops.size
    · have := (h.2 i (he i h1) j hj).2
      simp only [h1, h2, h3, h4, Bool.not_true, Bool.false_or, Bool.or_false] at this
      exact this
    · exact hin j _ hj

/-- A load. -/
def loadO (o : Oper) : Bool := match o.op with | .load .. => true | _ => false

theorem stepC_load {o : Oper} {ρ : Operand → C} {H : Heap} {K : C → Heap → Prop} (hb : loadO o = true) (h : stepC P H ρ o K) : ∃ c, OpV P o ρ H c H ∧ K c H := by
  unfold loadO at hb
  split at hb
  · rename_i t x ho
    unfold stepC at h
    rw [ho] at h
    dsimp only at h
    obtain ⟨c, h1, h2⟩ := loadK_spec h
    exact ⟨c, .same <| .load t x ho h1, h2⟩
  · cases hb

/-- These objects are the same in both. -/
def Same (keep : List Nat) (H H' : Heap) : Prop := ∀ id, memB keep id = true → H'[id]? = H[id]?
theorem Same.refl (keep : List Nat) (H : Heap) : Same keep H H := fun _ _ => rfl
theorem Same.trans {keep : List Nat} {H H' H'' : Heap} (h : Same keep H H') (h' : Same keep H' H'') : Same keep H H'' := fun id hi => (h' id hi).trans (h id hi)

def sameK (H H' : Heap) (k : Prop) : List Nat → Prop
  | [] => k
  | id :: ids => H'[id]? = H[id]? ∧ sameK H H' k ids

theorem sameK_spec {H H' : Heap} {k : Prop} : ∀ {keep : List Nat}, sameK H H' k keep → Same keep H H' ∧ k
  | [], h => ⟨fun id hi => by simp [memB] at hi, h⟩
  | x :: xs, h => by
    obtain ⟨h1, h2⟩ := h
    obtain ⟨h3, h4⟩ := sameK_spec h2
    refine ⟨fun id hi => ?_, h4⟩
    unfold memB at hi
    split at hi
    · rename_i e
      obtain rfl := Nat.eq_of_beq_eq_true e
      exact h1
    · exact h3 id hi

theorem getB_same {H H' : Heap} {id : Nat} (h : H'[id]? = H[id]?) (hops : List Hop) : getB H' id hops = getB H id hops := by unfold getB; rw [h]
theorem loadC_same {H H' : Heap} {t : TypeId} {id : Nat} {hops : List Hop} {sz i k : Nat} (h : H'[id]? = H[id]?) : loadC P H' t (.ref id hops sz i k) = loadC P H t (.ref id hops sz i k) := by
  unfold loadC readC
  simp only [getB_same h]

/-- An operation that does not look at the heap, though its text does not tell: a load through a pointer into shared memory, or from an object that stays as it is, or a call that is the same over every heap. -/
def blindK (P : Program) (keep : List Nat) (H : Heap) (ρ : Operand → C) (o : Oper) (K : C → Heap → Prop) : Prop :=
  match o.op with
  | .load t x => match ρ x with
    | .sref cells => loadK P H t (.sref cells) fun c => K c H
    | .ref id hops sz i k => bK (memB keep id) <| loadK P H t (.ref id hops sz i k) fun c => K c H
    | _ => False
  | .call cl => match cl.callee with
    | .value x => match ρ x with
      | .fn f first caps => bK (callable P f) <| ∃ r, (∀ H2, SoundAt P f H2 (first ++ (cl.args.toList.map fun x => asL (ρ x)) ++ caps) r H2) ∧ okB r fun r => K r H
      | _ => False
    | _ => False
  | _ => False

theorem blindK_spec {keep : List Nat} {o : Oper} {ρ : Operand → C} {H : Heap} {K : C → Heap → Prop} (h : blindK P keep H ρ o K) : ∃ c, (∀ H2, Same keep H H2 → OpV P o ρ H2 c H2) ∧ K c H := by
  unfold blindK at h
  split at h
  · rename_i t x ho
    split at h
    · rename_i cells hx
      obtain ⟨c, h1, h2⟩ := loadK_spec h
      refine ⟨c, fun H2 _ => .same <| .load t x ho ?_, h2⟩
      rw [hx, ← h1]
      rfl
    · rename_i id hops sz i k hx
      obtain ⟨h0, h⟩ := bK_spec h
      obtain ⟨c, h1, h2⟩ := loadK_spec h
      refine ⟨c, fun H2 hs => .same <| .load t x ho ?_, h2⟩
      rw [hx, ← h1]
      exact loadC_same (hs id h0)
    · exact h.elim
  · rename_i cl ho
    split at h
    · rename_i x hcl
      split at h
      · rename_i f first caps hf
        obtain ⟨h1, r, h2, h3⟩ := bK_spec h
        exact ⟨r, fun H2 _ => .callL cl ho x hcl hf h1 (h2 H2), okB_spec (k := fun c => K c H) h3⟩
      · exact h.elim
    · exact h.elim
  · exact h.elim

def opKT (P : Program) (T : Tell) (ops : Array Oper) (o : Oper) (next : Nat → List C → Heap → (List C → Heap → Prop) → Prop) (k : Nat) (t : List C) (H : Heap) (K : List C → Heap → Prop) : Prop :=
  match aWanted ops t o with
  | some true => match T.blind k with
    | true => blindK P T.keep H (ev t) o fun c H' => putK t o.dst c fun t => next (k + 1) t H K
    | false => match turnsO T.calls o with
      | true => stepC P H (ev t) o fun c H' => sameK H H' (putK t o.dst c fun t => next (k + 1) t H' K) T.keep
      | false => match blindO o || loadO o with
        | true => stepC P H (ev t) o fun c H' => putK t o.dst c fun t => next (k + 1) t H' K
        | false => stepC P H (ev t) o fun c H' => H' = H ∧ putK t o.dst c fun t => next (k + 1) t H K
  | some false => putK t o.dst .un fun t => next (k + 1) t H K
  | none => False

def opsT (P : Program) (T : Tell) (ops : Array Oper) (l : List Oper) : Nat → List C → Heap → (List C → Heap → Prop) → Prop :=
  List.rec (motive := fun _ => Nat → List C → Heap → (List C → Heap → Prop) → Prop) (fun _ t H K => K t H) (fun o _ next => opKT P T ops o next) l

theorem opsT_cons (T : Tell) (o : Oper) (l : List Oper) (k : Nat) (t : List C) (H : Heap) (K : List C → Heap → Prop) : opsT P T ops (o :: l) k t H K = opKT P T ops o (opsT P T ops l) k t H K := rfl

theorem cntS_succ (T : Tell) (k : Nat) : cntS T ops (k + 1) = cntS T ops k + if effS T ops k then 1 else 0 := by
  unfold cntS
  rw [List.range_succ, List.filter_append, List.length_append]
  cases h : effS T ops k <;> simp [h]

theorem opsT_lex {T : Tell} {D : Heap} : ∀ {l : List Oper} {k : Nat} {t : List C} {H : Heap} {K : List C → Heap → Prop}, (∀ j, l[j]? = ops[k + j]?) → Same T.keep H D → opsT P T ops l k t H K →
    ∃ (L : List Heap) (t' : List C), K t' ((H :: L).getLast (by simp)) ∧ (∀ X ∈ L, Same T.keep H X) ∧ ∀ past : List Heap, past.length = cntS T ops k → (∀ X ∈ past, Same T.keep H X) →
      walk2 P ops (fun i => ((past ++ H :: L)[i]?).getD D) (effS T ops) (cntS T ops) (inS T ops) (fun t n => t = t' ∧ n = cntS T ops k + L.length) l k t (cntS T ops k)
  | [], k, t, H, K, hl, hD, h => ⟨[], t, h, by simp, fun past hp _ => ⟨rfl, rfl⟩⟩
  | o :: l, k, t, H, K, hl, hD, h => by
    have h0 : ops[k]? = some o := by simpa using (hl 0).symm
    have hl' : ∀ j, l[j]? = ops[k + 1 + j]? := fun j => by have := hl (j + 1); simpa [Nat.add_assoc, Nat.add_comm 1 j] using this
    have he : effS T ops k = (turnsO T.calls o && !T.blind k) := by unfold effS; rw [h0]
    have hin : ∀ m, inS T ops k m = ((blindO o || T.blind k) || m == cntS T ops k) := fun m => by unfold inS; rw [h0]
    have all : ∀ (past L : List Heap), (∀ X ∈ past, Same T.keep H X) → (∀ X ∈ L, Same T.keep H X) → ∀ m : Nat, Same T.keep H (((past ++ H :: L)[m]?).getD D) := fun past L hp hL m => by
      cases hx : (past ++ H :: L)[m]? with
      | none => exact hD
      | some X =>
        have := List.mem_of_getElem? hx
        rcases List.mem_append.1 this with h1 | h1
        · exact hp X h1
        · rcases List.mem_cons.1 h1 with rfl | h1
          · exact .refl _ _
          · exact hL X h1
    have quiet : ∀ c, effS T ops k = false → (∀ past L, past.length = cntS T ops k → (∀ X ∈ past, Same T.keep H X) → (∀ X ∈ L, Same T.keep H X) → QA P ops (fun i => ((past ++ H :: L)[i]?).getD D) (inS T ops k) o c t) → opsT P T ops l (k + 1) (put t o.dst c) H K →
        ∃ (L : List Heap) (t' : List C), K t' ((H :: L).getLast (by simp)) ∧ (∀ X ∈ L, Same T.keep H X) ∧ ∀ past : List Heap, past.length = cntS T ops k → (∀ X ∈ past, Same T.keep H X) →
          walk2 P ops (fun i => ((past ++ H :: L)[i]?).getD D) (effS T ops) (cntS T ops) (inS T ops) (fun t n => t = t' ∧ n = cntS T ops k + L.length) (o :: l) k t (cntS T ops k) := fun c ht hq hK => by
      obtain ⟨L, t', h1, hL, h2⟩ := opsT_lex hl' hD hK
      have hc : cntS T ops (k + 1) = cntS T ops k := by rw [cntS_succ, ht]; rfl
      rw [hc] at h2
      refine ⟨L, t', h1, hL, fun past hp hs => ?_⟩
      unfold walk2 AOp2
      rw [h0]
      exact ⟨c, _, .inl ⟨ht, by rw [hin]; simp, hq past L hp hs hL, rfl⟩, h2 past hp hs⟩
    have turn : ∀ c H', effS T ops k = true → EA P ops H H' o c t → Same T.keep H H' → opsT P T ops l (k + 1) (put t o.dst c) H' K →
        ∃ (L : List Heap) (t' : List C), K t' ((H :: L).getLast (by simp)) ∧ (∀ X ∈ L, Same T.keep H X) ∧ ∀ past : List Heap, past.length = cntS T ops k → (∀ X ∈ past, Same T.keep H X) →
          walk2 P ops (fun i => ((past ++ H :: L)[i]?).getD D) (effS T ops) (cntS T ops) (inS T ops) (fun t n => t = t' ∧ n = cntS T ops k + L.length) (o :: l) k t (cntS T ops k) := fun c H' ht hq hsm hK => by
      have back : Same T.keep H' H := fun id hi => (hsm id hi).symm
      obtain ⟨L, t', h1, hL, h2⟩ := opsT_lex hl' (back.trans hD) hK
      have hc : cntS T ops (k + 1) = cntS T ops k + 1 := by rw [cntS_succ, ht]; rfl
      rw [hc] at h2
      refine ⟨H' :: L, t', by simpa using h1, fun X hX => ?_, fun past hp hs => ?_⟩
      · rcases List.mem_cons.1 hX with rfl | hX
        · exact hsm
        · exact hsm.trans (hL X hX)
      have h3 := h2 (past ++ [H]) (by simp [hp]) (fun X hX => by
        rcases List.mem_append.1 hX with h | h
        · exact back.trans (hs X h)
        · rw [List.mem_singleton.1 h]; exact back)
      unfold walk2 AOp2
      rw [h0]
      refine ⟨c, cntS T ops k + 1, .inr ⟨ht, rfl, ?_, rfl⟩, ?_⟩
      · have e1 : ((past ++ H :: H' :: L)[cntS T ops k]?).getD D = H := by rw [← hp]; simp
        have e2 : ((past ++ H :: H' :: L)[cntS T ops k + 1]?).getD D = H' := by rw [← hp, List.getElem?_append_right (by omega)]; simp
        dsimp only
        rw [e1, e2]
        exact hq
      · simpa [List.append_assoc, Nat.add_assoc, Nat.add_comm 1] using h3
    have same : ∀ (past L : List Heap), past.length = cntS T ops k → ((past ++ H :: L)[cntS T ops k]?).getD D = H := fun past L hp => by rw [← hp]; simp
    rw [opsT_cons] at h
    unfold opKT at h
    split at h
    · rename_i hw
      cases hbl : T.blind k with
      | true =>
        rw [hbl] at h
        obtain ⟨c, h1, h2⟩ := blindK_spec h
        exact quiet c (by rw [he, hbl]; simp) (fun past L _ hs hL => .inl ⟨hw, fun m _ => h1 _ (all past L hs hL m)⟩) (putK_spec (k := fun t => opsT P T ops l (k + 1) t H K) h2)
      | false =>
      rw [hbl] at h
      simp only at h
      have he2 : effS T ops k = turnsO T.calls o := by rw [he, hbl]; simp
      cases ht : turnsO T.calls o with
      | true =>
        rw [ht] at h
        obtain ⟨c, H', h1, h2⟩ := stepC_spec h
        obtain ⟨h3, h4⟩ := sameK_spec h2
        exact turn c H' (he2.trans ht) (.inl ⟨hw, h1⟩) h3 (putK_spec (k := fun t => opsT P T ops l (k + 1) t H' K) h4)
      | false =>
        rw [ht] at h
        simp only at h
        cases hb : blindO o with
        | true =>
          rw [hb, Bool.true_or] at h
          obtain ⟨c, h1, h2⟩ := stepC_blind hb h
          exact quiet c (he2.trans ht) (fun past L _ _ _ => .inl ⟨hw, fun m _ => h1 _⟩) (putK_spec (k := fun t => opsT P T ops l (k + 1) t H K) h2)
        | false =>
          rw [hb, Bool.false_or] at h
          have only : ∀ c, OpV P o (ev t) H c H → ∀ past L, past.length = cntS T ops k → (∀ X ∈ past, Same T.keep H X) → (∀ X ∈ L, Same T.keep H X) → QA P ops (fun i => ((past ++ H :: L)[i]?).getD D) (inS T ops k) o c t := fun c h1 past L hp _ _ => .inl ⟨hw, fun m hm => by
            rw [hin, hb, hbl, Bool.false_or, Bool.false_or, beq_iff_eq] at hm
            subst hm
            dsimp only
            rw [same past L hp]
            exact h1⟩
          cases hlo : loadO o with
          | true =>
            rw [hlo] at h
            obtain ⟨c, h1, h2⟩ := stepC_load hlo h
            exact quiet c (he2.trans ht) (only c h1) (putK_spec (k := fun t => opsT P T ops l (k + 1) t H K) h2)
          | false =>
            rw [hlo] at h
            obtain ⟨c, H', h1, rfl, h2⟩ := stepC_spec h
            exact quiet c (he2.trans ht) (only c h1) (putK_spec (k := fun t => opsT P T ops l (k + 1) t _ K) h2)
    · rename_i hw
      have hK := putK_spec (k := fun t => opsT P T ops l (k + 1) t H K) h
      cases ht : effS T ops k with
      | true => exact turn .un H ht (.inr ⟨hw, rfl, rfl⟩) (.refl _ _) hK
      | false => exact quiet .un ht (fun past L _ _ _ => .inr ⟨hw, rfl⟩) hK
    · exact h.elim

/-- **A region that draws its order, by the lexical walk.** -/
theorem Run.drawT {id : Nat} {T : Tell} {t : List C} {H : Heap} {K : List C → Heap → Prop} (hm : P.follows .mixedOrders = true) (hB : Region.lexB .any ops = true) (hT : tailB .any T ops = true) (h : opsT P T ops ops.toList 0 t H K) :
    ∃ s', Run P B (.region id ops true) ⟨t, H⟩ .normal s' ∧ K s'.tmps s'.H := by
  obtain ⟨L, t', h1, _, h2⟩ := opsT_lex (k := 0) (D := H) (by simp) (.refl _ _) h
  have h3 := h2 [] rfl (by simp)
  have hE : effB .any ops (effS T ops) = true := by simp only [tailB, tailB', Bool.and_eq_true] at hT; exact hT.1
  have := Run.draw2 (B := B) (id := id) (Hs := fun i => ((H :: L)[i]?).getD H) (eff := effS T ops) (idx := cntS T ops) (inR := inS T ops) (n' := L.length) (t' := t') hm hB hE (fun i j => tailB_pair hT i j) rfl (by simpa [cntS] using h3)
  refine ⟨_, this, ?_⟩
  have e : ((H :: L)[L.length]?).getD H = (H :: L).getLast (by simp) := by
    rw [List.getLast_eq_getElem]
    simp
  dsimp only
  rw [e]
  exact h1

end
end Go.Ab
