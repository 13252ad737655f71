/- Regions that draw their order, over an abstract state: one walk of the lexical order serves every order. -/
import Derived.Test.YtbndjpkncgfpiaaAbB
import Derived.Still
namespace Go.Ab
set_option linter.unusedVariables false

section
variable {P : Program} {B : Nat} {ops : Array Oper} {md : Region.Mode} {X : Heap → Prop} {eff : Nat → Bool}

/-! ### What a temporary that is not looked at has to say -/

theorem ev_put {tmps : List C} {dst : Option Tmp} {c : C} {x : Operand} (h : ∀ d, dst = some d → x ≠ .tmp d) : ev (put tmps dst c) x = ev tmps x := by
  cases dst with
  | none => rfl
  | some d =>
    cases x with
    | tmp t =>
      have hne : d ≠ t := fun e => h d rfl (e ▸ rfl)
      simp [ev, put, List.getElem?_set_ne hne]
    | _ => rfl

theorem looks_ne {o : Oper} {dst : Option Tmp} (h : ∀ d, dst = some d → d ∉ o.looksAt ops) : ∀ x ∈ o.op.operands, ∀ d, dst = some d → x ≠ .tmp d := fun x hx d hd e => h d hd (by
  subst e
  exact List.mem_append_left _ (List.mem_filterMap.2 ⟨.tmp d, by simpa using hx, rfl⟩))

theorem OpV.put {o : Oper} {tmps : List C} {H H' : Heap} {c x : C} {dst : Option Tmp} (h : ∀ d, dst = some d → d ∉ o.looksAt ops) : OpV P o (ev (put tmps dst x)) H c H' ↔ OpV P o (ev tmps) H c H' :=
  ⟨fun h' => h'.congr fun y hy => (ev_put (looks_ne h y hy)).symm, fun h' => h'.congr fun y hy => ev_put (looks_ne h y hy)⟩

theorem aWanted_put {o : Oper} {tmps : List C} {x : C} {dst : Option Tmp} (h : ∀ d, dst = some d → d ∉ o.looksAt ops) : aWanted ops (put tmps dst x) o = aWanted ops tmps o := by
  cases dst with
  | none => rfl
  | some d =>
    have hd := h d rfl
    unfold aWanted
    cases hg : o.guard with
    | none => rfl
    | some g =>
      obtain ⟨j, want⟩ := g
      have : aYield ops (put tmps (some d) x) j = aYield ops tmps j := by
        unfold aYield
        cases hj : (ops[j]?).bind (·.dst) with
        | none => rfl
        | some e =>
          have hne : d ≠ e := fun he => hd (by
            subst he
            unfold Oper.looksAt
            rw [hg]
            refine List.mem_append_right _ ?_
            dsimp only
            rw [hj]
            simp)
          simp [put, List.getElem?_set_ne hne]
      simp only [this]

theorem put_comm {tmps : List C} {x y : Option Tmp} (v u : C) (h : ∀ d, x = some d → y ≠ some d) : put (put tmps x v) y u = put (put tmps y u) x v := by
  cases x with
  | none => rfl
  | some d =>
    cases y with
    | none => rfl
    | some e =>
      have hne : d ≠ e := fun he => h d rfl (he ▸ rfl)
      simp [put, List.set_comm _ _ hne]

/-! ### Operations, quiet ones and others -/

/-- It leaves this, whatever heap of the class stands there; or isn't wanted. -/
def YA (P : Program) (ops : Array Oper) (X : Heap → Prop) (o : Oper) (c : C) (tmps : List C) : Prop :=
  (aWanted ops tmps o = some true ∧ ∀ H, X H → OpV P o (ev tmps) H c H) ∨ (aWanted ops tmps o = some false ∧ c = .un)

theorem YA.put {o : Oper} {c x : C} {tmps : List C} {dst : Option Tmp} (h : ∀ d, dst = some d → d ∉ o.looksAt ops) : YA P ops X o c (put tmps dst x) ↔ YA P ops X o c tmps := by
  unfold YA
  rw [aWanted_put h]
  constructor
  · rintro (⟨h1, h2⟩ | h1)
    · exact .inl ⟨h1, fun H hH => (OpV.put h).1 (h2 H hH)⟩
    · exact .inr h1
  · rintro (⟨h1, h2⟩ | h1)
    · exact .inl ⟨h1, fun H hH => (OpV.put h).2 (h2 H hH)⟩
    · exact .inr h1

/-- It turns the heap. -/
def TA (P : Program) (ops : Array Oper) (X : Heap → Prop) (o : Oper) (c : C) (tmps : List C) (H H' : Heap) : Prop :=
  aWanted ops tmps o = some true ∧ X H' ∧ OpV P o (ev tmps) H c H'

theorem TA.put {o : Oper} {c x : C} {tmps : List C} {dst : Option Tmp} {H H' : Heap} (h : ∀ d, dst = some d → d ∉ o.looksAt ops) : TA P ops X o c (put tmps dst x) H H' ↔ TA P ops X o c tmps H H' := by
  unfold TA
  rw [aWanted_put h, OpV.put h]

def AOp (P : Program) (ops : Array Oper) (X : Heap → Prop) (eff : Nat → Bool) (i : Nat) (K : S → Prop) (s : S) : Prop :=
  match ops[i]? with
  | none => K s
  | some o => (eff i = false ∧ ∃ c, YA P ops X o c s.tmps ∧ K ⟨put s.tmps o.dst c, s.H⟩) ∨ (eff i = true ∧ ∃ c H', TA P ops X o c s.tmps s.H H' ∧ K ⟨put s.tmps o.dst c, H'⟩)

theorem AOp_mono {i : Nat} {s : S} {K K' : S → Prop} (h : ∀ s, K s → K' s) (hh : AOp P ops X eff i K s) : AOp P ops X eff i K' s := by
  unfold AOp at *
  split
  · exact h _ (by simpa [*] using hh)
  · rename_i o ho
    simp only [ho] at hh
    rcases hh with ⟨h1, c, h2, h3⟩ | ⟨h1, c, H', h2, h3⟩
    · exact .inl ⟨h1, c, h2, h _ h3⟩
    · exact .inr ⟨h1, c, H', h2, h _ h3⟩

/-- The lexical walk. -/
def walkA (P : Program) (ops : Array Oper) (X : Heap → Prop) (eff : Nat → Bool) (Q : S → Prop) : List Oper → Nat → S → Prop
  | [], _, s => Q s
  | _ :: l, k, s => AOp P ops X eff k (walkA P ops X eff Q l (k + 1)) s

/-- Whatever order is picked from here on. -/
def anyA (P : Program) (md : Region.Mode) (ops : Array Oper) (X : Heap → Prop) (eff : Nat → Bool) (Q : S → Prop) : Nat → Array Bool → S → Prop
  | 0, listed, s => Region.ready md ops listed = [] ∧ Q s
  | fuel + 1, listed, s => (Region.ready md ops listed = [] → Q s) ∧ ∀ i ∈ Region.ready md ops listed, AOp P ops X eff i (anyA P md ops X eff Q fuel (listed.setIfInBounds i true)) s

/-- It is so of the model. -/
theorem wpAny_of_anyA {q : Option Nat} {m : Nat} {H0 : Heap} {Q : S → Prop} {w0 : World} {E0 : Env} {Q' : Exit → Act → World → Prop} (hQ : ∀ s w E a, Q s → SRel B m w E s a → GrowB B w0 E0 H0 w E s.H → Q' .normal a w) :
    ∀ (fuel : Nat) (listed : Array Bool) (s : S) (w : World) (E : Env) (a : Act), X s.H → SRel B m w E s a → GrowB B w0 E0 H0 w E s.H → anyA P md ops X eff Q fuel listed s → wpAnyIn (fw q) 0 P md ops Q' fuel listed a w
  | 0, _, s, w, E, a, hX, hs, hg, h => ⟨h.1, hQ s w E a h.2 hs hg⟩
  | fuel + 1, listed, s, w, E, a, hX, hs, hg, h => ⟨fun h0 => hQ s w E a (h.1 h0) hs hg, fun i hi => by
      have h1 := h.2 i hi
      unfold AOp at h1
      unfold wpOpIn
      split
      · rename_i ho
        simp only [ho] at h1
        exact wpAny_of_anyA hQ fuel _ s w E a hX hs hg h1
      · rename_i o ho
        simp only [ho] at h1
        rcases h1 with ⟨_, c, ⟨hw, hv⟩ | ⟨hw, rfl⟩, hK⟩ | ⟨_, c, H', ⟨hw, hX', hv⟩, hK⟩
        · rw [if_pos (aWanted_ok hs.tmps hw)]
          exact RunOp.of_OpV (hv s.H hX) q m w E a _ Q' hs fun w' E' a' h2 g2 => wpAny_of_anyA hQ fuel _ ⟨put s.tmps o.dst c, s.H⟩ w' E' a' hX h2 (hg.trans g2) hK
        · rw [if_neg (by rw [aWanted_ok hs.tmps hw]; decide)]
          exact ⟨fun _ _ => trivial, wpAny_of_anyA hQ fuel _ ⟨put s.tmps o.dst .un, s.H⟩ w E _ hX (hs.put .un o.dst) hg hK⟩
        · rw [if_pos (aWanted_ok hs.tmps hw)]
          exact RunOp.of_OpV hv q m w E a _ Q' hs fun w' E' a' h2 g2 => wpAny_of_anyA hQ fuel _ _ w' E' a' hX' h2 (hg.trans g2) hK⟩

/-- What the operation that is taken first has to show. -/
def Fst (P : Program) (ops : Array Oper) (X : Heap → Prop) (eff : Nat → Bool) (i : Nat) (o : Oper) (c : C) (H' : Heap) (s : S) : Prop :=
  (eff i = false ∧ YA P ops X o c s.tmps ∧ H' = s.H) ∨ (eff i = true ∧ TA P ops X o c s.tmps s.H H')

theorem Fst.aop {i : Nat} {o : Oper} {c : C} {H' : Heap} {s : S} (hi : ops[i]? = some o) (h : Fst P ops X eff i o c H' s) {K : S → Prop} (hK : K ⟨put s.tmps o.dst c, H'⟩) : AOp P ops X eff i K s := by
  unfold AOp
  simp only [hi]
  rcases h with ⟨h1, h2, rfl⟩ | ⟨h1, h2⟩
  · exact .inl ⟨h1, c, h2, hK⟩
  · exact .inr ⟨h1, c, H', h2, hK⟩

/-- **One may be carried out ahead of another one that is apart.** -/
theorem AOp_swap {i j : Nat} {oi oj : Oper} {c : C} {Hi : Heap} (hj : ops[j]? = some oj) (hap : oi.apart ops oj = true) (he : eff i = true → eff j = false) {K : S → Prop} {s : S} (hf : Fst P ops X eff i oi c Hi s)
    (h : AOp P ops X eff j K ⟨put s.tmps oi.dst c, Hi⟩) :
    AOp P ops X eff j (fun s' => ∃ H2, Fst P ops X eff i oi c H2 s' ∧ K ⟨put s'.tmps oi.dst c, H2⟩) s := by
  obtain ⟨h1, h2, h3⟩ := Oper.apart_spec hap
  unfold AOp at *
  simp only [hj] at *
  rcases h with ⟨hej, cj, hy, hK⟩ | ⟨hej, cj, Hj, ht, hK⟩
  · refine .inl ⟨hej, cj, (YA.put h1).1 hy, Hi, ?_, ?_⟩
    · rcases hf with ⟨h4, h5, h6⟩ | ⟨h4, h5⟩
      · exact .inl ⟨h4, (YA.put h3).2 h5, h6⟩
      · exact .inr ⟨h4, (TA.put h3).2 h5⟩
    · rw [put_comm _ _ h2] at hK
      exact hK
  · rcases hf with ⟨h4, h5, rfl⟩ | ⟨h4, h5⟩
    · refine .inr ⟨hej, cj, Hj, (TA.put h1).1 ht, Hj, .inl ⟨h4, (YA.put h3).2 h5, rfl⟩, ?_⟩
      rw [put_comm _ _ h2] at hK
      exact hK
    · rw [he h4] at hej; cases hej

theorem anyA_first {Q : S → Prop} {i : Nat} {oi : Oper} {c : C} (hi : ops[i]? = some oi) :
    ∀ (fuel : Nat) (listed : Array Bool) (s : S) (Hi : Heap),
      (∀ j oj, ops[j]? = some oj → j ≠ i → listed.getD j true = false → (∀ e ∈ oj.after, Region.binds md e = true → e.on ≠ i) → oi.apart ops oj = true ∧ (eff i = true → eff j = false)) →
      i ∈ Region.ready md ops listed → Fst P ops X eff i oi c Hi s →
      anyA P md ops X eff Q fuel (listed.setIfInBounds i true) ⟨put s.tmps oi.dst c, Hi⟩ → anyA P md ops X eff Q (fuel + 1) listed s := by
  intro fuel
  induction fuel with
  | zero =>
    intro listed s Hi _ hr hy H
    refine ⟨fun h => (by rw [h] at hr; cases hr), fun j hj => ?_⟩
    by_cases hji : j = i
    · subst hji; exact hy.aop hi H
    · have := ready_mono hj hji
      rw [H.1] at this
      cases this
  | succ fuel ih =>
    intro listed s Hi hfree hr hy H
    refine ⟨fun h => (by rw [h] at hr; cases hr), fun j hj => ?_⟩
    by_cases hji : j = i
    · subst hji; exact hy.aop hi H
    · have h1 := H.2 j (ready_mono hj hji)
      obtain ⟨hjun, oj, hoj, hall⟩ := mem_ready.1 hj
      have hnot : ∀ e ∈ oj.after, Region.binds md e = true → e.on ≠ i := fun e he hb heq => by
        have h1 := hall e he hb
        have h0 := (mem_ready.1 hr).1
        rw [heq] at h1
        rcases Nat.lt_or_ge i listed.size with h' | h'
        · simp [h'] at h0 h1; rw [h0] at h1; cases h1
        · simp [Array.getElem?_eq_none h'] at h1
      obtain ⟨hap, hee⟩ := hfree j oj hoj hji hjun hnot
      have h2 := AOp_swap hoj hap hee hy h1
      have hfree' : ∀ k ok, ops[k]? = some ok → k ≠ i → (listed.setIfInBounds j true).getD k true = false →
          (∀ e ∈ ok.after, Region.binds md e = true → e.on ≠ i) → oi.apart ops ok = true ∧ (eff i = true → eff k = false) := fun k ok hk hki hun hno => by
        refine hfree k ok hk hki ?_ hno
        by_cases hjk : j = k
        · subst hjk; exact hjun
        · rw [getD_set_ne true hjk] at hun; exact hun
      refine AOp_mono (fun s' ⟨H2, h3, h4⟩ => ih (listed.setIfInBounds j true) s' H2 hfree' (ready_mono hr (Ne.symm hji)) h3 ?_) h2
      rw [Array.setIfInBounds_comm _ _ hji]
      exact h4

/-- Of two that turn the heap, the later one waits for the other. -/
def effB (md : Region.Mode) (ops : Array Oper) (eff : Nat → Bool) : Bool :=
  (List.range ops.size).all fun i => !eff i || (List.range ops.size).all fun j => !eff j || decide (j ≤ i) || match ops[j]? with
    | some oj => oj.after.any fun e => Region.binds md e && e.on == i
    | none => true

theorem effB_spec (h : effB md ops eff = true) {i j : Nat} {oj : Oper} (hi : eff i = true) (hlt : i < j) (hj : ops[j]? = some oj) (hno : ∀ e ∈ oj.after, Region.binds md e = true → e.on ≠ i) : eff j = false := by
  have hjl := (Array.getElem?_eq_some_iff.1 hj).1
  simp only [effB, List.all_eq_true, List.mem_range] at h
  have h1 := h i (by omega)
  simp only [hi, Bool.not_true, Bool.false_or, List.all_eq_true, List.mem_range] at h1
  have h2 := h1 j hjl
  rw [hj] at h2
  cases he : eff j with
  | false => rfl
  | true =>
    exfalso
    simp only [he, Bool.not_true, Bool.false_or, Bool.or_eq_true, decide_eq_true_eq] at h2
    rcases h2 with h2 | h2
    · omega
    · obtain ⟨e, hem, hb⟩ := Array.any_eq_true'.1 h2
      simp only [Bool.and_eq_true, beq_iff_eq] at hb
      exact hno e hem hb.1 hb.2

theorem anyA_lex {Q : S → Prop} (hE : effB md ops eff = true) : ∀ (l : List Oper) (k : Nat) (listed : Array Bool) (s : S), (∀ j, l[j]? = ops[k + j]?) → (∀ j, j < k → listed.getD j true = true) →
    Region.lexFrom md ops l.length k listed = true → walkA P ops X eff Q l k s → anyA P md ops X eff Q l.length listed s
  | [], _, _, _, _, _, hB, h => ⟨by simpa [Region.lexFrom] using hB, h⟩
  | o :: l, k, listed, s, hl, hk, hB, h => by
    have h0 : ops[k]? = some o := by simpa using (hl 0).symm
    simp only [List.length_cons, Region.lexFrom, Bool.and_eq_true] at hB
    obtain ⟨⟨hr, hf⟩, hB'⟩ := hB
    have h' : AOp P ops X eff k (walkA P ops X eff Q l (k + 1)) s := h
    unfold AOp at h'
    simp only [h0] at h'
    obtain ⟨c, H', hfst, hK⟩ : ∃ c H', Fst P ops X eff k o c H' s ∧ walkA P ops X eff Q l (k + 1) ⟨put s.tmps o.dst c, H'⟩ := by
      rcases h' with ⟨h1, c, h2, h3⟩ | ⟨h1, c, H', h2, h3⟩
      · exact ⟨c, s.H, .inl ⟨h1, h2, rfl⟩, h3⟩
      · exact ⟨c, H', .inr ⟨h1, h2⟩, h3⟩
    refine anyA_first h0 l.length listed s H' (fun j oj hj hne hun hno => ⟨Region.free_spec h0 hf j oj hj hne hun hno, fun he => ?_⟩) (by simpa using hr) hfst
      (anyA_lex hE l (k + 1) _ _ (fun j => by have := hl (j + 1); simpa [Nat.add_assoc, Nat.add_comm 1 j] using this) ?_ hB' hK)
    · refine effB_spec hE he ?_ hj hno
      rcases Nat.lt_trichotomy j k with hlt | heq | hlt
      · rw [hk j hlt] at hun; cases hun
      · exact absurd heq hne
      · exact hlt
    · intro j hj
      by_cases hjk : k = j
      · subst hjk
        by_cases hlt : k < listed.size
        · simp [hlt]
        · simp [hlt]
      · rw [getD_set_ne true hjk]; exact hk j (by omega)

theorem HRel.drew {w : World} {E : Env} {H : Heap} (h : HRel w E H) : HRel w.drew E H := ⟨h.base.drew, Gro.step h (Grow0.drew w E H) (Keep4.refl H)⟩
theorem Grow.drew (w : World) (E : Env) (H : Heap) : Grow w E H w.drew E H :=
  ⟨Env.le.refl E, rfl, rfl, rfl, Nat.le_refl _, fun _ _ _ => rfl, fun _ _ _ h => .inl h, fun _ h => .inr h⟩

theorem SRel.drew {m : Nat} {w : World} {E : Env} {s : S} {a : Act} (h : SRel B m w E s a) : SRel B m { w with drawn := w.drawn + 1 } E s a := ⟨h.heap.drew, h.tmps, Marks.mono (w := w) (w' := { w with drawn := w.drawn + 1 }) (Nat.le_refl _) h.defers fun _ _ _ => rfl, h.base⟩

/-- **A region that draws its order**: the lexical walk serves. -/
theorem Run.draw {id : Nat} {s s' : S} (X : Heap → Prop) (eff : Nat → Bool) (hm : P.follows .mixedOrders = true) (hB : Region.lexB .any ops = true) (hE : effB .any ops eff = true) (hX : X s.H)
    (h : walkA P ops X eff (· = s') ops.toList 0 s) : Run P B (.region id ops true) s .normal s' := fun q m w E a Q _ hs hq => by
  simp only [Region.lexB, Bool.and_eq_true] at hB
  refine wpIn_region_any hm (wpAny_of_anyA (X := X) (eff := eff) (H0 := s.H) (Q := (· = s')) (w0 := w) (E0 := E) (fun s1 w1 E1 a1 he h1 g1 => by subst he; exact hq _ _ w1 E1 a1 ⟨rfl, rfl⟩ h1 g1) _ _ s _ E a hX hs.drew ((Grow.drew w E s.H).toB (by rw [hs.heap.n]; exact hs.base)) ?_)
  have := anyA_lex (X := X) (eff := eff) (Q := (· = s')) (P := P) (md := .any) hE ops.toList 0 (Array.replicate ops.size false) s (by simp) (fun j hj => absurd hj (Nat.not_lt_zero j)) (by simpa using hB.2) h
  simpa using this

end
end Go.Ab
