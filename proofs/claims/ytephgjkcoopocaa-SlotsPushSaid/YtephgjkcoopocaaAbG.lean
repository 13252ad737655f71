/- An abstract state's way through code: the rules joined. -/
import Derived.Test.YtephgjkcoopocaaAbU
namespace Go.Ab
set_option linter.unusedVariables false

/-- One operation of a region, and what comes behind it. -/
def opK (P : Program) (ops : Array Oper) (o : Oper) (next : List C → Heap → (List C → Heap → Prop) → Prop) (t : List C) (H : Heap) (K : List C → Heap → Prop) : Prop :=
  match aWanted ops t o with
  | some true => match nilOp o with
    | some (op, ty, x) => nilK P H op ty (ev t x) fun c H' => putK t o.dst c fun t => next t H' K
    | none => stepC P H (ev t) o fun c H' => putK t o.dst c fun t => next t H' K
  | some false => putK t o.dst .un fun t => next t H K
  | none => False

def opsA (P : Program) (ops : Array Oper) (l : List Oper) : List C → Heap → (List C → Heap → Prop) → Prop :=
  List.rec (motive := fun _ => List C → Heap → (List C → Heap → Prop) → Prop) (fun t H K => K t H) (fun o _ next => opK P ops o next) l

theorem opsA_nil (P : Program) (ops : Array Oper) (t : List C) (H : Heap) (K : List C → Heap → Prop) : opsA P ops [] t H K = K t H := rfl
theorem opsA_cons (P : Program) (ops : Array Oper) (o : Oper) (l : List Oper) (t : List C) (H : Heap) (K : List C → Heap → Prop) : opsA P ops (o :: l) t H K = opK P ops o (opsA P ops l) t H K := rfl

section
variable {P : Program} {B : Nat} {ops : Array Oper}

theorem opsA_spec : ∀ {l : List Oper} {t : List C} {H : Heap} {K : List C → Heap → Prop}, opsA P ops l t H K → ∃ s', RunOps P B ops l ⟨t, H⟩ s' ∧ K s'.tmps s'.H
  | [], t, H, K, h => ⟨⟨t, H⟩, .nil, h⟩
  | o :: l, t, H, K, h => by
    rw [opsA_cons] at h
    unfold opK at h
    split at h
    · rename_i hw
      split at h
      · rename_i op ty x hn
        obtain ⟨c, h1, h2⟩ := nilK_spec hn h
        obtain ⟨s', h3, h4⟩ := opsA_spec (putK_spec (k := fun t => opsA P ops l t H K) h2)
        exact ⟨s', .run (s := ⟨t, H⟩) hw (.of_OpVc (s := ⟨t, H⟩) h1) h3, h4⟩
      obtain ⟨c, H', h1, h2⟩ := stepC_spec h
      obtain ⟨s', h3, h4⟩ := opsA_spec (putK_spec (k := fun t => opsA P ops l t H' K) h2)
      exact ⟨s', .run (s := ⟨t, H⟩) hw (.of_OpV (s := ⟨t, H⟩) h1) h3, h4⟩
    · rename_i hw
      obtain ⟨s', h3, h4⟩ := opsA_spec (putK_spec (k := fun t => opsA P ops l t H K) h)
      exact ⟨s', .pass (s := ⟨t, H⟩) hw h3, h4⟩
    · exact h.elim

abbrev WK := List C → Heap → (Exit → List C → Heap → Prop) → Prop

def seqK (x y : WK) : WK := fun t H K => x t H fun ex t H => match ex with
  | .normal => y t H K
  | ex => K ex t H
def blockK (id : Nat) (c : WK) : WK := fun t H K => c t H fun ex t H => match ex with
  | .exit id' => if id' = id then K .normal t H else K (.exit id') t H
  | ex => K ex t H
def condK (c : Operand) (x y : WK) : WK := fun t H K => match ev t c with
  | .v (.bool b) => match b with
    | true => x t H K
    | false => y t H K
  | _ => False
def regionK (P : Program) (ops : Array Oper) (draw : Bool) : WK := fun t H K => match draw with
  | false => opsA P ops ops.toList t H fun t H => K .normal t H
  | true => ∃ T : Tell, (P.follows .mixedOrders && Region.lexB .any ops && tailB .any T ops) = true ∧ opsT P T ops ops.toList 0 t H fun t H => K .normal t H
def loopK (P : Program) (B : Nat) (c : Code) : WK := fun t H K => ∃ ex t' H', Loops P B c ⟨t, H⟩ ex ⟨t', H'⟩ ∧ K ex t' H'
def rangeK (P : Program) (B : Nat) (g : Operand) (ps : Array Tmp) (assign body : Code) : WK := fun t H K => match ev t g with
  | .fn f first caps => bK (callable P f && first.isEmpty) <| ∃ H0, Weak B ⟨t, H⟩ ⟨t, H0⟩ ∧ ∃ ex t' H', (∀ (l : Nat) (r : Loop), r.state = .ready → r.pending = none → r.params = ps → r.assign = assign → r.body = body →
      ∃ (rr : C) (Hf : Heap) (rf : Loop), SoundAt P f (H0 ++ [obR l r t]) (.v (.func (.yield l) #[] #[]) :: caps) rr Hf ∧ Hf[H0.length]? = some (obR l rf t) ∧ rf.state ≠ .busy ∧ rf.tmps = r.tmps ∧ B ≤ Hf.length ∧ pend rf.pending ex ∧
        Weak B ⟨t, Hf.set H0.length (obR l { rf with state := .exhausted } t)⟩ ⟨t', H'⟩) ∧ K ex t' H'
  | _ => False
def scopeK (c : WK) : WK := fun t H K => c t H fun ex t H => match ex with
  | .goto _ => False
  | ex => K ex t H
def noK : WK := fun _ _ _ => False

/-- **The way of a state through code.** -/
def wpA (P : Program) (B : Nat) (c : Code) : WK :=
  Code.rec (motive := fun _ => WK) (fun t H K => K .normal t H) (fun _ ops draw => regionK P ops draw) (fun _ _ x y => seqK x y) (fun c _ _ x y => condK c x y) (fun id _ x => blockK id x) (fun c _ => loopK P B c)
    (fun g ps assign body _ _ => rangeK P B g ps assign body) (fun id t H K => K (.exit id) t H) (fun _ x => scopeK x) (fun _ t H K => K .normal t H) (fun _ => noK) (fun t H K => K .ret t H) (fun _ => noK) c

theorem wpA_spec : ∀ {c : Code} {t : List C} {H : Heap} {K : Exit → List C → Heap → Prop}, wpA P B c t H K → ∃ ex s', Run P B c ⟨t, H⟩ ex s' ∧ K ex s'.tmps s'.H := by
  intro c
  induction c with
  | skip => intro t H K h; exact ⟨_, _, .skip, h⟩
  | exit id => intro t H K h; exact ⟨_, _, .exit id, h⟩
  | ret => intro t H K h; exact ⟨_, _, .ret, h⟩
  | seq x y ihx ihy =>
    intro t H K h
    obtain ⟨ex, s1, h1, h2⟩ := ihx (t := t) (H := H) (K := fun ex t H => match ex with | .normal => wpA P B y t H K | ex => K ex t H) h
    cases ex with
    | normal =>
      obtain ⟨ex', s2, h3, h4⟩ := ihy h2
      exact ⟨ex', s2, .seq h1 h3, h4⟩
    | _ => exact ⟨_, s1, .seqExit (by simp) h1, h2⟩
  | block id c ih =>
    intro t H K h
    obtain ⟨ex, s1, h1, h2⟩ := ih (t := t) (H := H) (K := fun ex t H => match ex with | .exit id' => if id' = id then K .normal t H else K (.exit id') t H | ex => K ex t H) h
    refine ⟨_, s1, .block h1, ?_⟩
    cases ex with
    | exit id' =>
      dsimp only at h2 ⊢
      split
      · rename_i e; rw [if_pos e] at h2; exact h2
      · rename_i e; rw [if_neg e] at h2; exact h2
    | _ => exact h2
  | cond c x y ihx ihy =>
    intro t H K h
    change condK c (wpA P B x) (wpA P B y) t H K at h
    unfold condK at h
    split at h
    · rename_i b hb
      cases b with
      | true => obtain ⟨ex, s', h1, h2⟩ := ihx h; exact ⟨ex, s', .cond (s := ⟨t, H⟩) hb h1, h2⟩
      | false => obtain ⟨ex, s', h1, h2⟩ := ihy h; exact ⟨ex, s', .cond (s := ⟨t, H⟩) hb h1, h2⟩
    · exact h.elim
  | region id ops draw =>
    intro t H K h
    cases draw with
    | false =>
      obtain ⟨s', h1, h2⟩ := opsA_spec (B := B) (show opsA P ops ops.toList t H (fun t H => K .normal t H) from h)
      exact ⟨_, s', .region h1, h2⟩
    | true =>
      obtain ⟨T, h1, h2⟩ := (show ∃ T : Tell, (P.follows .mixedOrders && Region.lexB .any ops && tailB .any T ops) = true ∧ opsT P T ops ops.toList 0 t H fun t H => K .normal t H from h)
      simp only [Bool.and_eq_true] at h1
      obtain ⟨s', h3, h4⟩ := Run.drawT (B := B) (id := id) h1.1.1 h1.1.2 h1.2 h2
      exact ⟨_, s', h3, h4⟩
  | loop c ih =>
    intro t H K h
    obtain ⟨ex, t', H', h1, h2⟩ := (show ∃ ex t' H', Loops P B c ⟨t, H⟩ ex ⟨t', H'⟩ ∧ K ex t' H' from h)
    exact ⟨ex, ⟨t', H'⟩, .loop h1, h2⟩
  | label l => intro t H K h; exact ⟨_, _, .label l, h⟩
  | scope c ih =>
    intro t H K h
    obtain ⟨ex, s1, h1, h2⟩ := ih (t := t) (H := H) (K := fun ex t H => match ex with | .goto _ => False | ex => K ex t H) h
    cases ex with
    | goto l => exact h2.elim
    | _ => exact ⟨_, s1, .scope (by simp) h1, h2⟩
  | rangeFunc g ps assign body =>
    intro t H K h
    change rangeK P B g ps assign body t H K at h
    unfold rangeK at h
    split at h
    · rename_i f first caps hg
      obtain ⟨h1, H0, h0, ex, t', H', h2, h3⟩ := bK_spec h
      simp only [Bool.and_eq_true, List.isEmpty_iff] at h1
      obtain ⟨h1, rfl⟩ := h1
      exact ⟨ex, ⟨t', H'⟩, .pre h0 (.rangeFunc hg h1 h2), h3⟩
    · exact h.elim
  | _ => intro t H K h; exact (show False from h).elim

/-- **A round, by its way.** -/
theorem YieldS.of_wpA {H1 H' : Heap} {id l : Nat} {r : Loop} {t : List C} {args : List C} {rv : Bool} {ps : Array Tmp} {assign body : Code} (hob : H1[id]? = some (obR l r t)) (hst : r.state = .ready) (hpe : r.pending = none) (hps : r.params = ps) (ha : r.assign = assign) (hb : r.body = body)
    (hn : args.length = ps.size) (hna : ranged assign = false) (hnb : ranged body = false)
    (h : wpA P H1.length assign (parC t ps.toList args) H1 fun e t1 H1' => e = .normal ∧ H1'[id]? = some (obR l r t) ∧ wpA P H1.length body t1 (H1'.set id (obR l (busy r) t)) fun e t2 H2 =>
      ∃ t3 H3, Weak H1.length ⟨t2, H2⟩ ⟨t3, H3⟩ ∧ H3[id]? = some (obR l (busy r) t) ∧ ((e = .normal ∧ rv = true ∧ H' = H3.set id (obR l r t)) ∨ (rv = false ∧ ((e = .ret ∧ H' = H3.set id (obR l (left r .ret) t)) ∨ ∃ i, e = .exit i ∧ H' = H3.set id (obR l (left r (.exit i)) t))))) :
    YieldS P l H1 args (.v (.bool rv)) H' := by
  subst hps ha hb
  obtain ⟨e, s1, h1, rfl, h2, h3⟩ := wpA_spec h
  obtain ⟨e, s2, h4, t3, H3, hw, h5, h6⟩ := wpA_spec h3
  rcases h6 with ⟨rfl, rfl, rfl⟩ | ⟨rfl, ⟨rfl, rfl⟩ | ⟨i, rfl, rfl⟩⟩
  · exact YieldS.of_run hob hst hpe hn hna hnb h1 h2 (h4.post hw) h5
  · exact YieldS.of_leave (.inl ⟨rfl, rfl⟩) hob hst hn hna hnb h1 h2 (h4.post hw) h5
  · exact YieldS.of_leave (.inr ⟨i, rfl, rfl⟩) hob hst hn hna hnb h1 h2 (h4.post hw) h5

/-- A round of a loop, of either kind. -/
theorem Loops.either {c : Code} {t : List C} {H : Heap} {ex : Exit} {s' : S} (h : wpA P B c t H fun e t1 H1 => (e = .normal ∧ Loops P B c ⟨t1, H1⟩ ex s') ∨ (e ≠ .normal ∧ e = ex ∧ Weak B ⟨t1, H1⟩ s')) : Loops P B c ⟨t, H⟩ ex s' := by
  obtain ⟨e, s1, h1, ⟨rfl, h2⟩ | ⟨hne, rfl, h2⟩⟩ := wpA_spec h
  · exact .step h1 h2
  · exact .done hne (.post h1 h2)

/-- **A loop by what holds at its head**, and a number that falls. -/
theorem Loops.inv {c : Code} {t : List C} {H : Heap} {K : Exit → List C → Heap → Prop} (I : Nat → List C → Heap → Prop) (n : Nat) (h0 : ∃ t0 H0, Weak B ⟨t, H⟩ ⟨t0, H0⟩ ∧ I n t0 H0)
    (step : ∀ n t H, I n t H → wpA P B c t H fun e t1 H1 => (e = .normal ∧ ∃ m t2 H2, m < n ∧ Weak B ⟨t1, H1⟩ ⟨t2, H2⟩ ∧ I m t2 H2) ∨ (e ≠ .normal ∧ K e t1 H1)) :
    ∃ ex t' H', Loops P B c ⟨t, H⟩ ex ⟨t', H'⟩ ∧ K ex t' H' := by
  obtain ⟨t0, H0, hw, hI⟩ := h0
  suffices ∃ ex t' H', Loops P B c ⟨t0, H0⟩ ex ⟨t', H'⟩ ∧ K ex t' H' by
    obtain ⟨ex, t', H', h1, h2⟩ := this
    exact ⟨ex, t', H', .pre hw h1, h2⟩
  clear hw
  induction n using Nat.strongRecOn generalizing t0 H0 with
  | _ n ih =>
    obtain ⟨e, s1, h1, ⟨rfl, m, t2, H2, hm, hw, hI2⟩ | ⟨hne, hK⟩⟩ := wpA_spec (step n t0 H0 hI)
    · obtain ⟨ex, t', H', h2, h3⟩ := ih m hm t2 H2 hI2
      exact ⟨ex, t', H', .step (h1.post hw) h2, h3⟩
    · exact ⟨e, s1.tmps, s1.H, .done hne h1, hK⟩

/-- **A function, over a heap.** -/
theorem SoundAt.of_wpA {f : FuncId} {fn : Func} {c : Code} {H H' : Heap} {args : List C} {r : C} (hf : P.funcs[f]? = some fn) (hb : fn.body = some c)
    (h : wpA P H.length c (entry fn args) H fun ex t1 H1 => (ex = .ret ∨ ex = .normal) ∧ ∃ s2, Weak H.length ⟨t1, H1⟩ s2 ∧ s2.H = H' ∧ resC P fn s2 = some r) : SoundAt P f H args r H' := by
  obtain ⟨ex, s', h1, hex, s2, hw, rfl, h3⟩ := wpA_spec h
  exact SoundAt.of_run hf hb (h1.post hw) hex h3

/-- **A function that hands back what speaks of no object.** -/
theorem SoundAt.of_wpA0 {f : FuncId} {fn : Func} {c : Code} {args : List C} {r : C} (hf : P.funcs[f]? = some fn) (hb : fn.body = some c)
    (h : wpA P 0 c (entry fn args) [] fun ex t1 H1 => (ex = .ret ∨ ex = .normal) ∧ ∃ s2, Weak 0 ⟨t1, H1⟩ s2 ∧ resC P fn s2 = some r) (hr : lowC 0 9 r = true) : SoundAt P f [] args r [] := by
  obtain ⟨ex, s', h1, hex, s2, hw, h2⟩ := wpA_spec h
  exact (SoundAt.of_run (H := []) hf hb (h1.post hw) hex h2).close hr

end
end Go.Ab
