/- An abstract state's way through code: the rules joined. -/
import Derived.Test.YtbndjpkncgfpiaaAbU
import Derived.Test.YtbndjpkncgfpiaaAbT
namespace Go.Ab
set_option linter.unusedVariables false

/-- A map is made. -/
def newMapOp (o : Oper) : Bool := match o.op with
  | .makeMap _ r => match r with
    | none => true
    | some _ => false
  | _ => false

/-- One operation, whatever comes of it. -/
def opR (P : Program) (H : Heap) (ρ : Operand → C) (o : Oper) (K : C → Heap → Prop) : Prop :=
  match nilOp o with
  | some (op, ty, x) => nilK P H op ty (ρ x) K
  | none => match newMapOp o with
    | true => ∀ b : Nat, forceL (H ++ [obM b #[] 0]) fun H' => K (.v (.map (some b))) H'
    | false => stepC P H ρ o K

theorem opR_spec {P : Program} {H : Heap} {ρ : Operand → C} {o : Oper} {K : C → Heap → Prop} (h : opR P H ρ o K) : OpVR P o ρ H K := by
  unfold opR at h
  split at h
  · rename_i op ty x hn
    obtain ⟨c, h1, h2⟩ := nilK_spec hn h
    exact h1.toR h2
  · split at h
    · rename_i hm
      obtain ⟨t, ho⟩ : ∃ t, o.op = .makeMap t none := by
        unfold newMapOp at hm
        split at hm
        · rename_i ho
          split at hm
          · exact ⟨_, ho⟩
          · cases hm
        · cases hm
      exact .makeMap t ho fun b => forceL_spec (h b)
    · obtain ⟨c, H', h1, h2⟩ := stepC_spec h
      exact h1.toR h2

/-- One operation of a region, and what comes behind it. -/
def opK (P : Program) (ops : Array Oper) (o : Oper) (next : List C → Heap → (List C → Heap → Prop) → Prop) (t : List C) (H : Heap) (K : List C → Heap → Prop) : Prop :=
  match aWanted ops t o with
  | some true => opR P H (ev t) o fun c H' => putK t o.dst c fun t => next t H' K
  | some false => putK t o.dst .un fun t => next t H K
  | none => False

def opsA (P : Program) (ops : Array Oper) (l : List Oper) : List C → Heap → (List C → Heap → Prop) → Prop :=
  List.rec (motive := fun _ => List C → Heap → (List C → Heap → Prop) → Prop) (fun t H K => K t H) (fun o _ next => opK P ops o next) l

theorem opsA_nil (P : Program) (ops : Array Oper) (t : List C) (H : Heap) (K : List C → Heap → Prop) : opsA P ops [] t H K = K t H := rfl
theorem opsA_cons (P : Program) (ops : Array Oper) (o : Oper) (l : List Oper) (t : List C) (H : Heap) (K : List C → Heap → Prop) : opsA P ops (o :: l) t H K = opK P ops o (opsA P ops l) t H K := rfl

section
variable {P : Program} {B : Nat} {ops : Array Oper}

theorem opsA_spec : ∀ {l : List Oper} {t : List C} {H : Heap} {K : List C → Heap → Prop}, opsA P ops l t H K → RunOps P B ops l ⟨t, H⟩ fun s' => K s'.tmps s'.H
  | [], t, H, K, h => .nil h
  | o :: l, t, H, K, h => by
    rw [opsA_cons] at h
    unfold opK at h
    split at h
    · rename_i hw
      refine .run (s := ⟨t, H⟩) hw (.of_OpVR (s := ⟨t, H⟩) (opR_spec h)) ?_
      rintro s1 ⟨c, H', h1, rfl⟩
      exact opsA_spec (putK_spec (k := fun t => opsA P ops l t H' K) h1)
    · rename_i hw
      exact .pass (s := ⟨t, H⟩) hw (opsA_spec (putK_spec (k := fun t => opsA P ops l t H K) h))
    · exact h.elim

abbrev WK := List C → Heap → (Exit → List C → Heap → Prop) → Prop

def seqK (x y : WK) : WK := fun t H K => x t H fun ex t H => match ex with
  | .normal => y t H K
  | ex => K ex t H
def blockK (id : Nat) (c : WK) : WK := fun t H K => c t H fun ex t H => match ex with
  | .exit id' => if id' = id then K .normal t H else K (.exit id') t H
  | ex => K ex t H
def condK (c : Operand) (x y : WK) : WK := fun t H K => match ev t c with
  | .v (.bool b) => match b with
    | true => x t H K
    | false => y t H K
  | _ => False
def regionK (P : Program) (ops : Array Oper) (draw : Bool) : WK := fun t H K => match draw with
  | false => opsA P ops ops.toList t H fun t H => K .normal t H
  | true => ∃ T : Tell, (P.follows .mixedOrders && Region.lexB .any ops && tailB .any T ops) = true ∧ opsT P T ops ops.toList 0 t H fun t H => K .normal t H
/-- A loop, as it is asked for in a walk. -/
structure LoopK (P : Program) (B : Nat) (c : Code) (t : List C) (H : Heap) (K : Exit → List C → Heap → Prop) : Prop where
  out : Loops P B c ⟨t, H⟩ fun ex s => K ex s.tmps s.H
def loopK (P : Program) (B : Nat) (c : Code) : WK := fun t H K => LoopK P B c t H K
def rangeK (P : Program) (B : Nat) (g : Operand) (ps : Array Tmp) (assign body : Code) : WK := fun t H K => match ev t g with
  | .fn f first caps => bK (callable P f && first.isEmpty) <| ∃ H0, Weak B ⟨t, H⟩ ⟨t, H0⟩ ∧ ∃ ex t' H', (∀ (l : Nat) (r : Loop), r.state = .ready → r.pending = none → r.params = ps → r.assign = assign → r.body = body →
      ∃ (rr : C) (Hf : Heap) (rf : Loop), SoundAt P f (H0 ++ [obR l r t]) (.v (.func (.yield l) #[] #[]) :: caps) rr Hf ∧ Hf[H0.length]? = some (obR l rf t) ∧ rf.state ≠ .busy ∧ rf.tmps = r.tmps ∧ B ≤ Hf.length ∧ pend rf.pending ex ∧
        Weak B ⟨t, Hf.set H0.length (obR l { rf with state := .exhausted } t)⟩ ⟨t', H'⟩) ∧ K ex t' H'
  | _ => False
def scopeK (c : WK) : WK := fun t H K => c t H fun ex t H => match ex with
  | .goto _ => False
  | ex => K ex t H
def noK : WK := fun _ _ _ => False

/-- **The way of a state through code.** -/
def wpA (P : Program) (B : Nat) (c : Code) : WK :=
  Code.rec (motive := fun _ => WK) (fun t H K => K .normal t H) (fun _ ops draw => regionK P ops draw) (fun _ _ x y => seqK x y) (fun c _ _ x y => condK c x y) (fun id _ x => blockK id x) (fun c _ => loopK P B c)
    (fun g ps assign body _ _ => rangeK P B g ps assign body) (fun id t H K => K (.exit id) t H) (fun _ x => scopeK x) (fun _ t H K => K .normal t H) (fun _ => noK) (fun t H K => K .ret t H) (fun _ => noK) c

theorem wpA_spec : ∀ {c : Code} {t : List C} {H : Heap} {K : Exit → List C → Heap → Prop}, wpA P B c t H K → RunR P B c ⟨t, H⟩ fun ex s => K ex s.tmps s.H := by
  intro c
  induction c with
  | skip => intro t H K h; exact .skip h
  | exit id => intro t H K h; exact .exit id h
  | ret => intro t H K h; exact .ret h
  | label l => intro t H K h; exact .label l h
  | seq x y ihx ihy =>
    intro t H K h
    refine .seq ((ihx (t := t) (H := H) (K := fun ex t H => match ex with | .normal => wpA P B y t H K | ex => K ex t H) h).mono fun ex s1 h1 => ?_)
    cases ex with
    | normal => exact ihy h1
    | _ => exact h1
  | block id c ih =>
    intro t H K h
    refine .block ((ih (t := t) (H := H) (K := fun ex t H => match ex with | .exit id' => if id' = id then K .normal t H else K (.exit id') t H | ex => K ex t H) h).mono fun ex s1 h1 => ?_)
    cases ex with
    | exit id' => exact h1
    | _ => exact h1
  | scope c ih =>
    intro t H K h
    refine .scope ((ih (t := t) (H := H) (K := fun ex t H => match ex with | .goto _ => False | ex => K ex t H) h).mono fun ex s1 h1 => ?_)
    cases ex with
    | goto l => exact (h1 : False).elim
    | _ => exact h1
  | cond c x y ihx ihy =>
    intro t H K h
    change condK c (wpA P B x) (wpA P B y) t H K at h
    unfold condK at h
    split at h
    · rename_i b hb
      cases b with
      | true => exact .cond (s := ⟨t, H⟩) hb (ihx h)
      | false => exact .cond (s := ⟨t, H⟩) hb (ihy h)
    · exact h.elim
  | region id ops draw =>
    intro t H K h
    cases draw with
    | false => exact .region (opsA_spec (show opsA P ops ops.toList t H (fun t H => K .normal t H) from h))
    | true =>
      obtain ⟨T, h1, h2⟩ := (show ∃ T : Tell, (P.follows .mixedOrders && Region.lexB .any ops && tailB .any T ops) = true ∧ opsT P T ops ops.toList 0 t H fun t H => K .normal t H from h)
      simp only [Bool.and_eq_true] at h1
      obtain ⟨s', h3, h4⟩ := Run.drawT (B := B) (id := id) h1.1.1 h1.1.2 h1.2 h2
      exact RunR.mono h3 fun ex s1 ⟨e1, e2⟩ => by subst e1 e2; exact h4
  | loop c ih => intro t H K h; exact .loop (show LoopK P B c t H K from h).out
  | rangeFunc g ps assign body =>
    intro t H K h
    change rangeK P B g ps assign body t H K at h
    unfold rangeK at h
    split at h
    · rename_i f first caps hg
      obtain ⟨h1, H0, h0, ex, t', H', h2, h3⟩ := bK_spec h
      simp only [Bool.and_eq_true, List.isEmpty_iff] at h1
      obtain ⟨h1, rfl⟩ := h1
      refine .pre h0 (.rangeFunc hg h1 fun l r a1 a2 a3 a4 a5 => ?_)
      obtain ⟨rr, Hf, rf, b1, b2, b3, b4, b5, b6, b7⟩ := h2 l r a1 a2 a3 a4 a5
      exact ⟨rr, Hf, rf, ex, ⟨t', H'⟩, b1, b2, b3, b4, b5, b6, b7, h3⟩
    · exact h.elim
  | _ => intro t H K h; exact (show False from h).elim

/-- **A round, by its way.** -/
theorem YieldS.of_wpA {H1 H' : Heap} {id l : Nat} {r : Loop} {t : List C} {args : List C} {rv : Bool} {ps : Array Tmp} {assign body : Code} (hob : H1[id]? = some (obR l r t)) (hst : r.state = .ready) (hpe : r.pending = none) (hps : r.params = ps) (ha : r.assign = assign) (hb : r.body = body)
    (hn : args.length = ps.size) (hna : ranged assign = false) (hnb : ranged body = false)
    (h : wpA P H1.length assign (parC t ps.toList args) H1 fun e t1 H1' => e = .normal ∧ H1'[id]? = some (obR l r t) ∧ wpA P H1.length body t1 (H1'.set id (obR l (busy r) t)) fun e t2 H2 =>
      ∃ t3 H3, Weak H1.length ⟨t2, H2⟩ ⟨t3, H3⟩ ∧ roundE id l r t rv H' e H3) :
    YieldS P l H1 args (.v (.bool rv)) H' := by
  subst hps ha hb
  refine YieldS.of_run hob hst hpe hn hna hnb ((wpA_spec h).mono fun e s1 ⟨h1, h2, h3⟩ => ⟨h1, h2, (wpA_spec h3).mono fun e s2 ⟨t3, H3, h4, h5⟩ => ⟨⟨t3, H3⟩, h4, h5⟩⟩)

/-- **A loop by what holds at its head**, and a number that falls. -/
theorem Loops.inv {c : Code} {t : List C} {H : Heap} {K : Exit → List C → Heap → Prop} (I : Nat → List C → Heap → Prop) (n : Nat) (h0 : ∃ t0 H0, Weak B ⟨t, H⟩ ⟨t0, H0⟩ ∧ I n t0 H0)
    (step : ∀ n t H, I n t H → wpA P B c t H fun e t1 H1 => (e = .normal ∧ ∃ m t2 H2, m < n ∧ Weak B ⟨t1, H1⟩ ⟨t2, H2⟩ ∧ I m t2 H2) ∨ (e ≠ .normal ∧ K e t1 H1)) :
    LoopK P B c t H K := by
  obtain ⟨t0, H0, hw, hI⟩ := h0
  refine ⟨.pre hw ?_⟩
  suffices key : ∀ n t H, I n t H → RunL P B c (n + 1) ⟨t, H⟩ fun ex s => K ex s.tmps s.H from ⟨n + 1, key n t0 H0 hI⟩
  intro n
  induction n using Nat.strongRecOn with
  | _ n ih =>
    intro t H hI
    refine .step ((wpA_spec (step n t H hI)).post fun ex s1 h1 => ?_)
    rcases h1 with ⟨rfl, m, t2, H2, hm, hw2, hI2⟩ | ⟨hne, hK⟩
    · exact ⟨⟨t2, H2⟩, hw2, (RunL.more (by omega) (ih m hm t2 H2 hI2) : RunL P B c n ⟨t2, H2⟩ _)⟩
    · refine ⟨s1, .refl s1, ?_⟩
      cases ex with
      | normal => exact absurd rfl hne
      | _ => exact hK

/-- **A function, over a heap.** -/
theorem SoundAt.of_wpA {f : FuncId} {fn : Func} {c : Code} {H H' : Heap} {args : List C} {r : C} (hf : P.funcs[f]? = some fn) (hb : fn.body = some c)
    (h : wpA P H.length c (entry fn args) H fun ex t1 H1 => (ex = .ret ∨ ex = .normal) ∧ ∃ s2, Weak H.length ⟨t1, H1⟩ s2 ∧ s2.H = H' ∧ resC P fn s2 = some r) : SoundAt P f H args r H' :=
  SoundR.at (SoundR.of_run hf hb ((wpA_spec h).mono fun ex s1 ⟨hex, s2, hw, h2, h3⟩ => ⟨hex, s2, r, hw, h3, rfl, h2⟩))
/-- The same, to one of several. -/
theorem SoundR.of_wpA {f : FuncId} {fn : Func} {c : Code} {H : Heap} {args : List C} {R : C → Heap → Prop} (hf : P.funcs[f]? = some fn) (hb : fn.body = some c)
    (h : wpA P H.length c (entry fn args) H fun ex t1 H1 => (ex = .ret ∨ ex = .normal) ∧ ∃ s2 r, Weak H.length ⟨t1, H1⟩ s2 ∧ resC P fn s2 = some r ∧ R r s2.H) : SoundR P f H args R :=
  SoundR.of_run hf hb (wpA_spec h)

/-- **A function that hands back what speaks of no object.** -/
theorem SoundAt.of_wpA0 {f : FuncId} {fn : Func} {c : Code} {args : List C} {r : C} (hf : P.funcs[f]? = some fn) (hb : fn.body = some c)
    (h : wpA P 0 c (entry fn args) [] fun ex t1 H1 => (ex = .ret ∨ ex = .normal) ∧ ∃ s2, Weak 0 ⟨t1, H1⟩ s2 ∧ resC P fn s2 = some r) (hr : lowC 0 9 r = true) : SoundAt P f [] args r [] :=
  SoundR.close (R := fun c => c = r) (SoundR.of_run (H := []) (R := fun c _ => c = r) hf hb ((wpA_spec h).mono fun ex s1 ⟨hex, s2, hw, h2⟩ => ⟨hex, s2, r, hw, h2, rfl⟩)) fun c h => ⟨h, hr⟩

end
end Go.Ab
