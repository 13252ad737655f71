/- Small helps for walks. -/
import Derived.Test.YtbndjpkncgfpiaaAbG
import Derived.IntWalk
namespace Go.Ab
set_option linter.unusedVariables false

theorem i64_ok {n : Int} (h0 : -9223372036854775808 ≤ n) (h1 : n ≤ 9223372036854775807) : IntKind.i64.wrap n = n := IntWalk.i64_in n ⟨h0, h1⟩
theorem i64_nat {n : Nat} (h : n < 9223372036854775807) : IntKind.i64.wrap ((n : Int) + 1) = ((n + 1 : Nat) : Int) := by rw [i64_ok (by omega) (by omega)]; rfl

section
variable {P : Program} {f : FuncId} {H H' : Heap}

/-- Arguments that say more. -/
theorem SoundAt.pre {args args' : List C} {r : C} (h : SoundAt P f H args' r H') (hw : WCs args args') : SoundAt P f H args r H' := fun w E vs hh hl => h w E vs hh (hw.LL hl)
/-- A result that says less. -/
theorem SoundAt.post {args : List C} {r r' : C} (h : SoundAt P f H args r H') (hw : WC r r') : SoundAt P f H args r' H' := fun w E vs hh hl => (h w E vs hh hl).mono fun e w' ⟨v, E', h1, h2, h3, h4⟩ => ⟨v, E', h1, h2, hw E' v h3, h4⟩

/-! ### What is not known piece by piece is as well off -/

theorem forceV_of {x : Value} {k : Value → Prop} (h : k x) : forceV x k := by unfold forceV; split <;> exact h
theorem forceN_of {n : Nat} {k : Nat → Prop} (h : k n) : forceN n k := by unfold forceN; split <;> exact h
theorem forceL_of {α : Type} : ∀ {l : List α} {k : List α → Prop}, k l → forceL l k
  | [], k, h => h
  | x :: xs, k, h => forceL_of (l := xs) (k := fun ys => k (x :: ys)) h
theorem forceC_of {c : C} {k : C → Prop} (h : k c) : forceC c k := by
  cases c with
  | v x => exact forceV_of (k := fun x => k (.v x)) h
  | sref cells => exact forceL_of (k := fun cells => k (.sref cells)) h
  | ref id hops sz i j => exact forceN_of (k := fun id => forceN sz fun sz => forceN j fun j => k (.ref id hops sz i j)) (forceN_of (k := fun sz => forceN j fun j => k (.ref id hops sz i j)) (forceN_of (k := fun j => k (.ref id hops sz i j)) h))
  | sl id hops sz lo len full => exact forceN_of (k := fun id => k (.sl id hops sz lo len full)) h
  | mp id => exact forceN_of (k := fun id => k (.mp id)) h
  | gl id sz rows => exact forceN_of (k := fun id => k (.gl id sz rows)) h
  | agg cs => exact forceL_of (k := fun cs => k (.agg cs)) h
  | tup cs => exact forceL_of (k := fun cs => k (.tup cs)) h
  | _ => exact h
theorem eachK_of {α : Type} {f : α → (α → Prop) → Prop} (hf : ∀ x k, k x → f x k) : ∀ {l : List α} {k : List α → Prop}, k l → eachK f l k
  | [], k, h => h
  | x :: xs, k, h => hf x _ (eachK_of hf (l := xs) (k := fun xs => k (x :: xs)) h)
theorem forceOb_of {ob : Ob} {k : Ob → Prop} (h : k ob) : forceOb ob k := by
  obtain ⟨kind, ty, sz, rows, fz⟩ := ob
  unfold forceOb
  dsimp only
  split
  · exact forceN_of (k := fun sz => eachK (eachK forceC) rows fun rows => k ⟨1, ty, sz, rows, fz⟩) (eachK_of (fun _ _ h => eachK_of (fun _ _ h => forceC_of h) h) (k := fun rows => k ⟨1, ty, sz, rows, fz⟩) h)
  · exact h
theorem forceH_of {H : Heap} {k : Heap → Prop} (h : k H) : forceH H k := eachK_of (fun _ _ h => forceOb_of h) h

theorem toNat_cast (n : Nat) : ((n : Int)).toNat = n := by simp

end

/-- A call that touches nothing. -/
theorem of_calls {P : Program} {f : FuncId} {vs : Array Value} {v : Value} {args : List C} {r : C} (H : Heap) (hc : ∀ w, Calls P f vs w fun e w' => e = .returned v ∧ w' = w) (ha : ∀ E (us : Array Value), LL E args us.toList → us = vs) (hr : ∀ E, L E r v) : SoundAt P f H args r H := fun w E us hh hl => by
  obtain rfl := ha E us hl
  refine (hc w).mono ?_
  rintro e w' ⟨rfl, rfl⟩
  exact ⟨v, E, rfl, hh, hr E, Grow.refl _ _ _⟩

theorem args1 {a : Value} (E : Env) (us : Array Value) (h : LL E [.v a] us.toList) : us = #[a] := by
  obtain ⟨l⟩ := us
  match l, h with
  | [], h => have := h.1; simp at this
  | [x], h =>
    obtain ⟨h1, _⟩ := h.cons_inv
    cases h1; rfl
  | _ :: _ :: _, h => have := h.1; simp at this
theorem args2 {a b : Value} (E : Env) (us : Array Value) (h : LL E [.v a, .v b] us.toList) : us = #[a, b] := by
  obtain ⟨l⟩ := us
  match l, h with
  | [], h => have := h.1; simp at this
  | [_], h => have := h.1; simp at this
  | [x, y], h =>
    obtain ⟨h1, h2⟩ := h.cons_inv
    obtain ⟨h2, _⟩ := h2.cons_inv
    cases h1; cases h2; rfl
  | _ :: _ :: _ :: _, h => have := h.1; simp at this

end Go.Ab
