import Derived.Test.YtdbcjcnfaajpjaaGreatRJ
namespace Go.Ab
set_option linter.unusedVariables false

theorem HRel_E0 (w : World) : HRel w (E0 w) [] where
  base := ⟨rfl, by simp, by simp [getB], fun b o u h => E0_St.1 h, by simp [getB], by simp, by simp⟩
  gro := ⟨by simp, by simp, fun id b ⟨ob, _, h, _⟩ => by simp at h, fun _ _ b ⟨ob, _, h, _⟩ => by simp at h, by simp, by simp, by simp, fun _ _ b ⟨ob, _, _, h, _⟩ => by simp at h⟩

section
variable {P : Program} {t : TypeId}



theorem Opens.argBool (ht : P.underlying t = some .bool) : OpenArg P t (fun b : Bool => .v (.bool b)) (fun _ => True) :=
  Opens.argOne (c := fun b => .v (.bool b)) (Opens.bool ht) fun w base v hv => by obtain ⟨n, rfl⟩ := WideShapes.okWide_bool ht hv; rfl
theorem Opens.argString (ht : P.underlying t = some .string) : OpenArg P t (fun s : ByteArray => .v (.string s)) (fun s => s.size ≤ reachBytes) :=
  Opens.argOne (c := fun s => .v (.string s)) (Opens.string ht) fun w base v hv => by obtain ⟨n, rfl⟩ := WideShapes.okWide_string ht hv; rfl
end


theorem TrodAll_stays {P : Program} {H : Type} {eH : TypeId × Value → H} (hl : laidOutB P = true) {W W' : World} {sp' : Nat → Bool} : ∀ {ts : List TypeId} {vs : List Value} {ds : List (DataW H)} {ps : List MemPlace},
    ts.all (fun t => P.readableRec t && decide (t < P.types.size)) = true → DataW.TrodAll eH P W 0 (fun _ => true) true ts vs ds ps → (∀ p ∈ ps, W.sameAt W' p) → (∀ p ∈ ps, sp' p.block = true) → DataW.TrodAll eH P W' 0 sp' true ts vs ds ps
  | [], [], [], ps, _, h, _, _ => h
  | t :: ts, v :: vs, d :: ds, ps, hts, ⟨p, q, h1, h2, e⟩, hsame, hs => by
    subst e
    simp only [List.all_cons, Bool.and_eq_true, decide_eq_true_eq] at hts
    exact ⟨p, q, WideElems.Trod_stays hl hts.1.1 hts.1.2 h1 (fun x hx => hsame x (by simp [hx])) (fun x hx => hs x (by simp [hx])), TrodAll_stays hl hts.2 h2 (fun x hx => hsame x (by simp [hx])) (fun x hx => hs x (by simp [hx])), rfl⟩

theorem below_of_Grow {w w' : World} {E E' : Env} (g : Grow w E [] w' E' []) : RowKit.Below w.heap.size w w' :=
  ⟨g.os, g.tape, g.output, g.size, fun k hk => g.frame k hk Owned.none⟩

theorem trodAll_len {P : Program} {H : Type} {eH : TypeId × Value → H} {w : World} {b : Nat} {sp : Nat → Bool} {hd : Bool} : ∀ {ts : List TypeId} {vs : List Value} {ds : List (DataW H)} {ps : List MemPlace}, DataW.TrodAll eH P w b sp hd ts vs ds ps → ds.length = ts.length
  | [], [], [], _, _ => rfl
  | _ :: _, _ :: _, _ :: _, _, ⟨_, _, _, h, _⟩ => by simp [trodAll_len h]

theorem law_close {P : Program} {f : FuncId} {fn : Func} {s : ChangeSpec} {H : Type} {eH : TypeId × Value → H} {W : World} {base : Nat} {args : Array Value} {ds gs : List (DataW H)} {before : List MemPlace} {tb : TypeId} {α : Type} {c : α → List C} {wf : α → Prop}
    (hl : laidOutB P = true) (hts : fn.params.toList.all (fun t => P.readableRec t && decide (t < P.types.size)) = true) (hres : fn.resultTypes = #[tb]) (htb : P.underlying tb = some .bool) (hvars : s.vars = [])
    (hspec : ∀ ds : List (DataW H), ds.length = fn.params.toList.length → s.fn H (ds ++ []) = { results := [.lit (.bool true)], args := ds })
    (hval : ∀ (j : Nat) t v, fn.params[j]? = some t → args[j]? = some v → Value.okWide P W .any base t v)
    (hW : DataW.Whole eH P fn.params.toList s.vars false W args.toList ds gs before)
    (hsz : (DataW.weightsEach P (fn.params.toList ++ s.plain.varTypes P) (ds ++ gs)).all (· ≤ reachBytes) = true)
    (hop : OpenArgs P fn.params.toList c wf) (hs : ∀ x, wf x → SoundAt P f [] (c x) (.v (.bool true)) []) :
    Calls P f args W fun e W' => ∃ v, e = .returned v ∧ s.post eH P fn false true false false W args v W' := by
  have hW' := hW
  obtain ⟨p, q, hA, hV, rfl, hfz, hnd⟩ := hW
  rw [hvars] at hV
  obtain ⟨rfl, rfl⟩ := ChangeShapes.trodVars_none hV
  have hvt : s.plain.varTypes P = [] := by simp [DataSpec.varTypes, ChangeSpec.plain, hvars]
  rw [hvt] at hsz
  simp only [List.append_nil] at hsz
  have hlt := hW'.lt
  obtain ⟨x, hx, hL⟩ := hop eH W base args.toList ds p (fun j t v e1 e2 => hval j t v (by simpa using e1) (by simpa using e2)) hA hsz
  refine (hs x hx W (E0 W) args (HRel_E0 W) hL).mono ?_
  rintro e W' ⟨v, E', rfl, _, hv, g⟩
  have hb := below_of_Grow g
  obtain rfl : v = .bool true := by cases hv; rfl
  have hlen := trodAll_len hA
  have hsp := hspec ds hlen
  refine ⟨_, rfl, ds, [], p ++ [], [], p, [], hW', ?_, ?_, ?_, ?_, fun h => by cases h⟩
  · rw [hsp, hres]
    exact ⟨[], [], RowKit.shut_bool htb _, rfl, rfl⟩
  · rw [hsp]
    exact TrodAll_stays hl hts hA (fun x hx => hb.same (hlt x (by simpa using hx))) (fun x hx => by simpa using hlt x (by simpa using hx))
  · rw [hsp, hvars]
    rfl
  · exact hb.frame _

end Go.Ab

