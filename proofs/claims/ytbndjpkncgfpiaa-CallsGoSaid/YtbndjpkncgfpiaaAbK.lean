/- Single temporaries that say less; structs compared. -/
import Derived.Test.YtbndjpkncgfpiaaAbJ
namespace Go.Ab
set_option linter.unusedVariables false

theorem WC.trans {c c' c'' : C} (h : WC c c') (h' : WC c' c'') : WC c c'' := fun E y hl => h' E y (h E y hl)
theorem WC.nil (sz sz' : Nat) : WC (.lst 1 sz []) (.lst 0 sz' []) := (WC.none 1 sz sz').trans (WC.share 1 sz' [])

theorem WCs.at : ∀ {cs : List C} {i : Nat} {c c' : C}, cs[i]? = some c → WC c c' → WCs cs (cs.set i c')
  | [], i, c, c', h, hw => by simp at h
  | x :: xs, 0, c, c', h, hw => by simp at h; subst h; exact .cons hw (WCs.refl xs)
  | x :: xs, i + 1, c, c', h, hw => .cons (.refl x) (WCs.at (by simpa using h) hw)

theorem Weak.cell {B : Nat} {s : S} (i : Nat) {c c' : C} (h : s.tmps[i]? = some c) (hw : WC c c') : Weak B s ⟨s.tmps.set i c', s.H⟩ := Weak.tmps (WCs.at h hw)

end Go.Ab
