/- Joined: LinJ. -/
import Derived.Test.YtbndjpkncgfpiaaGreatQM
import Derived.Test.YtbndjpkncgfpiaaGreatQL
/- Layer 29 (linear): LinearTakes, walked. -/
namespace Go.Lin
open Go.Ab Go.Proofs Go.Hy Go.Gat Go.Nam Go.Hos Go.Con Go.Sna
set_option linter.unusedVariables false
set_option linter.unusedSimpArgs false
set_option maxRecDepth 100000
set_option maxHeartbeats 4000000

theorem small_of {c : Cfg} (hc : c.ok) (hb : bigC c = false) : SmallC c ∧ ∀ x ∈ c.clusters, x.health.length < 1000000000000 := by
  unfold Cfg.ok at hc
  obtain ⟨⟨a1, a2⟩, ⟨b1, b2⟩, c1, c2⟩ := hc
  unfold bigC at hb
  simp only [Bool.or_eq_false_iff, decide_eq_false_iff_not, List.any_eq_false] at hb
  obtain ⟨⟨⟨⟨h1, h2⟩, h3⟩, h4⟩, h5⟩ := hb
  unfold reachBytes at a2 b2 c2
  refine ⟨⟨⟨by omega, fun s hs => ?_⟩, ⟨by omega, fun r hr => ?_⟩, by omega, fun x hx => ?_⟩, fun x hx => ?_⟩
  · have := a1 s hs; unfold StrOk reachBytes at this; omega
  · have := b1 r hr; unfold Rou.ok reachBytes at this
    have h6 := h5 r hr
    unfold rouB at h6
    simp at h6
    exact ⟨by omega, by omega, by omega, by omega⟩
  · have := c1 x hx; unfold Clu.ok reachBytes at this; exact ⟨by omega, by omega⟩
  · have h6 := h4 x hx
    unfold cluB at h6
    simp at h6
    omega
theorem len_of {c : Cfg} (hc : c.ok) : c.listens.length < 4000000000000000000 ∧ c.routes.length < 4000000000000000000 ∧ c.clusters.length < 4000000000000000000 := by
  unfold Cfg.ok reachBytes at hc
  omega

end Go.Lin

