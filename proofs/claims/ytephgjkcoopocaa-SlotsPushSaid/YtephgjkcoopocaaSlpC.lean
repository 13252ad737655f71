/- Layer 14 (slots): what is free, walked. -/
import Derived.Test.YtephgjkcoopocaaSlpB
namespace Go.Slp
open Go.Ab Go.Proofs Go.Hy
set_option linter.unusedVariables false
set_option maxRecDepth 8000


theorem chain_sound (e : En) (X Y Z W : Ob) : SoundAt Try.prog 68 [X, Y, Z, W] [Ev e] (.fn 85 [] [.ref 4 [] 3 0 0]) [X, Y, Z, W, ⟨1, 38, 3, [encE e], 0⟩] := by
  refine SoundAt.of_wpA (fn := Try.f68) Try.func68 rfl ?_
  conv => whnf
  exact ⟨.inl rfl, _, .refl _, rfl, rfl⟩

theorem chainN_sound (e : En) (he : e.ok) (N : Nat) (hN : cntV e.next (headI e) = N) (l : Nat) (rec rec' : Ob) (rr : C) (rn : Int) (b : Bool)
    (hy : ∀ k, k < N → YieldS Try.prog l ([⟨1, 38, 3, [encE e], 0⟩, ⟨1, 36, 1, [[.lst 1 0 []]], 0⟩, ⟨1, 39, 1, [[I 0]], 0⟩, ⟨1, 36, 1, [[.gl 5 1 (vk e k)]], 0⟩, ⟨1, 38, 3, [encE e], 0⟩, ⟨4, 3, 1, (vk e k), 0⟩, rec] ++ [⟨2, 4, 1, (seenB e.next (headI e) (k + 1)).map encB, 0⟩]) [I (posV e.next (headI e) k)] (Bo true) ([⟨1, 38, 3, [encE e], 0⟩, ⟨1, 36, 1, [[.lst 1 0 []]], 0⟩, ⟨1, 39, 1, [[I 0]], 0⟩, ⟨1, 36, 1, [[.gl 5 1 (vk e (k + 1))]], 0⟩, ⟨1, 38, 3, [encE e], 0⟩, ⟨4, 3, 1, (vk e (k + 1)), 0⟩, rec] ++ [⟨2, 4, 1, (seenB e.next (headI e) (k + 1)).map encB, 0⟩]))
    (hz : YieldS Try.prog l ([⟨1, 38, 3, [encE e], 0⟩, ⟨1, 36, 1, [[.lst 1 0 []]], 0⟩, ⟨1, 39, 1, [[I 0]], 0⟩, ⟨1, 36, 1, [[.gl 5 1 (vk e N)]], 0⟩, ⟨1, 38, 3, [encE e], 0⟩, ⟨4, 3, 1, (vk e N), 0⟩, rec] ++ [⟨2, 4, 1, (seenB e.next (headI e) N).map encB, 0⟩]) [I (if okV e.next (headI e) then -1 else -2)] (Bo b) ([⟨1, 38, 3, [encE e], 0⟩, ⟨1, 36, 1, [[rr]], 0⟩, ⟨1, 39, 1, [[I rn]], 0⟩, ⟨1, 36, 1, [[.gl 5 1 (vk e N)]], 0⟩, ⟨1, 38, 3, [encE e], 0⟩, ⟨4, 3, 1, (vk e N), 0⟩, rec'] ++ [⟨2, 4, 1, (seenB e.next (headI e) N).map encB, 0⟩])) :
    SoundAt Try.prog 85 [⟨1, 38, 3, [encE e], 0⟩, ⟨1, 36, 1, [[.lst 1 0 []]], 0⟩, ⟨1, 39, 1, [[I 0]], 0⟩, ⟨1, 36, 1, [[.gl 5 1 (vk e 0)]], 0⟩, ⟨1, 38, 3, [encE e], 0⟩, ⟨4, 3, 1, (vk e 0), 0⟩, rec] [.v (.func (.yield l) #[] #[]), .ref 4 [] 3 0 0] (.tup []) ([⟨1, 38, 3, [encE e], 0⟩, ⟨1, 36, 1, [[rr]], 0⟩, ⟨1, 39, 1, [[I rn]], 0⟩, ⟨1, 36, 1, [[.gl 5 1 (vk e N)]], 0⟩, ⟨1, 38, 3, [encE e], 0⟩, ⟨4, 3, 1, (vk e N), 0⟩, rec'] ++ [⟨2, 4, 1, (seenB e.next (headI e) N).map encB, 0⟩]) := by
  subst hN
  exact chain1_sound e he l rec rec' rr rn hy ⟨b, hz⟩

abbrev tF (r : List Int × Int) : C := .tup [lI r.1, I r.2]

theorem free_sound (e : En) (he : e.ok) : SoundAt Try.prog 33 [] [Ev e] (tF (freeV e)) [] := by
  have hl := he.2.1.2
  obtain ⟨c1, c2, c3⟩ := cnt_spec e.next (headI e)
  generalize hN : cntV e.next (headI e) = N at *
  refine SoundAt.of_wpA1 (fn := Try.f33) Try.func33 rfl ?_
  conv => whnf
  refine ⟨_, _, chain_sound e _ _ _ _, ?_⟩
  conv => whnf
  refine ⟨_, Weak.growH 3 0 3 1 rfl rfl (.inl rfl) rfl rfl, ?_⟩
  have good : ∀ j, j < N → 0 ≤ posV e.next (headI e) j := fun j hj => by
    have := c3 j hj
    simp only [stopB, Bool.or_eq_false_iff, Bool.not_eq_false', inB, Bool.and_eq_true, decide_eq_true_eq] at this
    exact this.1.1
  have hv : ∀ k, (vk e k).length = k := fun k => by simp [vis_len]
  have vs : ∀ k, vk e (k + 1) = vk e k ++ [[I (posV e.next (headI e) k)]] := fun k => by
    show (visV e.next (headI e) (k + 1)).map encI = _
    rw [vis_succ, List.map_append]; rfl
  by_cases hok : okV e.next (headI e) = true
  · refine ⟨.normal, _, [⟨1, 38, 3, [encE e], 0⟩, ⟨1, 36, 1, [[.lst 1 0 []]], 0⟩, ⟨1, 39, 1, [[I 0]], 0⟩, ⟨1, 36, 1, [[.gl 5 1 (vk e N)]], 0⟩, ⟨1, 38, 3, [encE e], 0⟩, ⟨4, 3, 1, vk e N, 0⟩], fun l r h1 h2 h3 h4 h5 => ⟨_, _, r, chainN_sound e he N hN l (obR l r _) (obR l r _) (.lst 1 0 []) 0 true (fun k hk => ?_) ?_, 
      rfl, by rw [h1]; decide, rfl, Nat.zero_le _, by rw [h2]; trivial, Weak.low 6 _ _ rfl rfl rfl⟩, ?_⟩
    · have g := good k hk
      have hvk := hv k
      refine YieldS.of_wpA (id := 6) rfl h1 h2 h3 h4 h5 rfl rfl rfl ?_
      conv => whnf
      refine ⟨rfl, rfl, ?_⟩
      conv => whnf
      refine ⟨fun h => absurd h (by simp; omega), fun _ => ?_⟩
      conv => whnf
      refine ⟨fun h => absurd h (by simp; omega), fun _ => ?_⟩
      conv => whnf
      refine ⟨rfl, .inr rfl, by simp [maxLen, hvk]; omega, by show _ * 8 ≤ _; simp [hvk]; omega, ?_⟩
      conv => whnf
      rw [vs k]
      exact ⟨_, _, .refl _, rfl, .inl ⟨rfl, rfl, rfl⟩⟩
    · rw [if_pos hok]
      refine YieldS.of_wpA (id := 6) rfl h1 h2 h3 h4 h5 rfl rfl rfl ?_
      conv => whnf
      refine ⟨rfl, rfl, ?_⟩
      conv => whnf
      (repeat (first | (refine ⟨fun _ => ?_, fun h => absurd h (by decide)⟩; (conv => whnf); (try (refine ⟨(rfl : (_ : Heap) = _), ?_⟩; (conv => whnf)))) | (refine ⟨fun h => absurd h (by decide), fun _ => ?_⟩; (conv => whnf); (try (refine ⟨(rfl : (_ : Heap) = _), ?_⟩; (conv => whnf))))))
      exact ⟨_, _, .refl _, rfl, .inl ⟨rfl, rfl, rfl⟩⟩
    · have e1 : freeV e = (visV e.next (headI e) N, 0) := by unfold freeV; rw [if_pos hok, hN]
      rw [e1]
      conv => whnf
      exact ⟨.inl rfl, _, .refl _, rfl⟩
  · refine ⟨.ret, _, [⟨1, 38, 3, [encE e], 0⟩, ⟨1, 36, 1, [[.lst 1 0 []]], 0⟩, ⟨1, 39, 1, [[I 11]], 0⟩], fun l r h1 h2 h3 h4 h5 => ⟨_, _, left r .ret, chainN_sound e he N hN l (obR l r _) (obR l (left r .ret) _) (.lst 1 0 []) 11 false (fun k hk => ?_) ?_, 
      rfl, by simp, rfl, Nat.zero_le _, trivial, Weak.low 3 _ _ rfl rfl rfl⟩, ?_⟩
    · have g := good k hk
      have hvk := hv k
      refine YieldS.of_wpA (id := 6) rfl h1 h2 h3 h4 h5 rfl rfl rfl ?_
      conv => whnf
      refine ⟨rfl, rfl, ?_⟩
      conv => whnf
      refine ⟨fun h => absurd h (by simp; omega), fun _ => ?_⟩
      conv => whnf
      refine ⟨fun h => absurd h (by simp; omega), fun _ => ?_⟩
      conv => whnf
      refine ⟨rfl, .inr rfl, by simp [maxLen, hvk]; omega, by show _ * 8 ≤ _; simp [hvk]; omega, ?_⟩
      conv => whnf
      rw [vs k]
      exact ⟨_, _, .refl _, rfl, .inl ⟨rfl, rfl, rfl⟩⟩
    · rw [if_neg hok]
      refine YieldS.of_wpA (id := 6) rfl h1 h2 h3 h4 h5 rfl rfl rfl ?_
      conv => whnf
      refine ⟨rfl, rfl, ?_⟩
      conv => whnf
      (repeat (first | (refine ⟨fun _ => ?_, fun h => absurd h (by decide)⟩; (conv => whnf); (try (refine ⟨(rfl : (_ : Heap) = _), ?_⟩; (conv => whnf)))) | (refine ⟨fun h => absurd h (by decide), fun _ => ?_⟩; (conv => whnf); (try (refine ⟨(rfl : (_ : Heap) = _), ?_⟩; (conv => whnf))))))
      exact ⟨_, _, .refl _, rfl, .inr ⟨rfl, .inl ⟨rfl, rfl⟩⟩⟩
    · have e1 : freeV e = ([], 11) := by unfold freeV; rw [if_neg hok]
      rw [e1]
      conv => whnf
      exact ⟨.inl rfl, _, Weak.var 1 rfl rfl rfl (.cons (WC.nil 0 1) .nil), rfl⟩

end Go.Slp
