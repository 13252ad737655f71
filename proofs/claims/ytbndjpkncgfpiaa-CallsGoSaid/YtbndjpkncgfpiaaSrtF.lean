/- The stable sort, walked: at whatever length. -/
import Derived.Test.YtbndjpkncgfpiaaSrtE
namespace Go.Srt
open Go.Ab Go.Proofs Go.Hy Go.Cal
set_option linter.unusedVariables false
set_option linter.unusedSimpArgs false
set_option maxRecDepth 100000
set_option maxHeartbeats 4000000


theorem stable_sound (cs : List Cal) (N : Nat) (d0 W : List Int) (hN : N = d0.length) (hb : N ≤ 1000000) (hr : Rg cs.length d0) (hst : Stc (ptV cs) d0) (hs : Sd (ptV cs) W) (hp : W.Perm d0) :
    SoundAt Try.prog 58 [⟨1, 22, 1, [[lCal cs]], 0⟩, ⟨2, 3, 1, (d0).map encI, 0⟩] [.sl 1 [] 1 0 N false, I N, .fn 36 [] [.ref 0 [] 1 0 0]] (.tup []) [⟨1, 22, 1, [[lCal cs]], 0⟩, ⟨2, 3, 1, (W).map encI, 0⟩] := by
  refine SoundAt.of_wpA (fn := Try.f58) Try.func58 rfl ?_
  conv => whnf
  refine Loops.inv (fun q t1 H1 => ∃ (P0 P Q : List Int), Q.length = q ∧ d0 = P0 ++ Q ∧ Full (ptV cs) 20 P0 P ∧ t1 = [.sl 1 [] 1 0 N false, I N, .fn 36 [] [.ref 0 [] 1 0 0], .junk, .junk, .junk, I 20, I P.length, I (P.length + 20 : Nat), .junk, .junk, .junk, .junk, .junk, .junk, .junk, .junk, .junk, .junk, .junk, .junk, .junk, .junk, .junk, .junk, .junk, .junk, .junk, .junk, .junk, .junk, .junk, .junk, .junk, .junk, .junk, .junk, .junk, .junk, .junk, .junk, .junk, .junk, .junk, .junk, .junk, .junk, .junk, .junk, .junk, .junk, .junk, .junk, .junk, .junk, .junk, .junk, .junk, .junk, .junk, .junk, .junk, .junk] ∧ H1 = [⟨1, 22, 1, [[lCal cs]], 0⟩, ⟨2, 3, 1, (P ++ Q).map encI, 0⟩]) d0.length ?_ ?_
  · exact ⟨[.sl 1 [] 1 0 N false, I N, .fn 36 [] [.ref 0 [] 1 0 0], .junk, .junk, .junk, I 20, I (0 : Nat), I (20 : Nat), .junk, .junk, .junk, .junk, .junk, .junk, .junk, .junk, .junk, .junk, .junk, .junk, .junk, .junk, .junk, .junk, .junk, .junk, .junk, .junk, .junk, .junk, .junk, .junk, .junk, .junk, .junk, .junk, .junk, .junk, .junk, .junk, .junk, .junk, .junk, .junk, .junk, .junk, .junk, .junk, .junk, .junk, .junk, .junk, .junk, .junk, .junk, .junk, .junk, .junk, .junk, .junk, .junk, .junk], _, Weak.cov (by (conv => whnf); (repeat (refine ⟨rfl, ?_⟩; (conv => whnf))); exact trivial), [], [], d0, rfl, rfl, .nil, rfl, rfl⟩
  · rintro q t1 H1 ⟨P0, P, Q, h1, h2, h3, rfl, rfl⟩
    have hl0 := h3.perm.length_eq
    have hl1 := congrArg List.length h2
    rw [List.length_append] at hl1
    have hst2 := hst
    rw [h2] at hst2
    have hr2 := hr
    rw [h2] at hr2
    conv => whnf
    refine ⟨fun hc => ?_, fun hc => ?_⟩
    · have hc : P.length + 20 ≤ N := by simp at hc; omega
      (conv => whnf); (try (refine ⟨(rfl : (_ : Heap) = _), ?_⟩; (conv => whnf)))
      obtain ⟨X, Z, rfl, hx⟩ : ∃ X Z, Q = X ++ Z ∧ X.length = 20 := ⟨Q.take 20, Q.drop 20, (List.take_append_drop ..).symm, by rw [List.length_take]; omega⟩
      obtain ⟨V, s1, p1⟩ := exists_sd (pt := ptV cs) X
      have hlV := p1.length_eq
      simp only [List.length_append] at hl1 h1
      refine ⟨_, _, insertion_sound cs N P X Z V rfl (by omega) (by simp only [List.length_append, List.length_cons, List.length_nil]; omega) (by omega) hr2.app.2.app.1 hst2.app.2.1.app.1 s1 p1, ?_⟩
      (conv => whnf); (try (refine ⟨(rfl : (_ : Heap) = _), ?_⟩; (conv => whnf)))
      have e1 : P ++ (V ++ Z) = (P ++ V) ++ Z := by simp
      have w1 : IntKind.i64.wrap (((P.length + 20 : Nat) : Int) + 20) = (P.length + 20 + 20 : Nat) := by rw [i64_ok (by omega) (by omega)]; omega
      rw [e1, w1]
      have e2 : P.length + 20 = (P ++ V).length := by simp only [List.length_append]; omega
      refine .inl ⟨rfl, Z.length, [.sl 1 [] 1 0 N false, I N, .fn 36 [] [.ref 0 [] 1 0 0], .junk, .junk, .junk, I 20, I (P ++ V).length, I ((P ++ V).length + 20 : Nat), .junk, .junk, .junk, .junk, .junk, .junk, .junk, .junk, .junk, .junk, .junk, .junk, .junk, .junk, .junk, .junk, .junk, .junk, .junk, .junk, .junk, .junk, .junk, .junk, .junk, .junk, .junk, .junk, .junk, .junk, .junk, .junk, .junk, .junk, .junk, .junk, .junk, .junk, .junk, .junk, .junk, .junk, .junk, .junk, .junk, .junk, .junk, .junk, .junk, .junk, .junk, .junk, .junk, .junk], _, by omega, ?_, P0 ++ X, P ++ V, Z, rfl, by rw [h2]; simp, .snoc h3 (by omega) p1 s1, rfl, rfl⟩
      rw [← e2]
      exact Weak.cov (by (conv => whnf); (repeat (refine ⟨rfl, ?_⟩; (conv => whnf))); exact trivial)
    · have hc : N < P.length + 20 := by simp at hc; omega
      (conv => whnf); (try (refine ⟨(rfl : (_ : Heap) = _), ?_⟩; (conv => whnf)))
      refine .inr ⟨by simp, ?_⟩
      conv => whnf
      obtain ⟨V, s1, p1⟩ := exists_sd (pt := ptV cs) Q
      have hlV := p1.length_eq
      have e0 : P ++ Q = P ++ (Q ++ []) := by simp
      rw [e0]
      refine ⟨_, _, insertion_sound cs N P Q [] V rfl (by omega) (by simp only [List.length_append, List.length_cons, List.length_nil]; omega) (by omega) hr2.app.2 hst2.app.2.1 s1 p1, ?_⟩
      (conv => whnf); (try (refine ⟨(rfl : (_ : Heap) = _), ?_⟩; (conv => whnf)))
      have hB : Blocks (ptV cs) 20 d0 (P ++ V) := by rw [h2]; exact h3.blocks (.last (by omega) p1 s1)
      rw [List.append_nil]
      refine Loops.inv (fun q t1 H1 => ∃ (s : Nat) (d : List Int), N - s = q ∧ 0 < s ∧ s ≤ 10000000 ∧ Blocks (ptV cs) s d0 d ∧ t1 = [.sl 1 [] 1 0 N false, I N, .fn 36 [] [.ref 0 [] 1 0 0], .junk, .junk, .junk, I s, .junk, .junk, .junk, .junk, .junk, .junk, .junk, .junk, .junk, .junk, .junk, .junk, .junk, .junk, .junk, .junk, .junk, .junk, .junk, .junk, .junk, .junk, .junk, .junk, .junk, .junk, .junk, .junk, .junk, .junk, .junk, .junk, .junk, .junk, .junk, .junk, .junk, .junk, .junk, .junk, .junk, .junk, .junk, .junk, .junk, .junk, .junk, .junk, .junk, .junk, .junk, .junk, .junk, .junk, .junk, .junk] ∧ H1 = [⟨1, 22, 1, [[lCal cs]], 0⟩, ⟨2, 3, 1, (d).map encI, 0⟩]) (N - 20) ?_ ?_
      · exact ⟨[.sl 1 [] 1 0 N false, I N, .fn 36 [] [.ref 0 [] 1 0 0], .junk, .junk, .junk, I (20 : Nat), .junk, .junk, .junk, .junk, .junk, .junk, .junk, .junk, .junk, .junk, .junk, .junk, .junk, .junk, .junk, .junk, .junk, .junk, .junk, .junk, .junk, .junk, .junk, .junk, .junk, .junk, .junk, .junk, .junk, .junk, .junk, .junk, .junk, .junk, .junk, .junk, .junk, .junk, .junk, .junk, .junk, .junk, .junk, .junk, .junk, .junk, .junk, .junk, .junk, .junk, .junk, .junk, .junk, .junk, .junk, .junk], _, Weak.cov (by (conv => whnf); (repeat (refine ⟨rfl, ?_⟩; (conv => whnf))); exact trivial), 20, P ++ V, rfl, by omega, by omega, hB, rfl, rfl⟩
      · clear h1 h2 h3 hl0 hl1 hst2 hr2 hc s1 p1 hlV e0 hB
        rintro q t1 H1 ⟨s, d, h1, h2, h3, h4, rfl, rfl⟩
        have hld := h4.perm.length_eq
        conv => whnf
        refine ⟨fun hc => ?_, fun hc => ?_⟩
        · have hc : s < N := by simp at hc; omega
          have w2 : IntKind.i64.wrap (2 * (s : Int)) = (2 * s : Nat) := by rw [i64_ok (by omega) (by omega)]; omega
          have w4 : IntKind.i64.wrap ((s : Int) * 2) = (2 * s : Nat) := by rw [i64_ok (by omega) (by omega)]; omega
          (conv => whnf); (try (refine ⟨(rfl : (_ : Heap) = _), ?_⟩; (conv => whnf)))
          rw [w2]
          refine Loops.inv (fun q t1 H1 => ∃ (P0 P Q0 Q : List Int), Q.length = q ∧ d0 = P0 ++ Q0 ∧ Full (ptV cs) (2 * s) P0 P ∧ Blocks (ptV cs) s Q0 Q ∧ t1 = [.sl 1 [] 1 0 N false, I N, .fn 36 [] [.ref 0 [] 1 0 0], .junk, .junk, .junk, I s, I P.length, I (P.length + 2 * s : Nat), .junk, .junk, .junk, .junk, .junk, .junk, .junk, .junk, .junk, .junk, .junk, .junk, .junk, .junk, .junk, .junk, .junk, .junk, .junk, .junk, .junk, .junk, .junk, .junk, .junk, .junk, .junk, .junk, .junk, .junk, .junk, .junk, .junk, .junk, .junk, .junk, .junk, .junk, .junk, .junk, .junk, .junk, .junk, .junk, .junk, .junk, .junk, .junk, .junk, .junk, .junk, .junk, .junk, .junk] ∧ H1 = [⟨1, 22, 1, [[lCal cs]], 0⟩, ⟨2, 3, 1, (P ++ Q).map encI, 0⟩]) d.length ?_ ?_
          · refine ⟨[.sl 1 [] 1 0 N false, I N, .fn 36 [] [.ref 0 [] 1 0 0], .junk, .junk, .junk, I s, I (0 : Nat), I (2 * s : Nat), .junk, .junk, .junk, .junk, .junk, .junk, .junk, .junk, .junk, .junk, .junk, .junk, .junk, .junk, .junk, .junk, .junk, .junk, .junk, .junk, .junk, .junk, .junk, .junk, .junk, .junk, .junk, .junk, .junk, .junk, .junk, .junk, .junk, .junk, .junk, .junk, .junk, .junk, .junk, .junk, .junk, .junk, .junk, .junk, .junk, .junk, .junk, .junk, .junk, .junk, .junk, .junk, .junk, .junk], _, Weak.cov (by (conv => whnf); (repeat (refine ⟨rfl, ?_⟩; (conv => whnf))); exact trivial), [], [], d0, d, rfl, rfl, .nil, h4, ?_, rfl⟩
            simp only [List.length_nil, Nat.zero_add]
          · rintro q t1 H1 ⟨P0, P, Q0, Q, g1, g2, g3, g4, rfl, rfl⟩
            have hl0 := g3.perm.length_eq
            have hl2 := g4.perm.length_eq
            have hl1 := congrArg List.length g2
            rw [List.length_append] at hl1
            have hst2 := hst
            rw [g2] at hst2
            have hr2 := hr
            rw [g2] at hr2
            have w3 : IntKind.i64.wrap ((P.length : Int) + (s : Int)) = (P.length + s : Nat) := by rw [i64_ok (by omega) (by omega)]; omega
            conv => whnf
            refine ⟨fun hc2 => ?_, fun hc2 => ?_⟩
            · have hc2 : P.length + 2 * s ≤ N := by simp at hc2; omega
              obtain ⟨x0, x, q0, q, rfl, rfl, lx, px, sx, hq⟩ := g4.first h2 (by omega)
              rw [List.length_append] at g1 hl2
              obtain ⟨y0, y, z0, z, rfl, rfl, ly, py, sy, hz⟩ := hq.first h2 (by omega)
              rw [List.length_append] at g1 hl2
              simp only [List.length_append] at hl1
              have hlz := hz.perm.length_eq
              have lx0 := px.length_eq
              have ly0 := py.length_eq
              obtain ⟨V, s1, p1⟩ := exists_sd (pt := ptV cs) (x ++ y)
              have hlV := p1.length_eq
              rw [List.length_append] at hlV
              have hst3 := hst2.app.2.1.app
              have st : Stb (ptV cs) x y := Stb.perm (hst3.2.2.sub (fun _ h => h) (fun _ h => List.mem_append.2 (.inl h))) px py
              (conv => whnf); (try (refine ⟨(rfl : (_ : Heap) = _), ?_⟩; (conv => whnf)))
              rw [w3]
              refine ⟨_, _, symMerge_sound cs N (by omega) _ P x y z V P.length (P.length + s) (P.length + 2 * s) rfl rfl (by omega) (by omega) (by omega) (by omega) (by simp only [List.length_append, List.length_cons, List.length_nil]; omega) (hr2.app.2.app.1.perm px) (hr2.app.2.app.2.app.1.perm py) sx sy st s1 p1, ?_⟩
              (conv => whnf); (try (refine ⟨(rfl : (_ : Heap) = _), ?_⟩; (conv => whnf)))
              have w5 : IntKind.i64.wrap (((P.length + 2 * s : Nat) : Int) + ((2 * s : Nat) : Int)) = (P.length + 2 * s + 2 * s : Nat) := by rw [i64_ok (by omega) (by omega)]; omega
              rw [w2, w5]
              have e1 : P ++ (V ++ z) = (P ++ V) ++ z := by simp
              rw [e1]
              have e2 : P.length + 2 * s = (P ++ V).length := by simp only [List.length_append]; omega
              refine .inl ⟨rfl, z.length, [.sl 1 [] 1 0 N false, I N, .fn 36 [] [.ref 0 [] 1 0 0], .junk, .junk, .junk, I s, I (P ++ V).length, I ((P ++ V).length + 2 * s : Nat), .junk, .junk, .junk, .junk, .junk, .junk, .junk, .junk, .junk, .junk, .junk, .junk, .junk, .junk, .junk, .junk, .junk, .junk, .junk, .junk, .junk, .junk, .junk, .junk, .junk, .junk, .junk, .junk, .junk, .junk, .junk, .junk, .junk, .junk, .junk, .junk, .junk, .junk, .junk, .junk, .junk, .junk, .junk, .junk, .junk, .junk, .junk, .junk, .junk, .junk, .junk, .junk, .junk, .junk], _, by omega, ?_, P0 ++ (x0 ++ y0), P ++ V, z0, z, rfl, by rw [g2]; simp, .snoc g3 (by omega) (p1.trans (px.append py)) s1, hz, rfl, rfl⟩
              rw [← e2]
              exact Weak.cov (by (conv => whnf); (repeat (refine ⟨rfl, ?_⟩; (conv => whnf))); exact trivial)
            · have hc2 : N < P.length + 2 * s := by simp at hc2; omega
              (conv => whnf); (try (refine ⟨(rfl : (_ : Heap) = _), ?_⟩; (conv => whnf)))
              refine .inr ⟨by simp, ?_⟩
              conv => whnf
              rw [w3]
              refine ⟨fun hm => ?_, fun hm => ?_⟩
              · have hm : P.length + s < N := by simp at hm; omega
                obtain ⟨x0, x, q0, q, rfl, rfl, lx, px, sx, hq⟩ := g4.first h2 (by omega)
                rw [List.length_append] at g1 hl2
                simp only [List.length_append] at hl1
                have hlq := hq.perm.length_eq
                have lx0 := px.length_eq
                have sq := hq.only (by omega)
                obtain ⟨V, s1, p1⟩ := exists_sd (pt := ptV cs) (x ++ q)
                have hlV := p1.length_eq
                rw [List.length_append] at hlV
                have hst3 := hst2.app.2.1.app
                have st : Stb (ptV cs) x q := Stb.perm hst3.2.2 px hq.perm
                have e0 : P ++ (x ++ q) = P ++ (x ++ (q ++ [])) := by simp
                (conv => whnf); (try (refine ⟨(rfl : (_ : Heap) = _), ?_⟩; (conv => whnf)))
                rw [e0]
                refine ⟨_, _, symMerge_sound cs N (by omega) _ P x q [] V P.length (P.length + s) N rfl rfl (by omega) (by omega) (by omega) (by omega) (by simp only [List.length_append, List.length_cons, List.length_nil]; omega) (hr2.app.2.app.1.perm px) (hr2.app.2.app.2.perm hq.perm) sx sq st s1 p1, ?_⟩
                (conv => whnf); (try (refine ⟨(rfl : (_ : Heap) = _), ?_⟩; (conv => whnf)))
                rw [List.append_nil, w4]
                refine .inl ⟨rfl, N - 2 * s, [.sl 1 [] 1 0 N false, I N, .fn 36 [] [.ref 0 [] 1 0 0], .junk, .junk, .junk, I (2 * s : Nat), .junk, .junk, .junk, .junk, .junk, .junk, .junk, .junk, .junk, .junk, .junk, .junk, .junk, .junk, .junk, .junk, .junk, .junk, .junk, .junk, .junk, .junk, .junk, .junk, .junk, .junk, .junk, .junk, .junk, .junk, .junk, .junk, .junk, .junk, .junk, .junk, .junk, .junk, .junk, .junk, .junk, .junk, .junk, .junk, .junk, .junk, .junk, .junk, .junk, .junk, .junk, .junk, .junk, .junk, .junk, .junk], _, by omega, Weak.cov (by (conv => whnf); (repeat (refine ⟨rfl, ?_⟩; (conv => whnf))); exact trivial), 2 * s, P ++ V, rfl, by omega, by omega, ?_, rfl, rfl⟩
                rw [g2]
                exact g3.blocks (.last (by omega) (p1.trans (px.append hq.perm)) s1)
              · have hm : N ≤ P.length + s := by simp at hm; omega
                (conv => whnf); (try (refine ⟨(rfl : (_ : Heap) = _), ?_⟩; (conv => whnf)))
                rw [w4]
                refine .inl ⟨rfl, N - 2 * s, [.sl 1 [] 1 0 N false, I N, .fn 36 [] [.ref 0 [] 1 0 0], .junk, .junk, .junk, I (2 * s : Nat), .junk, .junk, .junk, .junk, .junk, .junk, .junk, .junk, .junk, .junk, .junk, .junk, .junk, .junk, .junk, .junk, .junk, .junk, .junk, .junk, .junk, .junk, .junk, .junk, .junk, .junk, .junk, .junk, .junk, .junk, .junk, .junk, .junk, .junk, .junk, .junk, .junk, .junk, .junk, .junk, .junk, .junk, .junk, .junk, .junk, .junk, .junk, .junk, .junk, .junk, .junk, .junk, .junk, .junk, .junk, .junk], _, by omega, Weak.cov (by (conv => whnf); (repeat (refine ⟨rfl, ?_⟩; (conv => whnf))); exact trivial), 2 * s, P ++ Q, rfl, by omega, by omega, ?_, rfl, rfl⟩
                rw [g2]
                exact g3.blocks (.last (by omega) g4.perm (g4.only (by omega)))
        · have hc : N ≤ s := by simp at hc; omega
          obtain rfl : d = W := Sd.ext (h4.only (by omega)) hs (h4.perm.trans hp.symm)
          (conv => whnf); (try (refine ⟨(rfl : (_ : Heap) = _), ?_⟩; (conv => whnf)))
          refine .inr ⟨by simp, ?_⟩
          conv => whnf
          exact ⟨.inr rfl, _, .refl _, rfl, rfl⟩

theorem sort_sound (cs : List Cal) (N : Nat) (d0 W : List Int) (hN : N = d0.length) (hb : N ≤ 1000000) (hr : Rg cs.length d0) (hst : Stc (ptV cs) d0) (hs : Sd (ptV cs) W) (hp : W.Perm d0) :
    SoundAt Try.prog 35 [⟨1, 22, 1, [[lCal cs]], 0⟩, ⟨2, 3, 1, (d0).map encI, 0⟩] [.sl 1 [] 1 0 N false, .fn 36 [] [.ref 0 [] 1 0 0]] (.tup []) [⟨1, 22, 1, [[lCal cs]], 0⟩, ⟨2, 3, 1, (W).map encI, 0⟩] := by
  refine SoundAt.of_wpA (fn := Try.f35) Try.func35 rfl ?_
  conv => whnf
  refine ⟨_, _, stable_sound cs N d0 W hN hb hr hst hs hp, ?_⟩
  (conv => whnf); (try (refine ⟨(rfl : (_ : Heap) = _), ?_⟩; (conv => whnf)))
  exact ⟨.inr rfl, _, .refl _, rfl, rfl⟩
end Go.Srt
