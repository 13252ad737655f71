/- Layer 16 (limbo): the statement LimboDue, walked. -/
import Derived.Test.YtblcehhggncmaaaLimN
namespace Go.Lim
open Go.Ab Go.Proofs Go.Hy
set_option linter.unusedVariables false
set_option maxRecDepth 8000

theorem ldue_sound {l : List Ret} {v a : Int} (hl : okL l) (hv : i64 v) (ha : i64 a) : SoundAt Try.prog 9 [] [lR l, I v, I a] (Bo true) [] := by
  have hn := hl.len
  have hw := hl.wf
  refine SoundAt.of_wpA0 (fn := Try.f9) Try.func9 rfl ?_ rfl
  conv => whnf
  refine ⟨_, _, (add_sound hn).frame rfl _, ?_⟩; (conv => whnf); (try (refine ⟨(rfl : (_ : Heap) = _), ?_⟩; (conv => whnf)))
  refine ⟨fun h0 => ?_, fun h0 => ?_⟩
  · conv => whnf
    refine ⟨_, _, (gone_sound).frame rfl _, ?_⟩; (conv => whnf); (try (refine ⟨(rfl : (_ : Heap) = _), ?_⟩; (conv => whnf)))
    (repeat (first | (refine ⟨fun _ => ?_, fun h => absurd h (by decide)⟩; (conv => whnf); (try (refine ⟨(rfl : (_ : Heap) = _), ?_⟩; (conv => whnf)))) | (refine ⟨fun h => absurd h (by decide), fun _ => ?_⟩; (conv => whnf); (try (refine ⟨(rfl : (_ : Heap) = _), ?_⟩; (conv => whnf))))))
    refine ⟨fun _ => ?_, fun h => absurd ((h0).symm.trans h : true = false) (by decide)⟩; (conv => whnf); (try (refine ⟨(rfl : (_ : Heap) = _), ?_⟩; (conv => whnf)))
    exact ⟨.inl rfl, _, .refl _, rfl⟩
  refine ⟨fun h1 => ?_, fun h1 => ?_⟩
  · conv => whnf
    refine ⟨_, _, (gone_sound).frame rfl _, ?_⟩; (conv => whnf); (try (refine ⟨(rfl : (_ : Heap) = _), ?_⟩; (conv => whnf)))
    (repeat (first | (refine ⟨fun _ => ?_, fun h => absurd h (by decide)⟩; (conv => whnf); (try (refine ⟨(rfl : (_ : Heap) = _), ?_⟩; (conv => whnf)))) | (refine ⟨fun h => absurd h (by decide), fun _ => ?_⟩; (conv => whnf); (try (refine ⟨(rfl : (_ : Heap) = _), ?_⟩; (conv => whnf))))))
    refine ⟨fun h => absurd ((h0).symm.trans h : false = true) (by decide), fun _ => ?_⟩; (conv => whnf); (try (refine ⟨(rfl : (_ : Heap) = _), ?_⟩; (conv => whnf)))
    refine ⟨fun _ => ?_, fun h => absurd ((h1).symm.trans h : true = false) (by decide)⟩; (conv => whnf); (try (refine ⟨(rfl : (_ : Heap) = _), ?_⟩; (conv => whnf)))
    exact ⟨.inl rfl, _, .refl _, rfl⟩
  conv => whnf
  refine ⟨fun h2 => ?_, fun h2 => ?_⟩
  · conv => whnf
    refine ⟨_, _, (gone_sound).frame rfl _, ?_⟩; (conv => whnf); (try (refine ⟨(rfl : (_ : Heap) = _), ?_⟩; (conv => whnf)))
    (repeat (first | (refine ⟨fun _ => ?_, fun h => absurd h (by decide)⟩; (conv => whnf); (try (refine ⟨(rfl : (_ : Heap) = _), ?_⟩; (conv => whnf)))) | (refine ⟨fun h => absurd h (by decide), fun _ => ?_⟩; (conv => whnf); (try (refine ⟨(rfl : (_ : Heap) = _), ?_⟩; (conv => whnf))))))
    refine ⟨fun h => absurd ((h0).symm.trans h : false = true) (by decide), fun _ => ?_⟩; (conv => whnf); (try (refine ⟨(rfl : (_ : Heap) = _), ?_⟩; (conv => whnf)))
    refine ⟨fun h => absurd ((h1).symm.trans h : false = true) (by decide), fun _ => ?_⟩; (conv => whnf); (try (refine ⟨(rfl : (_ : Heap) = _), ?_⟩; (conv => whnf)))
    refine ⟨fun _ => ?_, fun h => absurd ((h2).symm.trans h : true = false) (by decide)⟩; (conv => whnf); (try (refine ⟨(rfl : (_ : Heap) = _), ?_⟩; (conv => whnf)))
    exact ⟨.inl rfl, _, .refl _, rfl⟩
  have hs : l.length ≤ 100 := by simp at h0; omega
  have hlo : a ≤ 1000000 := by simpa using h2
  obtain ⟨he, hi, hv0, ha0, hno⟩ := addV_ok (by simpa using h1)
  rw [he]
  obtain ⟨m, hm⟩ : ∃ m, m = l ++ [Ret.mk v a false] := ⟨_, rfl⟩
  rw [← hm]
  have hml : m.length = l.length + 1 := by rw [hm]; simp
  have hmi : isV m = true := by rw [hm]; exact isV_snoc hi hv0 ha0 hno
  have hmw : wfR m := by
    intro i r hr
    rw [hm] at hr
    rcases List.mem_append.1 (List.mem_of_getElem? hr) with h | h
    · exact (hl.1 r h).2
    · simp at h; subst h; exact ha
  have hmm : markV m l.length = (l ++ [Ret.mk v a true], 0) := by rw [hm]; exact markV_snoc (hm ▸ hmi) rfl
  have hbi : isV (l ++ [Ret.mk v a true]) = true := isV_snoc hi hv0 ha0 hno
  have hbm : markV (l ++ [Ret.mk v a true]) l.length = ([], 5) := markV_gone hbi (by simp) (by simp)
  have hbw : wfR (l ++ [Ret.mk v a true]) := by
    intro i r hr
    rcases List.mem_append.1 (List.mem_of_getElem? hr) with h | h
    · exact (hl.1 r h).2
    · simp at h; subst h; exact ha
  have hle1 := dueV_le l (a + 1)
  have hle2 := dueV_le l (a + 2)
  have hd1 : dueV m (a + 1) = dueV l (a + 1) := by rw [hm, dueV_snoc, safeV_early hlo]; simp
  have hd2 : dueV m (a + 2) = dueV l (a + 2) ++ [l.length] := by rw [hm, dueV_snoc, safeV_late hlo]; simp
  have hd3 : dueV (l ++ [Ret.mk v a true]) (a + 2) = dueV l (a + 2) := by rw [dueV_snoc]; simp
  have hli : i64 (l.length : Int) := ⟨by omega, by omega⟩
  conv => whnf
  refine ⟨fun h => absurd h ?_, fun _ => ?_⟩
  · rw [List.length_map, List.length_map, i64_nat (by omega), hml]; simp
  conv => whnf
  rw [i64_ok (n := a + 1) (by omega) (by omega)]
  refine ⟨_, _, (dueC (l := m) (now := a + 1) (r := (dueV l (a + 1)).map (fun n : Nat => (n : Int))) (by rw [hd1]) (by omega) hmw).frame rfl _, ?_⟩; (conv => whnf); (try (refine ⟨(rfl : (_ : Heap) = _), ?_⟩; (conv => whnf)))
  rw [i64_ok (n := a + 2) (by omega) (by omega)]
  refine ⟨_, _, (dueC (l := m) (now := a + 2) (r := (dueV l (a + 2) ++ [l.length]).map (fun n : Nat => (n : Int))) (by rw [hd2]) (by omega) hmw).frame rfl _, ?_⟩; (conv => whnf); (try (refine ⟨(rfl : (_ : Heap) = _), ?_⟩; (conv => whnf)))
  have hlast : ∀ xs : List Int, 0 < xs.length → xs.length < 9223372036854775807 → IntKind.i64.wrap (((xs.map encI).length : Nat) - 1 : Int) = ((xs.length - 1 : Nat) : Int) := fun xs h1 h2 => by
    rw [List.length_map, i64_ok (by omega) (by omega)]; omega
  have hx1 : ∀ x ∈ (dueV l (a + 1)).map (fun n : Nat => (n : Int)), (x == (l.length : Int)) = false := fun x hx => by
    obtain ⟨n, hn', rfl⟩ := List.mem_map.1 hx
    have := dueV_lt hn'
    simp; omega
  obtain ⟨xs, hxs⟩ : ∃ xs, xs = (dueV l (a + 1)).map (fun n : Nat => (n : Int)) := ⟨_, rfl⟩
  have hxl : xs.length ≤ 100 := by rw [hxs]; simp; omega
  rw [← hxs] at hx1 ⊢
  obtain ⟨zs, hzs⟩ : ∃ zs, zs = (dueV l (a + 2)).map (fun n : Nat => (n : Int)) := ⟨_, rfl⟩
  have hzl : zs.length ≤ 100 := by rw [hzs]; simp; omega
  obtain ⟨ys, hys⟩ : ∃ ys, ys = (dueV l (a + 2) ++ [l.length]).map (fun n : Nat => (n : Int)) := ⟨_, rfl⟩
  have hyz : ys = zs ++ [(l.length : Int)] := by rw [hys, hzs]; simp
  have hyl : ys.length = zs.length + 1 := by rw [hyz]; simp
  rw [← hys]
  rw [show (l.map encR).length = l.length from List.length_map _]
  refine ⟨fun h3 => ?wa, fun h3 => ?wb⟩
  case' wa =>
    have hpos : 0 < xs.length := by simpa using h3
    conv => whnf
    rw [hlast xs hpos (by omega)]
    refine ⟨by omega, encI xs[xs.length - 1], by rw [toNat_cast, List.getElem?_map, List.getElem?_eq_getElem (by omega)]; rfl, ?_⟩
    conv => whnf
    refine ⟨fun h => absurd ((hx1 (xs[xs.length - 1]) (List.getElem_mem _)).symm.trans h : false = true) (by decide), fun _ => ?_⟩; (conv => whnf); (try (refine ⟨(rfl : (_ : Heap) = _), ?_⟩; (conv => whnf)))
  case' wb => conv => whnf
  all_goals
    refine ⟨fun h => absurd h (by simp; omega), fun _ => ?_⟩
    conv => whnf
    rw [hlast ys (by omega) (by omega)]
    refine ⟨by omega, encI (l.length : Int), by rw [toNat_cast, hyz]; simp, ?_⟩
    conv => whnf
    refine ⟨fun h => absurd h (by simp), fun _ => ?_⟩
    conv => whnf
    refine ⟨_, _, (markC (l := m) (i := l.length) hmm hli (by omega)).frame rfl _, ?_⟩; (conv => whnf); (try (refine ⟨(rfl : (_ : Heap) = _), ?_⟩; (conv => whnf)))
    refine ⟨_, _, (markC (l := l ++ [Ret.mk v a true]) (i := l.length) hbm hli (by simp; omega)).frame rfl _, ?_⟩; (conv => whnf); (try (refine ⟨(rfl : (_ : Heap) = _), ?_⟩; (conv => whnf)))
    refine .inl ⟨by kernel_rfl, ?_⟩; (conv => whnf)
    refine ⟨_, _, (gone_sound).frame rfl _, ?_⟩; (conv => whnf); (try (refine ⟨(rfl : (_ : Heap) = _), ?_⟩; (conv => whnf)))
    (repeat (first | (refine ⟨fun _ => ?_, fun h => absurd h (by decide)⟩; (conv => whnf); (try (refine ⟨(rfl : (_ : Heap) = _), ?_⟩; (conv => whnf)))) | (refine ⟨fun h => absurd h (by decide), fun _ => ?_⟩; (conv => whnf); (try (refine ⟨(rfl : (_ : Heap) = _), ?_⟩; (conv => whnf))))))
    refine ⟨_, _, (isC hmi (by omega)).frame rfl _, ?_⟩; (conv => whnf); (try (refine ⟨(rfl : (_ : Heap) = _), ?_⟩; (conv => whnf)))
    (repeat (first | (refine ⟨fun _ => ?_, fun h => absurd h (by decide)⟩; (conv => whnf); (try (refine ⟨(rfl : (_ : Heap) = _), ?_⟩; (conv => whnf)))) | (refine ⟨fun h => absurd h (by decide), fun _ => ?_⟩; (conv => whnf); (try (refine ⟨(rfl : (_ : Heap) = _), ?_⟩; (conv => whnf))))))
    refine ⟨fun _ => ?_, fun h => absurd h (by simp)⟩; (conv => whnf); (try (refine ⟨(rfl : (_ : Heap) = _), ?_⟩; (conv => whnf)))
    (repeat (first | (refine ⟨fun _ => ?_, fun h => absurd h (by decide)⟩; (conv => whnf); (try (refine ⟨(rfl : (_ : Heap) = _), ?_⟩; (conv => whnf)))) | (refine ⟨fun h => absurd h (by decide), fun _ => ?_⟩; (conv => whnf); (try (refine ⟨(rfl : (_ : Heap) = _), ?_⟩; (conv => whnf))))))
    rw [i64_ok (n := a + 2) (by omega) (by omega)]
    refine ⟨_, _, (dueC (l := l ++ [Ret.mk v a true]) (now := a + 2) (r := zs) (by rw [hd3, hzs]) (by simp; omega) hbw).frame rfl _, ?_⟩; (conv => whnf); (try (refine ⟨(rfl : (_ : Heap) = _), ?_⟩; (conv => whnf)))
    rw [hlast ys (by omega) (by omega)]
    refine ⟨.inr rfl, by omega, by omega, by simp <;> omega, ?_⟩
    conv => whnf
    have e : List.take (((ys.length - 1 : Nat) : Int).toNat - 0) (List.drop 0 (ys.map encI)) = zs.map encI := by
      rw [toNat_cast, List.drop_zero, ← List.map_take, hyz]; simp
    rw [e]
    refine ⟨_, _, (same2_sound (a := zs) (b := zs) (by omega)).frame rfl _, ?_⟩; (conv => whnf); (try (refine ⟨(rfl : (_ : Heap) = _), ?_⟩; (conv => whnf)))
    refine ⟨fun _ => ?_, fun h => absurd h (by simp)⟩; (conv => whnf); (try (refine ⟨(rfl : (_ : Heap) = _), ?_⟩; (conv => whnf)))
    exact ⟨.inl rfl, _, .refl _, rfl⟩

end Go.Lim
