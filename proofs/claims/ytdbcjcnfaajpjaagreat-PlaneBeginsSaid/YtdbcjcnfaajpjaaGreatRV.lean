import Derived.Test.YtdbcjcnfaajpjaaGreatRU
namespace Go.Wor
open Go.Ab Go.Proofs Go.Hy Go.Gat Go.Nam Go.Hos Go.Con Go.Sna
set_option linter.unusedVariables false
set_option linter.unusedSimpArgs false
set_option maxRecDepth 100000
set_option maxHeartbeats 4000000
abbrev Cm (m : Mac) : C := .agg (encM m)
def suitsV (w : Wor) (m : Mac) : Bool := worldV w && inV m.thread w.pins.length && !m.done && inV m.version w.versions.length && (match w.versions[m.version.toNat]? with
  | none => false
  | some v => inV m.cluster v.groups.length && (match v.groups[m.cluster.toNat]? with
    | none => false
    | some g => inV m.end_ g.ends.length && inV m.other g.ends.length && (match g.ends[m.end_.toNat]? with
      | none => false
      | some e => inV m.slot e.next.length) && (inV (m.listen + 1) (w.listens.length + 1) && decide (0 ≤ m.i) && decide (0 ≤ m.k))))
theorem inV_iff {i n : Int} : inV i n = true ↔ 0 ≤ i ∧ i < n := by unfold inV; simp
structure Suits (w : Wor) (m : Mac) (v : Ver) (g : Gr) (e : En) : Prop where
  world : worldV w = true
  thread : 0 ≤ m.thread ∧ m.thread < w.pins.length
  done : m.done = false
  version : 0 ≤ m.version ∧ m.version < w.versions.length
  atv : w.versions[m.version.toNat]? = some v
  cluster : 0 ≤ m.cluster ∧ m.cluster < v.groups.length
  atg : v.groups[m.cluster.toNat]? = some g
  end_ : 0 ≤ m.end_ ∧ m.end_ < g.ends.length
  ate : g.ends[m.end_.toNat]? = some e
  other : 0 ≤ m.other ∧ m.other < g.ends.length
  slot : 0 ≤ m.slot ∧ m.slot < e.next.length
  listen : -1 ≤ m.listen ∧ m.listen < w.listens.length
  i : 0 ≤ m.i
  k : 0 ≤ m.k
theorem suits_iff {w : Wor} {m : Mac} (h : suitsV w m = true) : ∃ v g e, Suits w m v g e := by
  unfold suitsV at h
  simp only [Bool.and_eq_true, Bool.not_eq_true', inV_iff] at h
  obtain ⟨⟨⟨⟨h1, h2⟩, h3⟩, h4⟩, h5⟩ := h
  split at h5
  · cases h5
  rename_i v hv
  simp only [Bool.and_eq_true, inV_iff] at h5
  obtain ⟨h5, h6⟩ := h5
  split at h6
  · cases h6
  rename_i g hg
  simp only [Bool.and_eq_true, inV_iff, decide_eq_true_eq] at h6
  obtain ⟨⟨⟨h6, h7⟩, h8⟩, ⟨h9, h10⟩, h11⟩ := h6
  split at h8
  · cases h8
  rename_i e he
  simp only [inV_iff] at h8
  exact ⟨v, g, e, h1, h2, h3, h4, hv, h5, hg, h6, he, h7, h8, by omega, h10, h11⟩
theorem suits_sound (w : Wor) (m : Mac) (hw : OkW w) (hm : i64 m.listen) : SoundAt Tryz.prog 16 [] [Cw w, Cm m] (Bo (suitsV w m)) [] := by
  have m1 : (w.pins.map encI).length = w.pins.length := List.length_map ..
  have m2 : (w.versions.map encV).length = w.versions.length := List.length_map ..
  have m3 : (w.listens.map encL).length = w.listens.length := List.length_map ..
  have b3 := hw.listens.1
  have el : IntKind.i64.wrap ((w.listens.length : Int) + 1) = (w.listens.length : Int) + 1 := i64_ok (by omega) (by omega)
  have el2 : inV (IntKind.i64.wrap (m.listen + 1)) ((w.listens.length : Int) + 1) = inV (m.listen + 1) ((w.listens.length : Int) + 1) := by
    by_cases hh : m.listen ≤ 9223372036854775806
    · rw [i64_ok (by have := hm.1; omega) (by omega)]
    · have h9 : m.listen = 9223372036854775807 := by have := hm.2; omega
      rw [h9]
      have h10 : IntKind.i64.wrap (9223372036854775807 + 1) = -9223372036854775808 := by decide
      rw [h10]
      unfold inV
      rw [show decide ((0 : Int) ≤ -9223372036854775808) = false from rfl, show decide ((9223372036854775807 : Int) + 1 < (w.listens.length : Int) + 1) = false from by simp; omega]
      simp
  refine SoundAt.of_wpA1 (fn := Tryz.f16) Tryz.func16 rfl ?_
  conv => whnf
  refine ⟨_, _, (worldIs_sound w hw).frame rfl _, ?_⟩; (conv=>whnf);(try(refine ⟨(rfl:(_:Heap)=_),?_⟩;(conv=>whnf)))
  refine ⟨fun h1 => ?_, fun h1 => ?_⟩
  rotate_left
  · (have e : suitsV w m = false := by (unfold suitsV; (rw [h1]); simp)); rw [e]; (conv=>whnf);(try(refine ⟨(rfl:(_:Heap)=_),?_⟩;(conv=>whnf))); (repeat (first | (refine ⟨fun _ => ?_, fun h => absurd h (by decide)⟩; (conv=>whnf);(try(refine ⟨(rfl:(_:Heap)=_),?_⟩;(conv=>whnf)))) | (refine ⟨fun h => absurd h (by decide), fun _ => ?_⟩; (conv=>whnf);(try(refine ⟨(rfl:(_:Heap)=_),?_⟩;(conv=>whnf)))))); exact ⟨.inl rfl, _, .refl _, rfl⟩
  (conv=>whnf);(try(refine ⟨(rfl:(_:Heap)=_),?_⟩;(conv=>whnf)))
  rw [m1]
  refine ⟨_, _, (in_sound m.thread w.pins.length).frame rfl _, ?_⟩; (conv=>whnf);(try(refine ⟨(rfl:(_:Heap)=_),?_⟩;(conv=>whnf)))
  refine ⟨fun h2 => ?_, fun h2 => ?_⟩
  rotate_left
  · (have e : suitsV w m = false := by (unfold suitsV; (rw [h2]); simp)); rw [e]; (conv=>whnf);(try(refine ⟨(rfl:(_:Heap)=_),?_⟩;(conv=>whnf))); (repeat (first | (refine ⟨fun _ => ?_, fun h => absurd h (by decide)⟩; (conv=>whnf);(try(refine ⟨(rfl:(_:Heap)=_),?_⟩;(conv=>whnf)))) | (refine ⟨fun h => absurd h (by decide), fun _ => ?_⟩; (conv=>whnf);(try(refine ⟨(rfl:(_:Heap)=_),?_⟩;(conv=>whnf)))))); exact ⟨.inl rfl, _, .refl _, rfl⟩
  (conv=>whnf);(try(refine ⟨(rfl:(_:Heap)=_),?_⟩;(conv=>whnf)))
  refine ⟨fun h3 => ?_, fun h3 => ?_⟩
  · (have e : suitsV w m = false := by (unfold suitsV; (rw [h3]); simp)); rw [e]; (conv=>whnf);(try(refine ⟨(rfl:(_:Heap)=_),?_⟩;(conv=>whnf))); (repeat (first | (refine ⟨fun _ => ?_, fun h => absurd h (by decide)⟩; (conv=>whnf);(try(refine ⟨(rfl:(_:Heap)=_),?_⟩;(conv=>whnf)))) | (refine ⟨fun h => absurd h (by decide), fun _ => ?_⟩; (conv=>whnf);(try(refine ⟨(rfl:(_:Heap)=_),?_⟩;(conv=>whnf)))))); exact ⟨.inl rfl, _, .refl _, rfl⟩
  (conv=>whnf);(try(refine ⟨(rfl:(_:Heap)=_),?_⟩;(conv=>whnf)))
  rw [m2]
  refine ⟨_, _, (in_sound m.version w.versions.length).frame rfl _, ?_⟩; (conv=>whnf);(try(refine ⟨(rfl:(_:Heap)=_),?_⟩;(conv=>whnf)))
  refine ⟨fun h4 => ?_, fun h4 => ?_⟩
  rotate_left
  · (have e : suitsV w m = false := by (unfold suitsV; (rw [h4]); simp)); rw [e]; (conv=>whnf);(try(refine ⟨(rfl:(_:Heap)=_),?_⟩;(conv=>whnf))); (repeat (first | (refine ⟨fun _ => ?_, fun h => absurd h (by decide)⟩; (conv=>whnf);(try(refine ⟨(rfl:(_:Heap)=_),?_⟩;(conv=>whnf)))) | (refine ⟨fun h => absurd h (by decide), fun _ => ?_⟩; (conv=>whnf);(try(refine ⟨(rfl:(_:Heap)=_),?_⟩;(conv=>whnf)))))); exact ⟨.inl rfl, _, .refl _, rfl⟩
  obtain ⟨c0, c1⟩ := inV_iff.1 h4
  have hv : w.versions[m.version.toNat]? = some (w.versions[m.version.toNat]'(by omega)) := List.getElem?_eq_getElem _
  generalize w.versions[m.version.toNat]'(by omega) = v at hv
  have gv : (w.versions.map encV)[m.version.toNat]? = some (encV v) := by rw [List.getElem?_map, hv]; rfl
  have m4 : (v.groups.map encG).length = v.groups.length := List.length_map ..
  have g0 : suitsV w m = (inV m.cluster v.groups.length && (match v.groups[m.cluster.toNat]? with
    | none => false
    | some g => inV m.end_ g.ends.length && inV m.other g.ends.length && (match g.ends[m.end_.toNat]? with
      | none => false
      | some e => inV m.slot e.next.length) && (inV (m.listen + 1) (w.listens.length + 1) && decide (0 ≤ m.i) && decide (0 ≤ m.k)))) := by
    unfold suitsV
    rw [h1, h2, h3, h4, hv]
    rfl
  rw [g0]
  (conv=>whnf);(try(refine ⟨(rfl:(_:Heap)=_),?_⟩;(conv=>whnf)))
  (repeat (first | (refine ⟨fun _ => ?_, fun h => absurd h (by decide)⟩; (conv=>whnf);(try(refine ⟨(rfl:(_:Heap)=_),?_⟩;(conv=>whnf)))) | (refine ⟨fun h => absurd h (by decide), fun _ => ?_⟩; (conv=>whnf);(try(refine ⟨(rfl:(_:Heap)=_),?_⟩;(conv=>whnf))))))
  refine ⟨c0, _, gv, ?_⟩
  (conv=>whnf);(try(refine ⟨(rfl:(_:Heap)=_),?_⟩;(conv=>whnf)))
  rw [m4]
  refine ⟨_, _, (in_sound m.cluster v.groups.length).frame rfl _, ?_⟩; (conv=>whnf);(try(refine ⟨(rfl:(_:Heap)=_),?_⟩;(conv=>whnf)))
  refine ⟨fun h5 => ?_, fun h5 => ?_⟩
  rotate_left
  · rw [h5]
    (conv=>whnf);(try(refine ⟨(rfl:(_:Heap)=_),?_⟩;(conv=>whnf)))
    (repeat (first | (refine ⟨fun _ => ?_, fun h => absurd h (by decide)⟩; (conv=>whnf);(try(refine ⟨(rfl:(_:Heap)=_),?_⟩;(conv=>whnf)))) | (refine ⟨fun h => absurd h (by decide), fun _ => ?_⟩; (conv=>whnf);(try(refine ⟨(rfl:(_:Heap)=_),?_⟩;(conv=>whnf))))))
    exact ⟨.inl rfl, _, .refl _, rfl⟩
  obtain ⟨c2, c3⟩ := inV_iff.1 h5
  have hg : v.groups[m.cluster.toNat]? = some (v.groups[m.cluster.toNat]'(by omega)) := List.getElem?_eq_getElem _
  generalize v.groups[m.cluster.toNat]'(by omega) = g at hg
  have gg : (v.groups.map encG)[m.cluster.toNat]? = some (encG g) := by rw [List.getElem?_map, hg]; rfl
  have m5 : (g.ends.map encE).length = g.ends.length := List.length_map ..
  rw [h5, hg]
  dsimp only
  (conv=>whnf);(try(refine ⟨(rfl:(_:Heap)=_),?_⟩;(conv=>whnf)))
  (repeat (first | (refine ⟨fun _ => ?_, fun h => absurd h (by decide)⟩; (conv=>whnf);(try(refine ⟨(rfl:(_:Heap)=_),?_⟩;(conv=>whnf)))) | (refine ⟨fun h => absurd h (by decide), fun _ => ?_⟩; (conv=>whnf);(try(refine ⟨(rfl:(_:Heap)=_),?_⟩;(conv=>whnf))))))
  refine ⟨c2, _, gg, ?_⟩
  (conv=>whnf);(try(refine ⟨(rfl:(_:Heap)=_),?_⟩;(conv=>whnf)))
  refine .inl ⟨⟨false, [], [], []⟩, by kernel_rfl, ?_⟩; (conv => whnf)
  rw [m5]
  refine ⟨_, _, (in_sound m.end_ g.ends.length).frame rfl _, ?_⟩; (conv=>whnf);(try(refine ⟨(rfl:(_:Heap)=_),?_⟩;(conv=>whnf)))
  refine ⟨fun h6 => ?_, fun h6 => ?_⟩
  rotate_left
  · rw [h6]
    (conv=>whnf);(try(refine ⟨(rfl:(_:Heap)=_),?_⟩;(conv=>whnf)))
    (repeat (first | (refine ⟨fun _ => ?_, fun h => absurd h (by decide)⟩; (conv=>whnf);(try(refine ⟨(rfl:(_:Heap)=_),?_⟩;(conv=>whnf)))) | (refine ⟨fun h => absurd h (by decide), fun _ => ?_⟩; (conv=>whnf);(try(refine ⟨(rfl:(_:Heap)=_),?_⟩;(conv=>whnf))))))
    exact ⟨.inl rfl, _, .refl _, rfl⟩
  obtain ⟨c4, c5⟩ := inV_iff.1 h6
  have he : g.ends[m.end_.toNat]? = some (g.ends[m.end_.toNat]'(by omega)) := List.getElem?_eq_getElem _
  generalize g.ends[m.end_.toNat]'(by omega) = e at he
  have ge : (g.ends.map encE)[m.end_.toNat]? = some (encE e) := by rw [List.getElem?_map, he]; rfl
  have m6 : (e.next.map encI).length = e.next.length := List.length_map ..
  rw [h6, he]
  dsimp only
  (conv=>whnf);(try(refine ⟨(rfl:(_:Heap)=_),?_⟩;(conv=>whnf)))
  rw [m5]
  refine ⟨_, _, (in_sound m.other g.ends.length).frame rfl _, ?_⟩; (conv=>whnf);(try(refine ⟨(rfl:(_:Heap)=_),?_⟩;(conv=>whnf)))
  refine ⟨fun h7 => ?_, fun h7 => ?_⟩
  rotate_left
  · rw [h7]
    (conv=>whnf);(try(refine ⟨(rfl:(_:Heap)=_),?_⟩;(conv=>whnf)))
    (repeat (first | (refine ⟨fun _ => ?_, fun h => absurd h (by decide)⟩; (conv=>whnf);(try(refine ⟨(rfl:(_:Heap)=_),?_⟩;(conv=>whnf)))) | (refine ⟨fun h => absurd h (by decide), fun _ => ?_⟩; (conv=>whnf);(try(refine ⟨(rfl:(_:Heap)=_),?_⟩;(conv=>whnf))))))
    exact ⟨.inl rfl, _, .refl _, rfl⟩
  rw [h7]
  (conv=>whnf);(try(refine ⟨(rfl:(_:Heap)=_),?_⟩;(conv=>whnf)))
  refine ⟨c4, _, ge, ?_⟩
  (conv=>whnf);(try(refine ⟨(rfl:(_:Heap)=_),?_⟩;(conv=>whnf)))
  rw [m6]
  refine ⟨_, _, (in_sound m.slot e.next.length).frame rfl _, ?_⟩; (conv=>whnf);(try(refine ⟨(rfl:(_:Heap)=_),?_⟩;(conv=>whnf)))
  refine ⟨fun h8 => ?_, fun h8 => ?_⟩
  rotate_left
  · rw [h8]
    (conv=>whnf);(try(refine ⟨(rfl:(_:Heap)=_),?_⟩;(conv=>whnf)))
    (repeat (first | (refine ⟨fun _ => ?_, fun h => absurd h (by decide)⟩; (conv=>whnf);(try(refine ⟨(rfl:(_:Heap)=_),?_⟩;(conv=>whnf)))) | (refine ⟨fun h => absurd h (by decide), fun _ => ?_⟩; (conv=>whnf);(try(refine ⟨(rfl:(_:Heap)=_),?_⟩;(conv=>whnf))))))
    exact ⟨.inl rfl, _, .refl _, rfl⟩
  rw [h8]
  (conv=>whnf);(try(refine ⟨(rfl:(_:Heap)=_),?_⟩;(conv=>whnf)))
  (repeat (first | (refine ⟨fun _ => ?_, fun h => absurd h (by decide)⟩; (conv=>whnf);(try(refine ⟨(rfl:(_:Heap)=_),?_⟩;(conv=>whnf)))) | (refine ⟨fun h => absurd h (by decide), fun _ => ?_⟩; (conv=>whnf);(try(refine ⟨(rfl:(_:Heap)=_),?_⟩;(conv=>whnf))))))
  rw [m3, el]
  have hin := in_sound (IntKind.i64.wrap (m.listen + 1)) ((w.listens.length : Int) + 1)
  rw [el2] at hin
  refine ⟨_, _, (hin).frame rfl _, ?_⟩; (conv=>whnf);(try(refine ⟨(rfl:(_:Heap)=_),?_⟩;(conv=>whnf)))
  refine ⟨fun h9 => ?_, fun h9 => ?_⟩
  rotate_left
  · rw [h9]
    (conv=>whnf);(try(refine ⟨(rfl:(_:Heap)=_),?_⟩;(conv=>whnf)))
    (repeat (first | (refine ⟨fun _ => ?_, fun h => absurd h (by decide)⟩; (conv=>whnf);(try(refine ⟨(rfl:(_:Heap)=_),?_⟩;(conv=>whnf)))) | (refine ⟨fun h => absurd h (by decide), fun _ => ?_⟩; (conv=>whnf);(try(refine ⟨(rfl:(_:Heap)=_),?_⟩;(conv=>whnf))))))
    exact ⟨.inl rfl, _, .refl _, rfl⟩
  rw [h9]
  (conv=>whnf);(try(refine ⟨(rfl:(_:Heap)=_),?_⟩;(conv=>whnf)))
  refine ⟨fun h10 => ?_, fun h10 => ?_⟩
  rotate_left
  · (conv=>whnf);(try(refine ⟨(rfl:(_:Heap)=_),?_⟩;(conv=>whnf)))
    (repeat (first | (refine ⟨fun _ => ?_, fun h => absurd h (by decide)⟩; (conv=>whnf);(try(refine ⟨(rfl:(_:Heap)=_),?_⟩;(conv=>whnf)))) | (refine ⟨fun h => absurd h (by decide), fun _ => ?_⟩; (conv=>whnf);(try(refine ⟨(rfl:(_:Heap)=_),?_⟩;(conv=>whnf))))))
    (exact ⟨.inl rfl, _, .refl _, congrArg (fun b => some (C.v (Value.bool b))) (by symm; simp at h10 ⊢; omega)⟩)
  (conv=>whnf);(try(refine ⟨(rfl:(_:Heap)=_),?_⟩;(conv=>whnf)))
  refine ⟨fun h11 => ?_, fun h11 => ?_⟩
  · (conv=>whnf);(try(refine ⟨(rfl:(_:Heap)=_),?_⟩;(conv=>whnf)))
    (repeat (first | (refine ⟨fun _ => ?_, fun h => absurd h (by decide)⟩; (conv=>whnf);(try(refine ⟨(rfl:(_:Heap)=_),?_⟩;(conv=>whnf)))) | (refine ⟨fun h => absurd h (by decide), fun _ => ?_⟩; (conv=>whnf);(try(refine ⟨(rfl:(_:Heap)=_),?_⟩;(conv=>whnf))))))
    (exact ⟨.inl rfl, _, .refl _, congrArg (fun b => some (C.v (Value.bool b))) (by symm; simp at h10 h11 ⊢; omega)⟩)
  · (conv=>whnf);(try(refine ⟨(rfl:(_:Heap)=_),?_⟩;(conv=>whnf)))
    (repeat (first | (refine ⟨fun _ => ?_, fun h => absurd h (by decide)⟩; (conv=>whnf);(try(refine ⟨(rfl:(_:Heap)=_),?_⟩;(conv=>whnf)))) | (refine ⟨fun h => absurd h (by decide), fun _ => ?_⟩; (conv=>whnf);(try(refine ⟨(rfl:(_:Heap)=_),?_⟩;(conv=>whnf))))))
    (exact ⟨.inl rfl, _, .refl _, congrArg (fun b => some (C.v (Value.bool b))) (by symm; simp at h10 h11 ⊢; omega)⟩)
end Go.Wor
namespace Go.Ab
set_option linter.unusedVariables false
theorem kill4_get {H : Heap} {id i : Nat} {ob : Ob} (h : (killB H id)[i]? = some ob) (hk : ob.kind = 4) : H[i]? = some ob := by
  rw [killB_get] at h
  cases hx : H[i]? with
  | none => rw [hx] at h; cases h
  | some o =>
    rw [hx] at h
    simp only [Option.map_some, Option.some.injEq] at h
    split at h
    · subst h; cases hk
    · rw [h]
theorem Weak.forget {B : Nat} {s : S} (id : Nat) : Weak B s ⟨s.tmps, killB s.H id⟩ := fun m w E a hs => by
  have hg : ∀ {i b}, GroOwn E (killB s.H id) i b → GroOwn E s.H i b := fun ⟨ob, cap, h1, h2, h3, h4⟩ => ⟨ob, cap, kill4_get h1 h2, h2, h3, h4⟩
  have hr : ∀ {i b}, RecOwn (killB s.H id) i b → RecOwn s.H i b := fun ⟨ob, o, t, h1, h2, h3, h4⟩ => ⟨ob, o, t, kill4_get h1 h2, h2, h3, h4⟩
  have h0 : ∀ {b}, Owned0 E (killB s.H id) b → Owned0 E s.H b := fun ⟨i, p, x, h1, h2⟩ => ⟨i, p, x, (getB_killB h1).2, h2⟩
  refine ⟨E, ⟨⟨hs.heap.base.kill id, ?_⟩, hs.tmps, hs.defers, by have := hs.base; simp [killB]; omega⟩, ⟨Env.leB.refl B E, rfl, rfl, rfl, Nat.le_refl _, fun _ _ _ => rfl, fun _ _ _ h => .inl h, ?_⟩⟩
  · exact {
      val := fun i ob h1 h2 => hs.heap.gro.val i ob (kill4_get h1 h2) h2
      blk := fun i b ob h1 h2 => hs.heap.gro.blk i b ob (hg h1) (by obtain ⟨ob2, _, h3, h4, _⟩ := h1; rw [h2] at h3; cases h3; exact kill4_get h2 h4)
      sep := fun i b h1 h2 => hs.heap.gro.sep i b (hg h1) (h0 h2)
      inj := fun i j b h1 h2 => hs.heap.gro.inj i j b (hg h1) (hg h2)
      st := fun i b ob o u h1 h2 h3 => hs.heap.gro.st i b ob o u (hg h1) (by obtain ⟨ob2, _, h4, h5, _⟩ := h1; rw [h2] at h4; cases h4; exact kill4_get h2 h5) h3
      top := fun i ob k u h1 h2 h3 => hs.heap.gro.top i ob k u (kill4_get h1 h2) h2 h3
      lop := fun i ob o t h1 h2 h3 => hs.heap.gro.lop i ob o t (kill4_get h1 h2) h2 h3
      rinj := fun i j b h1 h2 => hs.heap.gro.rinj i j b (hr h1) (hr h2) }
  · rintro b (hb | ⟨i, hb | hb⟩)
    · exact .inr (.inl (h0 hb))
    · exact .inr (.inr ⟨i, .inl (hg hb)⟩)
    · exact .inr (.inr ⟨i, .inr (hr hb)⟩)
end Go.Ab
namespace Go.Wor
open Go.Ab Go.Proofs Go.Hy Go.Gat Go.Nam Go.Hos Go.Con Go.Sna
set_option linter.unusedVariables false
set_option linter.unusedSimpArgs false
set_option maxRecDepth 100000
set_option maxHeartbeats 4000000
abbrev Ce (e : Eve) : C := .agg (encEv e)
abbrev noAns : Ans := ⟨0, 0, 0, 0, 0, 0, 0, ⟨0, 0, 0, 0, 0, 0⟩⟩
abbrev noEve : Eve := ⟨0, 0, 0, 0, 0, false, 0, false, false, false, noAns⟩
abbrev ldE (n : Int) : Eve := ⟨0, 0, 1, 1, 0, false, n, false, false, false, noAns⟩
def StepsR (r : C) (H' : Heap) : Prop := ∃ (b : Nat) (v0 v1 v2 : Value), r = .v (.map (some b)) ∧ H' = [obC b [(0, v0, 0), (1, v1, 1), (2, v2, 2)] 3 [.agg [.fn 148 [] []], .agg [.fn 150 [] []], .agg [.fn 151 [] []]]]
theorem steps_sound : SoundR Tryz.prog 111 [] [] StepsR := by
  refine SoundR.of_wpA (fn := Tryz.f111) Tryz.func111 rfl ?_
  conv => whnf
  intro b
  (conv=>whnf);(try(refine ⟨(rfl:(_:Heap)=_),?_⟩;(conv=>whnf)))
  refine OpVR.updMissC (id := 0) _ _ _ _ (.inr rfl) Tryz.underlying185 Tryz.underlying3 rfl rfl rfl rfl rfl ?_; intro v0; (conv=>whnf);(try(refine ⟨(rfl:(_:Heap)=_),?_⟩;(conv=>whnf)))
  refine OpVR.updMissC (id := 0) _ _ _ _ (.inr rfl) Tryz.underlying185 Tryz.underlying3 rfl rfl rfl rfl rfl ?_; intro v1; (conv=>whnf);(try(refine ⟨(rfl:(_:Heap)=_),?_⟩;(conv=>whnf)))
  refine OpVR.updMissC (id := 0) _ _ _ _ (.inr rfl) Tryz.underlying185 Tryz.underlying3 rfl rfl rfl rfl rfl ?_; intro v2; (conv=>whnf);(try(refine ⟨(rfl:(_:Heap)=_),?_⟩;(conv=>whnf)))
  exact ⟨.inl rfl, _, _, .refl _, rfl, b, v0, v1, v2, rfl, rfl⟩
theorem of_wpX {P : Program} {f : FuncId} {fn : Func} {c : Code} {H H2 : Heap} {args : List C} {r : C} (hf : P.funcs[f]? = some fn) (hb : fn.body = some c) (hle : H.length ≤ H2.length)
    (h : wpA P H.length c (entry fn args) H fun ex t1 H1 => (ex = .ret ∨ ex = .normal) ∧ ∃ s2 r1, Weak H.length ⟨t1, H1⟩ s2 ∧ resC P fn s2 = some r1 ∧ Weak H.length ⟨[r1], s2.H⟩ ⟨[r], H2⟩) : SoundAt P f H args r H2 := fun w E vs hh hl0 => by
  have h1 : SoundR P f H args fun r1 H1 => Weak H.length ⟨[r1], H1⟩ ⟨[r], H2⟩ := SoundR.of_wpA hf hb h
  refine (h1 w E vs hh hl0).mono ?_
  rintro e w' ⟨r1, H1, v, E', hw, h0, h2, h3, g⟩
  have hHH : H.length ≤ H1.length := by rw [← hh.n, ← h2.n]; exact g.le.n
  obtain ⟨E2, hs, g2⟩ := hw 0 w' E' ⟨#[v], []⟩ ⟨h2, LL.one h3, Nat.zero_le _, hHH⟩
  have hn2 := hs.heap.n
  refine ⟨v, E2, h0, hs.heap, hs.tmps.cons_inv.1, ⟨⟨by rw [hh.n, hn2]; exact hle, fun id hops hi => ?_, fun id hops hi => ?_, fun b o u hu => g2.le.St _ _ _ (g.le.St _ _ _ hu), fun id k u hi hu => ?_⟩, g2.os.trans g.os, g2.tape.trans g.tape, g2.output.trans g.output, Nat.le_trans g.size g2.size, ?_, ?_, ?_⟩⟩
  · rw [hh.n] at hi; exact (g2.le.β id hops hi).trans (g.le.β id hops (by rw [hh.n]; exact hi))
  · rw [hh.n] at hi; exact (g2.le.κ id hops hi).trans (g.le.κ id hops (by rw [hh.n]; exact hi))
  · rw [hh.n] at hi; exact g2.le.G id k u hi (g.le.G id k u (by rw [hh.n]; exact hi) hu)
  · intro k hk ho
    exact (g2.frame k (Nat.lt_of_lt_of_le hk g.size) fun hc => (g.own k hc).elim (fun h => by omega) ho).trans (g.frame k hk ho)
  · intro b o u hu
    rcases g2.newSt b o u hu with h1 | h1 | h1
    · exact g.newSt b o u h1
    · exact .inr (.inl (Nat.le_trans g.size h1))
    · rcases g.own b h1 with h4 | h4
      · exact .inr (.inl h4)
      · exact .inr (.inr h4)
  · intro b hb
    rcases g2.own b hb with h1 | h1
    · exact .inl (Nat.le_trans g.size h1)
    · exact g.own b h1
theorem load_sound (w : Wor) (m : Mac) : SoundAt Tryz.prog 149 [⟨1, 48, 8, [encW w], 0⟩, ⟨1, 37, 44, [encM (m)], 0⟩] [.ref 0 [] 8 0 0] (Ce (ldE w.epoch)) [⟨1, 48, 8, [encW w], 0⟩, ⟨1, 37, 44, [encM (m)], 0⟩] := by
  refine of_wpX (fn := Tryz.f149) Tryz.func149 rfl (Nat.le_refl _) ?_; conv => whnf
  exact ⟨.inl rfl, _, _, .refl _, rfl, Weak.covD 2 (by (conv => whnf); (repeat (refine ⟨rfl, ?_⟩; (conv => whnf))); exact trivial) rfl rfl rfl rfl rfl⟩
theorem st1_sound (w : Wor) (m : Mac) : SoundAt Tryz.prog 148 [⟨1, 48, 8, [encW w], 0⟩, ⟨1, 37, 44, [encM (m)], 0⟩] [.ref 0 [] 8 0 0, .ref 1 [] 44 0 0] (Ce (ldE w.epoch)) [⟨1, 48, 8, [encW w], 0⟩, ⟨1, 37, 44, [encM ({ m with epoch := w.epoch, pc := 1 })], 0⟩] := by
  refine of_wpX (fn := Tryz.f148) Tryz.func148 rfl (Nat.le_refl _) ?_; conv => whnf
  refine callPart [0, 1] (load_sound w { m with epoch := w.epoch, pc := 1 }) rfl rfl rfl rfl rfl rfl ?_; (conv=>whnf);(try(refine ⟨(rfl:(_:Heap)=_),?_⟩;(conv=>whnf)))
  exact ⟨.inl rfl, _, _, .refl _, rfl, Weak.covD 2 (by (conv => whnf); (repeat (refine ⟨rfl, ?_⟩; (conv => whnf))); exact trivial) rfl rfl rfl rfl rfl⟩
theorem st2_sound (w : Wor) (m : Mac) (h0 : 0 ≤ m.thread) (h1 : m.thread < w.pins.length) : SoundAt Tryz.prog 150 [⟨1, 48, 8, [[I w.epoch, I w.current, I w.lock, .sl 2 [] 1 0 w.pins.length false, lV w.versions, lL w.listens, lCo w.counts, lR w.limbo]], 0⟩, ⟨1, 37, 44, [encM (m)], 0⟩, ⟨2, 3, 1, (w.pins).map encI, 0⟩] [.ref 0 [] 8 0 0, .ref 1 [] 44 0 0] (Ce ⟨0, 0, 2, 2, 0, false, IntKind.i64.wrap (m.epoch + 1), false, false, false, noAns⟩) [⟨1, 48, 8, [[I w.epoch, I w.current, I w.lock, .sl 2 [] 1 0 w.pins.length false, lV w.versions, lL w.listens, lCo w.counts, lR w.limbo]], 0⟩, ⟨1, 37, 44, [encM ({ m with pc := 2 })], 0⟩, ⟨2, 3, 1, (w.pins.set m.thread.toNat (IntKind.i64.wrap (m.epoch + 1))).map encI, 0⟩] := by
  have hs : (w.pins.map encI).set m.thread.toNat [I (IntKind.i64.wrap (m.epoch + 1))] = (w.pins.set m.thread.toNat (IntKind.i64.wrap (m.epoch + 1))).map encI := by rw [List.map_set]; rfl
  rw [← hs]
  have e1 : 0 + m.thread.toNat = m.thread.toNat := Nat.zero_add _
  have hg : (w.pins.map encI)[m.thread.toNat]? = some (encI (w.pins[m.thread.toNat]'(by omega))) := by rw [List.getElem?_map, List.getElem?_eq_getElem (by omega)]; rfl
  refine of_wpX (fn := Tryz.f150) Tryz.func150 rfl (Nat.le_refl _) ?_
  conv => whnf
  refine .inl ⟨⟨false, [], [], []⟩, by kernel_rfl, ?_⟩; (conv => whnf)
  refine ⟨h0, by omega, ?_⟩
  (conv=>whnf);(try(refine ⟨(rfl:(_:Heap)=_),?_⟩;(conv=>whnf)))
  rw [e1]
  refine ⟨_, hg, rfl, ?_⟩
  (conv=>whnf);(try(refine ⟨(rfl:(_:Heap)=_),?_⟩;(conv=>whnf)))
  exact ⟨.inl rfl, _, _, .refl _, rfl, Weak.covD 3 (by (conv => whnf); (repeat (refine ⟨rfl, ?_⟩; (conv => whnf))); exact trivial) rfl rfl rfl rfl rfl⟩
theorem st3_sound (w : Wor) (m : Mac) : SoundAt Tryz.prog 151 [⟨1, 48, 8, [encW w], 0⟩, ⟨1, 37, 44, [encM (m)], 0⟩] [.ref 0 [] 8 0 0, .ref 1 [] 44 0 0] (Ce (ldE w.epoch)) [⟨1, 48, 8, [encW w], 0⟩, ⟨1, 37, 44, [encM ({ m with epoch := w.epoch, pc := if w.epoch = m.epoch then 3 else 1 })], 0⟩] := by
  refine of_wpX (fn := Tryz.f151) Tryz.func151 rfl (Nat.le_refl _) ?_
  conv => whnf
  refine .inl ⟨⟨false, [], [], []⟩, by kernel_rfl, ?_⟩; (conv => whnf)
  refine ⟨fun h => ?_, fun h => ?_⟩
  · conv => whnf
    rw [if_pos (of_decide_eq_true h)]
    refine callPart [0, 1] (load_sound w { m with epoch := w.epoch, pc := 3 }) rfl rfl rfl rfl rfl rfl ?_; (conv=>whnf);(try(refine ⟨(rfl:(_:Heap)=_),?_⟩;(conv=>whnf)))
    exact ⟨.inl rfl, _, _, .refl _, rfl, Weak.covD 2 (by (conv => whnf); (repeat (refine ⟨rfl, ?_⟩; (conv => whnf))); exact trivial) rfl rfl rfl rfl rfl⟩
  · conv => whnf
    rw [if_neg (of_decide_eq_false h)]
    refine callPart [0, 1] (load_sound w { m with epoch := w.epoch, pc := 1 }) rfl rfl rfl rfl rfl rfl ?_; (conv=>whnf);(try(refine ⟨(rfl:(_:Heap)=_),?_⟩;(conv=>whnf)))
    exact ⟨.inl rfl, _, _, .refl _, rfl, Weak.covD 2 (by (conv => whnf); (repeat (refine ⟨rfl, ?_⟩; (conv => whnf))); exact trivial) rfl rfl rfl rfl rfl⟩
abbrev cF1 : List C := [.fn 148 [] []]
abbrev cF2 : List C := [.fn 150 [] []]
abbrev cF3 : List C := [.fn 151 [] []]
abbrev zeW : List C := [I 0, I 0, I 0, .lst 1 0 [], .lst 1 0 [], .lst 1 0 [], .lst 1 0 [], .lst 1 0 []]
abbrev zeP : List C := [I 0, Tx [], Tx [], Tx [], I 0, I 0, I 0, .lst 1 0 [], .lst 1 0 [], .lst 1 0 []]
abbrev zeM : List C := zeP ++ [I 0, I 0, I 0, I 0, I 0, I 0, I 0, I 0, I 0, U 0, I 0, I 0, I 0, I 0, Bo false] ++ encA noAns ++ encX ⟨0, 0, 0, 0, 0, 0⟩
theorem callPartRc {P : Program} {f : FuncId} (sel : List Nat) {K H0 : Heap} {args args0 : List C} {R : C → Heap → Prop} (h : SoundR P f H0 args0 R) (hR : ∀ r H', R r H' → flatH H' = true)
    (hH : renH sel K = H0) (ha : args.map (renC sel 9) = args0) (hall : sel.all (fun id => Nat.blt id K.length) = true) (hnd : nodupB sel = true) (hfl : flatH K = true) {k : C → Heap → Prop}
    (hk : ∀ r H', R r H' → forceH (plug sel K H') fun X => forceC (mapC (backI sel K.length) 9 r) fun c => k c X) : ∃ R', SoundR P f K args R' ∧ ∀ r H2, R' r H2 → k r H2 :=
  ⟨_, h.part sel hR hH ha hall hnd hfl, fun r H2 ⟨r0, H', h1, h2, h3⟩ => by subst h2 h3; exact forceC_spec (forceH_spec (k := fun X => forceC (mapC (backI sel K.length) 9 r0) fun c => k c X) (hk r0 H' h1))⟩
theorem SoundAt.of_cut1 {P : Program} {f : FuncId} {fn : Func} {c : Code} {args : List C} {r : C} (hf : P.funcs[f]? = some fn) (hb : fn.body = some c)
    (h : RunR P 0 c ⟨entry fn args, []⟩ fun ex s => (ex = .ret ∨ ex = .normal) ∧ ∃ s2, Weak 0 s s2 ∧ (resC P fn s2).map (lowOf 0 9) = some r) : SoundAt P f [] args r [] := by
  refine SoundR.closeL (SoundR.of_run (H := []) hf hb (h.mono fun ex s1 ⟨hex, s2, hw, h2⟩ => ?_))
  cases h3 : resC P fn s2 with
  | none => rw [h3] at h2; cases h2
  | some r0 =>
    rw [h3] at h2
    cases h2
    exact ⟨hex, s2, r0, hw, h3, rfl⟩
end Go.Wor
namespace Go.Wor
open Go.Ab Go.Proofs Go.Hy Go.Gat Go.Nam Go.Hos Go.Con Go.Sna
set_option linter.unusedVariables false
set_option linter.unusedSimpArgs false
set_option maxRecDepth 100000
set_option maxHeartbeats 4000000
theorem stepHead (w : Wor) (m : Mac) (j f : Nat) (R : Exit → S → Prop) (hf : ∀ v0 v1 v2, findB [(0, v0, 0), (1, v1, 1), (2, v2, 2)] m.pc = some j) (hc : [C.agg cF1, .agg cF2, .agg cF3][j]? = some (.agg [.fn f [] []]))
    (hn : RunR Tryz.prog 0 (behind 2 ((Tryz.f81.body).getD .skip)) ⟨[.junk, .junk, .ref 0 [] 8 0 0, .ref 1 [] 44 0 0, .ref 2 [] 8 0 0, .ref 3 [] 44 0 0, .ref 4 [] 23 0 0, .ref 5 [] 1 0 0, .v (.bool true), .junk, .junk, .junk, .junk, .junk, .junk, .junk, .junk, .junk, .junk, .junk, .junk, .junk, .junk, .junk, .junk, .junk, .junk, .junk, .junk, .junk, .junk, .junk, .junk, .junk, .junk, .junk, .junk, .junk, .junk, .junk], [⟨1, 48, 8, [encW w], 0⟩, ⟨1, 37, 44, [encM (m)], 0⟩, ⟨1, 48, 8, [zeW], 0⟩, ⟨1, 37, 44, [zeM], 0⟩, ⟨1, 87, 23, [encEv noEve], 0⟩, ⟨1, 183, 1, [[.fn f [] []]], 0⟩]⟩ R) : RunR Tryz.prog 0 ((Tryz.f81.body).getD .skip) ⟨entry Tryz.f81 [Cw w, Cm m], []⟩ R := by
  refine cutK ?_
  conv => whnf
  refine .inl ⟨rfl, _, _, .refl _, cutK ?_⟩
  conv => whnf
  refine .inr ⟨⟨[2], [1], false⟩, by kernel_rfl, fun h => absurd h (by decide), fun t H => RunR Tryz.prog 0 (behind 2 ((Tryz.f81.body).getD .skip)) ⟨t, H⟩ R, ?_, fun t2 H2 h => .inl ⟨rfl, _, _, .refl _, h⟩⟩
  conv => whnf
  (repeat' (first | (exact trivial) | (refine ⟨fun _ => ?_, fun h => absurd h (by decide)⟩; (conv => whnf)) | (refine ⟨fun h => absurd h (by decide), fun _ => ?_⟩; (conv => whnf)) | (refine ⟨(rfl : (_ : Heap) = _), ?_⟩; (conv => whnf)) | (refine ⟨(rfl : (_ : Option Ob) = _), ?_⟩; (conv => whnf)) | ((refine callPartRc [] steps_sound (fun r H' ⟨b, v0, v1, v2, h1, h2⟩ => h2 ▸ rfl) rfl rfl rfl rfl rfl ?_; rintro _ _ ⟨b, v0, v1, v2, rfl, rfl⟩; ((conv=>whnf);(try(refine ⟨(rfl:(_:Heap)=_),?_⟩;(conv=>whnf)))))) | (refine ⟨_, _, OpV.lookHitC (id := 5) _ _ _ _ rfl rfl rfl rfl rfl rfl rfl rfl rfl (hf _ _ _) hc, ?_⟩; ((conv=>whnf);(try(refine ⟨(rfl:(_:Heap)=_),?_⟩;(conv=>whnf))))) | (refine ⟨_, _, OpV.lookHitC (id := 6) _ _ _ _ rfl rfl rfl rfl rfl rfl rfl rfl rfl (hf _ _ _) hc, ?_⟩; ((conv=>whnf);(try(refine ⟨(rfl:(_:Heap)=_),?_⟩;(conv=>whnf))))) | (refine And.intro ?_ ?_ <;> (conv => whnf))))
  all_goals (first | exact ⟨_, _, (Weak.forget 5).trans ((Weak.ren [0, 1, 2, 3, 4, 6] [2, 3, 4, 5, 6, 7, 8] _ _ rfl rfl rfl rfl).trans (Weak.cov (by (conv => whnf); (repeat (refine ⟨rfl, ?_⟩; (conv => whnf))); exact trivial))), hn⟩ | exact ⟨_, _, (Weak.forget 6).trans ((Weak.ren [0, 1, 2, 3, 4, 5] [2, 3, 4, 5, 6, 7, 8] _ _ rfl rfl rfl rfl).trans (Weak.cov (by (conv => whnf); (repeat (refine ⟨rfl, ?_⟩; (conv => whnf))); exact trivial))), hn⟩)
end Go.Wor
namespace Go.Wor
open Go.Ab Go.Proofs Go.Hy Go.Gat Go.Nam Go.Hos Go.Con Go.Sna
set_option linter.unusedVariables false
set_option linter.unusedSimpArgs false
set_option maxRecDepth 100000
set_option maxHeartbeats 4000000
abbrev evAt (m : Mac) (e : Eve) : Eve := { e with thread := m.thread, version := -1 }
theorem pin0_sound (w : Wor) (m : Mac) (sw : SmWor w) (ok : OkW w) (hl : i64 m.listen) (hpc : m.pc = 0) (hs : suitsV w m = true) :
    SoundAt Tryz.prog 81 [] [Cw w, Cm m] (.tup [Cw w, Cm { m with epoch := w.epoch, pc := 1 }, Ce (evAt m (ldE w.epoch))]) [] := by
  refine SoundAt.of_cut1 Tryz.func81 rfl (stepHead w m 0 148 _ (fun _ _ _ => by rw [hpc]; rfl) rfl ?_)
  (refine wpA_spec (K := fun ex t H => (ex = .ret ∨ ex = .normal) ∧ ∃ s2, Weak 0 ⟨t, H⟩ s2 ∧ (resC Tryz.prog Tryz.f81 s2).map (lowOf 0 9) = some (.tup [Cw w, Cm { m with epoch := w.epoch, pc := 1 }, Ce (evAt m (ldE w.epoch))])) ?_; conv => whnf)
  (repeat (first | (refine ⟨fun _ => ?_, fun h => absurd h (by decide)⟩; (conv=>whnf);(try(refine ⟨(rfl:(_:Heap)=_),?_⟩;(conv=>whnf)))) | (refine ⟨fun h => absurd h (by decide), fun _ => ?_⟩; (conv=>whnf);(try(refine ⟨(rfl:(_:Heap)=_),?_⟩;(conv=>whnf))))))
  refine ⟨_, _, (suits_sound w m ok hl).frame rfl _, ?_⟩; (conv=>whnf);(try(refine ⟨(rfl:(_:Heap)=_),?_⟩;(conv=>whnf)))
  refine ⟨fun _ => ?_, fun h => absurd ((hs).symm.trans h : true = false) (by decide)⟩; (conv=>whnf);(try(refine ⟨(rfl:(_:Heap)=_),?_⟩;(conv=>whnf)))
  (repeat (first | (refine ⟨fun _ => ?_, fun h => absurd h (by decide)⟩; (conv=>whnf);(try(refine ⟨(rfl:(_:Heap)=_),?_⟩;(conv=>whnf)))) | (refine ⟨fun h => absurd h (by decide), fun _ => ?_⟩; (conv=>whnf);(try(refine ⟨(rfl:(_:Heap)=_),?_⟩;(conv=>whnf))))))
  refine ⟨_, _, (clone_sound w sw).frame rfl _, ?_⟩; (conv=>whnf);(try(refine ⟨(rfl:(_:Heap)=_),?_⟩;(conv=>whnf)))
  refine callPart [0, 1] (st1_sound w m) rfl rfl rfl rfl rfl rfl ?_; (conv=>whnf);(try(refine ⟨(rfl:(_:Heap)=_),?_⟩;(conv=>whnf)))
  refine .inl ⟨⟨false, [1, 2], [1, 6], []⟩, by kernel_rfl, ?_⟩; (conv => whnf)
  repeat (refine ⟨rfl, ?_⟩; ((conv=>whnf);(try(refine ⟨(rfl:(_:Heap)=_),?_⟩;(conv=>whnf)))))
  exact ⟨.inl rfl, _, .refl _, rfl⟩
theorem pin2_sound (w : Wor) (m : Mac) (sw : SmWor w) (ok : OkW w) (hl : i64 m.listen) (hpc : m.pc = 2) (hs : suitsV w m = true) :
    SoundAt Tryz.prog 81 [] [Cw w, Cm m] (.tup [Cw w, Cm { m with epoch := w.epoch, pc := if w.epoch = m.epoch then 3 else 1 }, Ce (evAt m (ldE w.epoch))]) [] := by
  refine SoundAt.of_cut1 Tryz.func81 rfl (stepHead w m 2 151 _ (fun _ _ _ => by rw [hpc]; rfl) rfl ?_)
  (refine wpA_spec (K := fun ex t H => (ex = .ret ∨ ex = .normal) ∧ ∃ s2, Weak 0 ⟨t, H⟩ s2 ∧ (resC Tryz.prog Tryz.f81 s2).map (lowOf 0 9) = some (.tup [Cw w, Cm { m with epoch := w.epoch, pc := if w.epoch = m.epoch then 3 else 1 }, Ce (evAt m (ldE w.epoch))])) ?_; conv => whnf)
  (repeat (first | (refine ⟨fun _ => ?_, fun h => absurd h (by decide)⟩; (conv=>whnf);(try(refine ⟨(rfl:(_:Heap)=_),?_⟩;(conv=>whnf)))) | (refine ⟨fun h => absurd h (by decide), fun _ => ?_⟩; (conv=>whnf);(try(refine ⟨(rfl:(_:Heap)=_),?_⟩;(conv=>whnf))))))
  refine ⟨_, _, (suits_sound w m ok hl).frame rfl _, ?_⟩; (conv=>whnf);(try(refine ⟨(rfl:(_:Heap)=_),?_⟩;(conv=>whnf)))
  refine ⟨fun _ => ?_, fun h => absurd ((hs).symm.trans h : true = false) (by decide)⟩; (conv=>whnf);(try(refine ⟨(rfl:(_:Heap)=_),?_⟩;(conv=>whnf)))
  (repeat (first | (refine ⟨fun _ => ?_, fun h => absurd h (by decide)⟩; (conv=>whnf);(try(refine ⟨(rfl:(_:Heap)=_),?_⟩;(conv=>whnf)))) | (refine ⟨fun h => absurd h (by decide), fun _ => ?_⟩; (conv=>whnf);(try(refine ⟨(rfl:(_:Heap)=_),?_⟩;(conv=>whnf))))))
  refine ⟨_, _, (clone_sound w sw).frame rfl _, ?_⟩; (conv=>whnf);(try(refine ⟨(rfl:(_:Heap)=_),?_⟩;(conv=>whnf)))
  refine callPart [0, 1] (st3_sound w m) rfl rfl rfl rfl rfl rfl ?_; (conv=>whnf);(try(refine ⟨(rfl:(_:Heap)=_),?_⟩;(conv=>whnf)))
  refine .inl ⟨⟨false, [1, 2], [1, 6], []⟩, by kernel_rfl, ?_⟩; (conv => whnf)
  repeat (refine ⟨rfl, ?_⟩; ((conv=>whnf);(try(refine ⟨(rfl:(_:Heap)=_),?_⟩;(conv=>whnf)))))
  exact ⟨.inl rfl, _, .refl _, rfl⟩
abbrev pinW (w : Wor) (t : Nat) (n : Int) : Wor := { w with pins := w.pins.set t n }
theorem pin1_sound (w : Wor) (m : Mac) (sw : SmWor w) (ok : OkW w) (hl : i64 m.listen) (hpc : m.pc = 1) (hs : suitsV w m = true) :
    SoundAt Tryz.prog 81 [] [Cw w, Cm m] (.tup [Cw (pinW w m.thread.toNat (IntKind.i64.wrap (m.epoch + 1))), Cm { m with pc := 2 }, Ce (evAt m ⟨0, 0, 2, 2, 0, false, IntKind.i64.wrap (m.epoch + 1), false, false, false, noAns⟩)]) [] := by
  obtain ⟨v, g, e, su⟩ := suits_iff hs
  obtain ⟨x, l, hx⟩ : ∃ x l, w.pins = x :: l := by
    cases h : w.pins with
    | nil => have := su.thread; rw [h] at this; simp at this; omega
    | cons x l => exact ⟨x, l, rfl⟩
  refine SoundAt.of_cut1 Tryz.func81 rfl (stepHead w m 1 150 _ (fun _ _ _ => by rw [hpc]; rfl) rfl ?_)
  (refine wpA_spec (K := fun ex t H => (ex = .ret ∨ ex = .normal) ∧ ∃ s2, Weak 0 ⟨t, H⟩ s2 ∧ (resC Tryz.prog Tryz.f81 s2).map (lowOf 0 9) = some (.tup [Cw (pinW w m.thread.toNat (IntKind.i64.wrap (m.epoch + 1))), Cm { m with pc := 2 }, Ce (evAt m ⟨0, 0, 2, 2, 0, false, IntKind.i64.wrap (m.epoch + 1), false, false, false, noAns⟩)])) ?_; conv => whnf)
  (repeat (first | (refine ⟨fun _ => ?_, fun h => absurd h (by decide)⟩; (conv=>whnf);(try(refine ⟨(rfl:(_:Heap)=_),?_⟩;(conv=>whnf)))) | (refine ⟨fun h => absurd h (by decide), fun _ => ?_⟩; (conv=>whnf);(try(refine ⟨(rfl:(_:Heap)=_),?_⟩;(conv=>whnf))))))
  refine ⟨_, _, (suits_sound w m ok hl).frame rfl _, ?_⟩; (conv=>whnf);(try(refine ⟨(rfl:(_:Heap)=_),?_⟩;(conv=>whnf)))
  refine ⟨fun _ => ?_, fun h => absurd ((hs).symm.trans h : true = false) (by decide)⟩; (conv=>whnf);(try(refine ⟨(rfl:(_:Heap)=_),?_⟩;(conv=>whnf)))
  (repeat (first | (refine ⟨fun _ => ?_, fun h => absurd h (by decide)⟩; (conv=>whnf);(try(refine ⟨(rfl:(_:Heap)=_),?_⟩;(conv=>whnf)))) | (refine ⟨fun h => absurd h (by decide), fun _ => ?_⟩; (conv=>whnf);(try(refine ⟨(rfl:(_:Heap)=_),?_⟩;(conv=>whnf))))))
  refine callPart [] (cloneP_sound w sw x l hx) rfl rfl rfl rfl rfl rfl ?_; (conv=>whnf);(try(refine ⟨(rfl:(_:Heap)=_),?_⟩;(conv=>whnf)))
  refine callPart [0, 1, 6] (st2_sound w m su.thread.1 su.thread.2) rfl rfl rfl rfl rfl rfl ?_; (conv=>whnf);(try(refine ⟨(rfl:(_:Heap)=_),?_⟩;(conv=>whnf)))
  refine .inl ⟨⟨false, [1, 2], [1, 7], []⟩, by kernel_rfl, ?_⟩; (conv => whnf)
  repeat (refine ⟨rfl, ?_⟩; ((conv=>whnf);(try(refine ⟨(rfl:(_:Heap)=_),?_⟩;(conv=>whnf)))))
  exact ⟨.inl rfl, _, Weak.freezeC 2 0 3 rfl rfl rfl rfl (.inr rfl) (by simp) (by simp) (shut_map (enc := encI) (fun _ => rfl) _) (one_noOwn rfl), rfl⟩
abbrev offE (m : Mac) : Eve := evAt m ⟨0, 0, 2, 2, 0, false, 0, false, false, false, noAns⟩
theorem off_sound (w : Wor) (m : Mac) (sw : SmWor w) (ok : OkW w) (hl : i64 m.listen) (hs : suitsV w m = true) :
    SoundAt Tryz.prog 161 [] [Cw w, Cm m] (.tup [Cw (pinW w m.thread.toNat 0), Ce (offE m)]) [] := by
  obtain ⟨v, g, e, su⟩ := suits_iff hs
  obtain ⟨x, l, hx⟩ : ∃ x l, w.pins = x :: l := by
    cases h : w.pins with
    | nil => have := su.thread; rw [h] at this; simp at this; omega
    | cons x l => exact ⟨x, l, rfl⟩
  have e1 : 0 + m.thread.toNat = m.thread.toNat := Nat.zero_add _
  have h0 := su.thread.1
  have h1 := su.thread.2
  have hst : (w.pins.map encI).set m.thread.toNat [I 0] = (w.pins.set m.thread.toNat 0).map encI := by rw [List.map_set]; rfl
  have hg : (w.pins.map encI)[m.thread.toNat]? = some (encI (w.pins[m.thread.toNat]'(by omega))) := by rw [List.getElem?_map, List.getElem?_eq_getElem (by omega)]; rfl
  refine SoundAt.of_wpA1 (fn := Tryz.f161) Tryz.func161 rfl ?_
  conv => whnf
  refine ⟨_, _, (suits_sound w m ok hl).frame rfl _, ?_⟩; (conv=>whnf);(try(refine ⟨(rfl:(_:Heap)=_),?_⟩;(conv=>whnf)))
  refine ⟨fun _ => ?_, fun h => absurd ((hs).symm.trans h : true = false) (by decide)⟩; (conv=>whnf);(try(refine ⟨(rfl:(_:Heap)=_),?_⟩;(conv=>whnf)))
  (repeat (first | (refine ⟨fun _ => ?_, fun h => absurd h (by decide)⟩; (conv=>whnf);(try(refine ⟨(rfl:(_:Heap)=_),?_⟩;(conv=>whnf)))) | (refine ⟨fun h => absurd h (by decide), fun _ => ?_⟩; (conv=>whnf);(try(refine ⟨(rfl:(_:Heap)=_),?_⟩;(conv=>whnf))))))
  refine callPart [] (cloneP_sound w sw x l hx) rfl rfl rfl rfl rfl rfl ?_; (conv=>whnf);(try(refine ⟨(rfl:(_:Heap)=_),?_⟩;(conv=>whnf)))
  refine ⟨h0, by omega, ?_⟩
  (conv=>whnf);(try(refine ⟨(rfl:(_:Heap)=_),?_⟩;(conv=>whnf)))
  rw [e1]
  refine ⟨_, hg, rfl, ?_⟩
  (conv=>whnf);(try(refine ⟨(rfl:(_:Heap)=_),?_⟩;(conv=>whnf)))
  rw [hst]
  refine .inl ⟨⟨false, [2], [1], []⟩, by kernel_rfl, ?_⟩; (conv => whnf)
  repeat (refine ⟨rfl, ?_⟩; ((conv=>whnf);(try(refine ⟨(rfl:(_:Heap)=_),?_⟩;(conv=>whnf)))))
  exact ⟨.inl rfl, _, Weak.freezeC 2 0 3 rfl rfl rfl rfl (.inr rfl) (by simp) (by simp) (shut_map (enc := encI) (fun _ => rfl) _) (one_noOwn rfl), rfl⟩
end Go.Wor
namespace Go.Wor
open Go.Ab Go.Proofs Go.Hy Go.Gat Go.Nam Go.Hos Go.Con Go.Sna
set_option linter.unusedVariables false
set_option linter.unusedSimpArgs false
set_option maxRecDepth 100000
set_option maxHeartbeats 4000000
def moreV (x : Six) (k n : Int) : Six :=
  if k = 0 then { x with c0 := IntKind.u64.wrap (x.c0 + n) } else if k = 1 then { x with c1 := IntKind.u64.wrap (x.c1 + n) } else if k = 2 then { x with c2 := IntKind.u64.wrap (x.c2 + n) }
  else if k = 3 then { x with c3 := IntKind.u64.wrap (x.c3 + n) } else if k = 4 then { x with c4 := IntKind.u64.wrap (x.c4 + n) } else { x with c5 := IntKind.u64.wrap (x.c5 + n) }
theorem more_sound (x : Six) (k n : Int) (h0 : 0 ≤ k) (h6 : k < 6) : SoundAt Tryz.prog 103 [] [.agg (encX x), I k, U n] (.agg (encX (moreV x k n))) [] := by
  obtain ⟨a, b, c, d, e, f⟩ := x
  obtain rfl | rfl | rfl | rfl | rfl | rfl : k = 0 ∨ k = 1 ∨ k = 2 ∨ k = 3 ∨ k = 4 ∨ k = 5 := by omega
  all_goals
    refine SoundAt.of_wpA1 (fn := Tryz.f103) Tryz.func103 rfl ?_; (conv => whnf); (refine ⟨by decide, by decide, ?_⟩); (conv=>whnf);(try(refine ⟨(rfl:(_:Heap)=_),?_⟩;(conv=>whnf))); (refine ⟨by decide, by decide, ?_⟩); (conv=>whnf);(try(refine ⟨(rfl:(_:Heap)=_),?_⟩;(conv=>whnf))); exact ⟨.inl rfl, _, .refl _, rfl⟩
def statM (w : Wor) (m : Mac) (n : Int) : Mac :=
  let m1 : Mac := { m with counts := moreV m.counts m.k n, k := m.k + 1 }
  let m2 : Mac := if m.k + 1 = 6 then { m1 with i := m.i + 1, k := 0 } else m1
  if m2.i = w.counts.length then { m2 with done := true, answer := ⟨13, 0, 0, 0, 0, 0, 0, m2.counts⟩ } else m2
def statE (w : Wor) (m : Mac) (n : Int) : Eve := { noEve with thread := m.thread, access := 1, cell := 10, version := -1, value := m.k, done := (statM w m n).done, answer := if (statM w m n).done then (statM w m n).answer else noAns }
structure AtC (w : Wor) (m : Mac) (r : List Int) (n : Int) : Prop where
  i0 : 0 ≤ m.i
  at_ : w.counts[m.i.toNat]? = some r
  k0 : 0 ≤ m.k
  k6 : m.k < 6
  row : r[m.k.toNat]? = some n
abbrev statM1 (m : Mac) (n : Int) : Mac := { m with counts := moreV m.counts m.k n, k := m.k + 1 }
abbrev statM2 (m : Mac) (n : Int) : Mac := { m with counts := moreV m.counts m.k n, k := 0, i := m.i + 1 }
abbrev statM3 (m : Mac) (n : Int) : Mac := { m with counts := moreV m.counts m.k n, k := 0, i := m.i + 1, done := true, answer := ⟨13, 0, 0, 0, 0, 0, 0, moreV m.counts m.k n⟩ }
theorem statM_1 {w : Wor} {m : Mac} {n : Int} (h : m.k + 1 ≠ 6) (hi : m.i ≠ w.counts.length) : statM w m n = statM1 m n := by
  unfold statM
  dsimp only
  rw [if_neg h]
  exact if_neg hi
theorem statM_2 {w : Wor} {m : Mac} {n : Int} (h : m.k + 1 = 6) (hi : m.i + 1 ≠ w.counts.length) : statM w m n = statM2 m n := by
  unfold statM
  dsimp only
  rw [if_pos h]
  exact if_neg hi
theorem statM_3 {w : Wor} {m : Mac} {n : Int} (h : m.k + 1 = 6) (hi : m.i + 1 = w.counts.length) : statM w m n = statM3 m n := by
  unfold statM
  dsimp only
  rw [if_pos h]
  exact if_pos hi
abbrev statE0 (m : Mac) : Eve := { noEve with thread := m.thread, access := 1, cell := 10, version := -1, value := m.k }
theorem statE_no {w : Wor} {m : Mac} {n : Int} (h : (statM w m n).done = false) : statE w m n = statE0 m := by
  unfold statE
  rw [h]
  rfl
theorem statE_yes {w : Wor} {m : Mac} {n : Int} (h : (statM w m n).done = true) : statE w m n = { statE0 m with done := true, answer := (statM w m n).answer } := by
  unfold statE
  rw [h]
  rfl
theorem stats_sound (w : Wor) (m : Mac) (r : List Int) (n : Int) (sw : SmWor w) (ok : OkW w) (hl : i64 m.listen) (hpc : m.pc = 0) (hs : suitsV w m = true) (hd : m.done = false) (hc : AtC w m r n) (ha : m.answer = noAns) :
    SoundAt Tryz.prog 67 [] [Cw w, Cm m] (.tup [Cw w, Cm (statM w m n), Ce (statE w m n)]) [] := by
  have i0 := hc.i0
  have k0 := hc.k0
  have hi : m.i.toNat < w.counts.length := (List.getElem?_eq_some_iff.1 hc.at_).1
  have ml : (w.counts.map encCo).length = w.counts.length := List.length_map ..
  have cr : (w.counts.map encCo)[m.i.toNat]? = some (encCo r) := by rw [List.getElem?_map, hc.at_]; rfl
  have cn : (r.map encU)[m.k.toNat]? = some (encU n) := by rw [List.getElem?_map, hc.row]; rfl
  refine SoundAt.of_wpA1 (fn := Tryz.f67) Tryz.func67 rfl ?_
  conv => whnf
  refine ⟨fun h => absurd h (by simp [hpc]), fun _ => ?_⟩
  (conv=>whnf);(try(refine ⟨(rfl:(_:Heap)=_),?_⟩;(conv=>whnf)))
  refine ⟨fun h => absurd h (by have := hc.k6; simp; omega), fun _ => ?_⟩
  (conv=>whnf);(try(refine ⟨(rfl:(_:Heap)=_),?_⟩;(conv=>whnf)))
  rw [ml]
  refine ⟨fun h => absurd h (by simp; omega), fun _ => ?_⟩
  (conv=>whnf);(try(refine ⟨(rfl:(_:Heap)=_),?_⟩;(conv=>whnf)))
  refine ⟨_, _, (suits_sound w m ok hl).frame rfl _, ?_⟩; (conv=>whnf);(try(refine ⟨(rfl:(_:Heap)=_),?_⟩;(conv=>whnf)))
  refine ⟨fun _ => ?_, fun h => absurd ((hs).symm.trans h : true = false) (by decide)⟩; (conv=>whnf);(try(refine ⟨(rfl:(_:Heap)=_),?_⟩;(conv=>whnf)))
  (repeat (first | (refine ⟨fun _ => ?_, fun h => absurd h (by decide)⟩; (conv=>whnf);(try(refine ⟨(rfl:(_:Heap)=_),?_⟩;(conv=>whnf)))) | (refine ⟨fun h => absurd h (by decide), fun _ => ?_⟩; (conv=>whnf);(try(refine ⟨(rfl:(_:Heap)=_),?_⟩;(conv=>whnf))))))
  refine .inl ⟨⟨true, [], [], [14]⟩, by kernel_rfl, ?_⟩; (conv => whnf)
  (refine ⟨i0, _, cr, ?_⟩); (conv=>whnf);(try(refine ⟨(rfl:(_:Heap)=_),?_⟩;(conv=>whnf)))
  (refine ⟨k0, _, cn, ?_⟩); (conv=>whnf);(try(refine ⟨(rfl:(_:Heap)=_),?_⟩;(conv=>whnf)))
  refine ⟨_, _, (more_sound m.counts m.k n k0 hc.k6).frame rfl _, ?_⟩; (conv=>whnf);(try(refine ⟨(rfl:(_:Heap)=_),?_⟩;(conv=>whnf)))
  repeat (refine ⟨rfl, ?_⟩; ((conv=>whnf);(try(refine ⟨(rfl:(_:Heap)=_),?_⟩;(conv=>whnf)))))
  rw [show IntKind.i64.wrap (m.k + 1) = m.k + 1 from i64_ok (by omega) (by have := hc.k6; omega)]
  refine ⟨fun h6 => ?_, fun h6 => ?_⟩
  · have g6 : m.k + 1 = 6 := by simpa using h6
    (conv=>whnf);(try(refine ⟨(rfl:(_:Heap)=_),?_⟩;(conv=>whnf)))
    rw [show IntKind.i64.wrap (m.i + 1) = m.i + 1 from i64_ok (by omega) (by have := sw.counts.1; omega)]
    rw [ml]
    refine ⟨fun h7 => ?_, fun h7 => ?_⟩
    · have g7 : m.i + 1 = w.counts.length := by simpa using h7
      rw [statE_yes (by rw [statM_3 g6 g7]), statM_3 g6 g7]
      (conv=>whnf);(try(refine ⟨(rfl:(_:Heap)=_),?_⟩;(conv=>whnf)))
      refine .inl ⟨⟨false, [1], [1], []⟩, by kernel_rfl, ?_⟩; (conv => whnf)
      repeat (refine ⟨rfl, ?_⟩; ((conv=>whnf);(try(refine ⟨(rfl:(_:Heap)=_),?_⟩;(conv=>whnf)))))
      refine .inl ⟨⟨true, [0, 2, 3], [0, 1, 5], [1]⟩, by kernel_rfl, ?_⟩; (conv => whnf); refine ⟨_, _, (clone_sound w sw).frame rfl _, ?_⟩; (conv=>whnf);(try(refine ⟨(rfl:(_:Heap)=_),?_⟩;(conv=>whnf))); (repeat (refine ⟨rfl, ?_⟩; ((conv=>whnf);(try(refine ⟨(rfl:(_:Heap)=_),?_⟩;(conv=>whnf)))))); exact ⟨.inl rfl, _, .refl _, rfl⟩
    · have g7 : m.i + 1 ≠ w.counts.length := by simpa using h7
      rw [statE_no (by rw [statM_2 g6 g7]; exact hd), statM_2 g6 g7]
      (conv=>whnf);(try(refine ⟨(rfl:(_:Heap)=_),?_⟩;(conv=>whnf)))
      refine .inl ⟨⟨true, [0, 2, 3], [0, 1, 5], [1]⟩, by kernel_rfl, ?_⟩; (conv => whnf); refine ⟨_, _, (clone_sound w sw).frame rfl _, ?_⟩; (conv=>whnf);(try(refine ⟨(rfl:(_:Heap)=_),?_⟩;(conv=>whnf))); (repeat (refine ⟨rfl, ?_⟩; ((conv=>whnf);(try(refine ⟨(rfl:(_:Heap)=_),?_⟩;(conv=>whnf)))))); exact ⟨.inl rfl, _, .refl _, rfl⟩
  · have g6 : m.k + 1 ≠ 6 := by simpa using h6
    have g7 : m.i ≠ w.counts.length := by omega
    rw [statE_no (by rw [statM_1 g6 g7]; exact hd), statM_1 g6 g7]
    (conv=>whnf);(try(refine ⟨(rfl:(_:Heap)=_),?_⟩;(conv=>whnf)))
    rw [ml]
    refine ⟨fun h => absurd h (by simpa using g7), fun _ => ?_⟩
    (conv=>whnf);(try(refine ⟨(rfl:(_:Heap)=_),?_⟩;(conv=>whnf)))
    refine .inl ⟨⟨true, [0, 2, 3], [0, 1, 5], [1]⟩, by kernel_rfl, ?_⟩; (conv => whnf); refine ⟨_, _, (clone_sound w sw).frame rfl _, ?_⟩; (conv=>whnf);(try(refine ⟨(rfl:(_:Heap)=_),?_⟩;(conv=>whnf))); (repeat (refine ⟨rfl, ?_⟩; ((conv=>whnf);(try(refine ⟨(rfl:(_:Heap)=_),?_⟩;(conv=>whnf)))))); exact ⟨.inl rfl, _, .refl _, rfl⟩
end Go.Wor
