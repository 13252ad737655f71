import Derived.Test.YtdbcjcnfaajpjaaGreatRW
import Derived.Test.YtdbcjcnfaajpjaaGreatRV
namespace Go.Wor
open Go.Ab Go.Proofs Go.Hy Go.Gat Go.Nam Go.Hos Go.Con Go.Sna
set_option linter.unusedVariables false
set_option linter.unusedSimpArgs false
set_option maxRecDepth 100000
set_option maxHeartbeats 4000000
abbrev lvM (w : Wor) (m : Mac) : Mac := { m with version := w.current, cluster := 0, end_ := 0, other := 0, slot := 0, listen := placeV w.listens m.op.listen, pc := 4 }
abbrev ptE (e : Eve) : Eve := { e with point := true }
theorem loadVersion_sound (w : Wor) (m : Mac) (hl : w.listens.length < 4611686018427387904) :
    SoundAt Tryz.prog 112 [⟨1, 48, 8, [encW w], 0⟩, ⟨1, 37, 44, [encM (m)], 0⟩] [.agg [.ref 0 [] 8 0 0, .ref 1 [] 44 0 0]] (Ce (ptE (evO m 1 3 w.current))) [⟨1, 48, 8, [encW w], 0⟩, ⟨1, 37, 44, [encM (if placeV w.listens m.op.listen < 0 then endsM (lvM w m) 2 else lvM w m)], 0⟩] := by
  refine of_wpX (fn := Tryz.f112) Tryz.func112 rfl (Nat.le_refl _) ?_; conv => whnf
  refine .inr ⟨⟨[0, 2, 5, 6], [0, 1, 2], true⟩, by kernel_rfl, fun _ => rfl, _, ?_, fun t2 H2 h => h⟩; (conv => whnf)
  refine ⟨_, SoundAt.blind [1] (other_sound m 1 3 w.current) rfl rfl rfl rfl rfl rfl rfl (fun _ => rfl) (fun _ => rfl), ?_⟩; (conv => whnf)
  (refine ⟨?_, trivial⟩); (conv => whnf); (repeat (refine ⟨rfl, ?_⟩; (conv => whnf)))
  (refine ⟨?_, trivial⟩); (conv => whnf); (repeat (refine ⟨rfl, ?_⟩; (conv => whnf)))
  (refine ⟨_, _, .refl _, ?_⟩); (conv => whnf)
  refine .inl ⟨⟨true, [], [], [12]⟩, by kernel_rfl, ?_⟩; (conv => whnf)
  refine ⟨_, _, (place_sound w.listens m.op.listen hl).frame rfl _, ?_⟩; (conv=>whnf);(try(refine ⟨(rfl:(_:Heap)=_),?_⟩;(conv=>whnf)))
  repeat (refine ⟨rfl, ?_⟩; ((conv=>whnf);(try(refine ⟨(rfl:(_:Heap)=_),?_⟩;(conv=>whnf)))))
  refine ⟨fun h1 => ?_, fun h1 => ?_⟩
  · have e1 : placeV w.listens m.op.listen < 0 := by simpa using h1
    rw [if_pos e1]
    (conv=>whnf);(try(refine ⟨(rfl:(_:Heap)=_),?_⟩;(conv=>whnf)))
    refine callPart [1] (ends_sound (lvM w m) 2) rfl rfl rfl rfl rfl rfl ?_; (conv=>whnf);(try(refine ⟨(rfl:(_:Heap)=_),?_⟩;(conv=>whnf)))
    exact ⟨.inl rfl, _, _, .refl _, rfl, Weak.covD 2 (by (conv => whnf); (repeat (refine ⟨rfl, ?_⟩; (conv => whnf))); exact trivial) rfl rfl rfl rfl rfl⟩
  · have e1 : ¬ placeV w.listens m.op.listen < 0 := by simpa using h1
    rw [if_neg e1]
    (conv=>whnf);(try(refine ⟨(rfl:(_:Heap)=_),?_⟩;(conv=>whnf)))
    exact ⟨.inl rfl, _, _, .refl _, rfl, Weak.covD 2 (by (conv => whnf); (repeat (refine ⟨rfl, ?_⟩; (conv => whnf))); exact trivial) rfl rfl rfl rfl rfl⟩
end Go.Wor
namespace Go.Wor
open Go.Ab Go.Proofs Go.Hy Go.Gat Go.Nam Go.Hos Go.Con Go.Sna
set_option linter.unusedVariables false
set_option linter.unusedSimpArgs false
set_option maxRecDepth 100000
set_option maxHeartbeats 4000000
theorem unpin_sound (w : Wor) (m : Mac) (sw : SmWor w) (ok : OkW w) (hl : i64 m.listen) (hs : suitsV w m = true) :
    SoundAt Tryz.prog 125 [⟨1, 48, 8, [encW (w)], 0⟩, ⟨1, 37, 44, [encM (m)], 0⟩] [.agg [.ref 0 [] 8 0 0, .ref 1 [] 44 0 0]] (Ce { offE m with done := true, answer := m.answer }) [⟨1, 48, 8, [encW (pinW w m.thread.toNat 0)], 0⟩, ⟨1, 37, 44, [encM ({ m with done := true })], 0⟩] := by
  refine of_wpX (fn := Tryz.f125) Tryz.func125 rfl (Nat.le_refl _) ?_; conv => whnf
  refine .inr ⟨⟨[1, 3, 5, 7, 8], [0, 1, 2], true⟩, by kernel_rfl, fun _ => rfl, fun t H => t = [.junk, .ref 2 [] 2 0 0, .ref 3 [] 23 0 0, .ref 4 [] 8 0 0, .ref 5 [] 23 0 0, .junk, .junk, .junk, .junk, .junk, .junk, .junk, .junk, .junk, .junk, .junk, .junk, .junk, .junk, .junk, .junk, .junk, .junk, .junk, .junk, .junk, .junk, .junk, .junk, .junk, .junk, .junk, .junk] ∧ H = [⟨1, 48, 8, [encW (w)], 0⟩, ⟨1, 37, 44, [encM (m)], 0⟩, ⟨1, 154, 2, [[.ref 0 [] 8 0 0, .ref 1 [] 44 0 0]], 0⟩, ⟨1, 87, 23, [encEv (noEve)], 0⟩, ⟨1, 48, 8, [encW (pinW w m.thread.toNat 0)], 0⟩, ⟨1, 87, 23, [encEv (offE m)], 0⟩], ?_, ?_⟩
  · conv => whnf
    refine ⟨_, SoundAt.blind [] (off_sound w m sw ok hl hs) rfl rfl rfl rfl rfl rfl rfl (fun _ => rfl) (fun _ => rfl), ?_⟩; (conv => whnf)
    repeat' (first | (exact trivial) | (refine ⟨rfl, ?_⟩; (conv => whnf)) | (exact ⟨_, _, Weak.ren [0, 1, 2, 3, 4, 5] [1, 2, 3, 4] _ _ rfl rfl rfl rfl, rfl, rfl⟩) | (exact ⟨_, _, Weak.ren [0, 1, 2, 3, 5, 4] [1, 2, 3, 4] _ _ rfl rfl rfl rfl, rfl, rfl⟩) | (refine And.intro ?_ ?_ <;> (conv => whnf)))
  rintro _ _ ⟨rfl, rfl⟩
  conv => whnf
  refine .inr ⟨⟨[1, 3], [2], true⟩, by kernel_rfl, fun _ => rfl, fun t H => t = [.junk, .ref 2 [] 2 0 0, .ref 3 [] 23 0 0, .junk, .ref 5 [] 23 0 0, .junk, .junk, .junk, .junk, .junk, .junk, .junk, .junk, .junk, .junk, .junk, .junk, .junk, .junk, .junk, .junk, .junk, .junk, .junk, .junk, .junk, .junk, .junk, .junk, .junk, .junk, .junk, .junk] ∧ H = [⟨1, 48, 8, [encW (pinW w m.thread.toNat 0)], 0⟩, ⟨1, 37, 44, [encM ({ m with done := true })], 0⟩, ⟨1, 154, 2, [[.ref 0 [] 8 0 0, .ref 1 [] 44 0 0]], 0⟩, ⟨1, 87, 23, [encEv (noEve)], 0⟩, ⟨1, 48, 8, [encW (pinW w m.thread.toNat 0)], 0⟩, ⟨1, 87, 23, [encEv ({ offE m with done := true, answer := m.answer })], 0⟩], ?_, ?_⟩
  · conv => whnf
    repeat' (first | (exact trivial) | (refine ⟨rfl, ?_⟩; (conv => whnf)) | (exact ⟨_, _, Weak.mask [1, 2, 4] _ _, rfl, rfl⟩) | (refine And.intro ?_ ?_ <;> (conv => whnf)))
  rintro _ _ ⟨rfl, rfl⟩
  conv => whnf
  exact ⟨.inl rfl, _, _, .refl _, rfl, Weak.covD 2 (by (conv => whnf); (repeat (refine ⟨rfl, ?_⟩; (conv => whnf))); exact trivial) rfl rfl rfl rfl rfl⟩
end Go.Wor
namespace Go.Wor
open Go.Ab Go.Proofs Go.Hy Go.Gat Go.Nam Go.Hos Go.Con Go.Sna
set_option linter.unusedVariables false
set_option linter.unusedSimpArgs false
set_option maxRecDepth 100000
set_option maxHeartbeats 4000000
def pickV (c : Clu) (d : Int) : Int := ((hlt c)[(d % (hlt c).length).toNat]?).getD 0
def drawV (c : Clu) (d0 d1 : Int) : Int × Int × Int := if (hlt c).length = 0 then (0, 0, 5) else (pickV c d0, pickV c d1, 0)
theorem mod_twice {d : Int} {n : Nat} (hd : i64 d) (hn : 0 < n) (hm : n < 1000000000000) : IntKind.i64.wrap (d.tmod n + n) = d.tmod n + n ∧ (d.tmod n + n).tmod n = d % n := by
  have h1 := Int.tmod_lt_of_pos d (show (0 : Int) < n by omega)
  have h2 := Int.lt_tmod_of_pos d (show (0 : Int) < n by omega)
  refine ⟨i64_ok (by omega) (by omega), ?_⟩
  rw [Int.tmod_eq_emod_of_nonneg (by omega), Int.add_emod_right]
  rw [Int.tmod_def, Int.sub_mul_emod_self_left]
theorem pick_row {c : Clu} {d : Int} (hd : i64 d) (hn : 0 < (hlt c).length) (hm : (hlt c).length < 1000000000000) {n : Nat} (e : n = (hlt c).length) :
    0 ≤ (IntKind.i64.wrap (d.tmod n + n)).tmod n ∧ ((hlt c).map encI)[((IntKind.i64.wrap (d.tmod n + n)).tmod n).toNat]? = some [I (pickV c d)] := by
  subst e
  obtain ⟨e1, e2⟩ := mod_twice hd hn hm
  rw [e1, e2]
  have h0 : (0 : Int) < (hlt c).length := by omega
  have h1 := Int.emod_nonneg d (show ((hlt c).length : Int) ≠ 0 by omega)
  have h2 := Int.emod_lt_of_pos d h0
  refine ⟨h1, ?_⟩
  have hi : (hlt c)[(d % ((hlt c).length : Int)).toNat]? = some ((hlt c)[(d % ((hlt c).length : Int)).toNat]'(by omega)) := List.getElem?_eq_getElem _
  unfold pickV
  rw [List.getElem?_map, hi]
  rfl
theorem draw_sound (c : Clu) (d0 d1 : Int) (h0 : i64 d0) (h1 : i64 d1) (hl : c.health.length < 1000000000000) (hh : (hlt c).length ≤ c.health.length) : SoundAt Tryz.prog 173 [] [Cc c, I d0, I d1] (.tup [I (drawV c d0 d1).1, I (drawV c d0 d1).2.1, I (drawV c d0 d1).2.2]) [] := by
  have ml : ((hlt c).map encI).length = (hlt c).length := List.length_map ..
  refine SoundAt.of_wpA1 (fn := Tryz.f173) Tryz.func173 rfl ?_
  conv => whnf
  refine ⟨_, _, (healthyAll_sound c hl).frame rfl _, ?_⟩; (conv=>whnf);(try(refine ⟨(rfl:(_:Heap)=_),?_⟩;(conv=>whnf)))
  rw [ml]
  refine ⟨fun hz => ?_, fun hz => ?_⟩
  · unfold drawV
    have hz := of_decide_eq_true hz
    rw [if_pos (by omega)]
    (conv=>whnf);(try(refine ⟨(rfl:(_:Heap)=_),?_⟩;(conv=>whnf)))
    exact ⟨.inl rfl, _, .refl _, rfl⟩
  · unfold drawV
    have hz := of_decide_eq_false hz
    rw [if_neg (by omega)]
    (conv=>whnf);(try(refine ⟨(rfl:(_:Heap)=_),?_⟩;(conv=>whnf)))
    have hw : (((hlt c).length : Nat) : Int) ≠ 0 := by omega
    refine LoopK.ofN 3 (LoopN.step ?_)
    conv => whnf
    (repeat (first | (refine ⟨fun _ => ?_, fun h => absurd h (by decide)⟩; (conv=>whnf);(try(refine ⟨(rfl:(_:Heap)=_),?_⟩;(conv=>whnf)))) | (refine ⟨fun h => absurd h (by decide), fun _ => ?_⟩; (conv=>whnf);(try(refine ⟨(rfl:(_:Heap)=_),?_⟩;(conv=>whnf))))))
    (refine ⟨by decide, by decide, ?_⟩); (conv=>whnf);(try(refine ⟨(rfl:(_:Heap)=_),?_⟩;(conv=>whnf)))
    split; (rotate_left; (rename_i hno; exact (hno _ (run_rem rfl rfl rfl hw)).elim)); (rename_i v e; cases e.symm.trans (run_rem rfl rfl rfl hw)); (conv=>whnf);(try(refine ⟨(rfl:(_:Heap)=_),?_⟩;(conv=>whnf)))
    split; (rotate_left; (rename_i hno; exact (hno _ (run_rem rfl rfl rfl hw)).elim)); (rename_i v e; cases e.symm.trans (run_rem rfl rfl rfl hw)); (conv=>whnf);(try(refine ⟨(rfl:(_:Heap)=_),?_⟩;(conv=>whnf)))
    obtain ⟨p0, p1⟩ := pick_row h0 (c := c) (by omega) (by omega) rfl
    refine ⟨p0, _, p1, ?_⟩
    (conv=>whnf);(try(refine ⟨(rfl:(_:Heap)=_),?_⟩;(conv=>whnf)))
    (refine ⟨by decide, by decide, ?_⟩); (conv=>whnf);(try(refine ⟨(rfl:(_:Heap)=_),?_⟩;(conv=>whnf)))
    refine .inl ⟨rfl, LoopN.step ?_⟩
    conv => whnf
    (repeat (first | (refine ⟨fun _ => ?_, fun h => absurd h (by decide)⟩; (conv=>whnf);(try(refine ⟨(rfl:(_:Heap)=_),?_⟩;(conv=>whnf)))) | (refine ⟨fun h => absurd h (by decide), fun _ => ?_⟩; (conv=>whnf);(try(refine ⟨(rfl:(_:Heap)=_),?_⟩;(conv=>whnf))))))
    (refine ⟨by decide, by decide, ?_⟩); (conv=>whnf);(try(refine ⟨(rfl:(_:Heap)=_),?_⟩;(conv=>whnf)))
    split; (rotate_left; (rename_i hno; exact (hno _ (run_rem rfl rfl rfl hw)).elim)); (rename_i v e; cases e.symm.trans (run_rem rfl rfl rfl hw)); (conv=>whnf);(try(refine ⟨(rfl:(_:Heap)=_),?_⟩;(conv=>whnf)))
    split; (rotate_left; (rename_i hno; exact (hno _ (run_rem rfl rfl rfl hw)).elim)); (rename_i v e; cases e.symm.trans (run_rem rfl rfl rfl hw)); (conv=>whnf);(try(refine ⟨(rfl:(_:Heap)=_),?_⟩;(conv=>whnf)))
    obtain ⟨p2, p3⟩ := pick_row h1 (c := c) (by omega) (by omega) rfl
    refine ⟨p2, _, p3, ?_⟩
    (conv=>whnf);(try(refine ⟨(rfl:(_:Heap)=_),?_⟩;(conv=>whnf)))
    (refine ⟨by decide, by decide, ?_⟩); (conv=>whnf);(try(refine ⟨(rfl:(_:Heap)=_),?_⟩;(conv=>whnf)))
    refine .inl ⟨rfl, LoopN.step ?_⟩
    conv => whnf
    (repeat (first | (refine ⟨fun _ => ?_, fun h => absurd h (by decide)⟩; (conv=>whnf);(try(refine ⟨(rfl:(_:Heap)=_),?_⟩;(conv=>whnf)))) | (refine ⟨fun h => absurd h (by decide), fun _ => ?_⟩; (conv=>whnf);(try(refine ⟨(rfl:(_:Heap)=_),?_⟩;(conv=>whnf))))))
    refine .inr ⟨by simp, ?_⟩
    conv => whnf
    refine .inl ⟨⟨false, [], [], []⟩, by kernel_rfl, ?_⟩; (conv => whnf)
    (refine ⟨by decide, by decide, ?_⟩); (conv=>whnf);(try(refine ⟨(rfl:(_:Heap)=_),?_⟩;(conv=>whnf)))
    (refine ⟨by decide, by decide, ?_⟩); (conv=>whnf);(try(refine ⟨(rfl:(_:Heap)=_),?_⟩;(conv=>whnf)))
    exact ⟨.inl rfl, _, .refl _, rfl⟩
end Go.Wor
namespace Go.Wor
open Go.Ab Go.Proofs Go.Hy Go.Gat Go.Nam Go.Hos Go.Con Go.Sna
set_option linter.unusedVariables false
set_option linter.unusedSimpArgs false
set_option maxRecDepth 100000
set_option maxHeartbeats 4000000
abbrev goesV (m : Mac) (v : Ver) : Int × Int := foundV v.snap m.op.listen m.op.host m.op.path
def routeM (m : Mac) (v : Ver) : Mac := if (goesV m v).2 ≠ 0 then endsM m 2 else match v.snap.clusters[(goesV m v).1.toNat]? with
  | none => m
  | some c => if (drawV c m.op.d0 m.op.d1).2.2 ≠ 0 then endsM { m with cluster := (goesV m v).1 } 3
    else if c.policy = 1 then { m with cluster := (goesV m v).1, pc := 6 }
    else { m with cluster := (goesV m v).1, end_ := (drawV c m.op.d0 m.op.d1).1, other := (drawV c m.op.d0 m.op.d1).2.1, pc := 7 }
structure OkR (m : Mac) (v : Ver) : Prop where
  small : SmallS v.snap
  host : m.op.host.length < 1000000000000
  path : m.op.path.length < 1000000000000
  d0 : i64 m.op.d0
  d1 : i64 m.op.d1
  goes : (goesV m v).2 = 0 → 0 ≤ (goesV m v).1 ∧ ∃ c, v.snap.clusters[(goesV m v).1.toNat]? = some c ∧ c.health.length < 1000000000000
theorem hlt_le (c : Clu) : (hlt c).length ≤ c.health.length := idxB_len c.health c.health.length
theorem routeM_no {m : Mac} {v : Ver} (h : (goesV m v).2 ≠ 0) : routeM m v = endsM m 2 := if_pos h
theorem routeM_sick {m : Mac} {v : Ver} {c : Clu} (h : (goesV m v).2 = 0) (hc : v.snap.clusters[(goesV m v).1.toNat]? = some c) (hd : (drawV c m.op.d0 m.op.d1).2.2 ≠ 0) : routeM m v = endsM { m with cluster := (goesV m v).1 } 3 := by
  unfold routeM
  rw [if_neg (by omega), hc]
  exact if_pos hd
theorem routeM_one {m : Mac} {v : Ver} {c : Clu} (h : (goesV m v).2 = 0) (hc : v.snap.clusters[(goesV m v).1.toNat]? = some c) (hd : (drawV c m.op.d0 m.op.d1).2.2 = 0) (hp : c.policy = 1) : routeM m v = { m with cluster := (goesV m v).1, pc := 6 } := by
  unfold routeM
  rw [if_neg (by omega), hc]
  exact (if_neg (by omega)).trans (if_pos hp)
theorem routeM_two {m : Mac} {v : Ver} {c : Clu} (h : (goesV m v).2 = 0) (hc : v.snap.clusters[(goesV m v).1.toNat]? = some c) (hd : (drawV c m.op.d0 m.op.d1).2.2 = 0) (hp : c.policy ≠ 1) :
    routeM m v = { m with cluster := (goesV m v).1, end_ := (drawV c m.op.d0 m.op.d1).1, other := (drawV c m.op.d0 m.op.d1).2.1, pc := 7 } := by
  unfold routeM
  rw [if_neg (by omega), hc]
  exact (if_neg (by omega)).trans (if_neg hp)
theorem route_sound (w : Wor) (m : Mac) (v : Ver) (hv : AtV w m v) (h : OkR m v) : SoundAt Tryz.prog 154 [⟨1, 48, 8, [encW w], 0⟩, ⟨1, 37, 44, [encM (m)], 0⟩] [.agg [.ref 0 [] 8 0 0, .ref 1 [] 44 0 0]] (.tup []) [⟨1, 48, 8, [encW w], 0⟩, ⟨1, 37, 44, [encM (routeM m v)], 0⟩] := by
  have h0 := hv.v0
  have hr := hv.row
  refine of_wpX (fn := Tryz.f154) Tryz.func154 rfl (Nat.le_refl _) ?_; conv => whnf
  refine .inl ⟨⟨false, [], [], []⟩, by kernel_rfl, ?_⟩; (conv => whnf)
  (refine ⟨h0, _, hr, ?_⟩); (conv=>whnf);(try(refine ⟨(rfl:(_:Heap)=_),?_⟩;(conv=>whnf)))
  refine ⟨_, _, (find_sound v.snap m.op.listen m.op.host m.op.path h.small h.host h.path).frame rfl _, ?_⟩; (conv=>whnf);(try(refine ⟨(rfl:(_:Heap)=_),?_⟩;(conv=>whnf)))
  refine ⟨fun h1 => ?_, fun h1 => ?_⟩
  · have h2 : (goesV m v).2 ≠ 0 := by simpa using h1
    rw [routeM_no h2]
    (conv=>whnf);(try(refine ⟨(rfl:(_:Heap)=_),?_⟩;(conv=>whnf)))
    refine callPart [1] (ends_sound m 2) rfl rfl rfl rfl rfl rfl ?_; (conv=>whnf);(try(refine ⟨(rfl:(_:Heap)=_),?_⟩;(conv=>whnf)))
    exact ⟨.inl rfl, _, _, .refl _, rfl, Weak.covD 2 (by (conv => whnf); (repeat (refine ⟨rfl, ?_⟩; (conv => whnf))); exact trivial) rfl rfl rfl rfl rfl⟩
  · have h2 : (goesV m v).2 = 0 := by simpa using h1
    obtain ⟨g0, c, hc, hcl⟩ := h.goes h2
    (conv=>whnf);(try(refine ⟨(rfl:(_:Heap)=_),?_⟩;(conv=>whnf)))
    refine .inr ⟨⟨[0, 1, 6, 11, 12], [0, 1, 2], true⟩, by kernel_rfl, fun _ => rfl, _, ?_, fun t2 H2 h => h⟩; (conv => whnf)
    refine ⟨_, SoundAt.blind [0, 1] (cluster_sound w { m with cluster := (goesV m v).1 } v c ⟨hv.v0, hv.at_⟩ g0 hc) rfl rfl rfl rfl rfl rfl rfl (fun _ => rfl) (fun _ => rfl), ?_⟩; (conv => whnf)
    refine ⟨_, SoundAt.blind [] (draw_sound c m.op.d0 m.op.d1 h.d0 h.d1 hcl (hlt_le c)) rfl rfl rfl rfl rfl rfl rfl (fun _ => rfl) (fun _ => rfl), ?_⟩; (conv => whnf)
    (refine ⟨_, _, .refl _, ?_⟩); (conv => whnf)
    refine ⟨fun h3 => ?_, fun h3 => ?_⟩
    · have h4 : (drawV c m.op.d0 m.op.d1).2.2 ≠ 0 := by simpa using h3
      rw [routeM_sick h2 hc h4]
      (conv=>whnf);(try(refine ⟨(rfl:(_:Heap)=_),?_⟩;(conv=>whnf)))
      refine callPart [1] (ends_sound { m with cluster := (goesV m v).1 } 3) rfl rfl rfl rfl rfl rfl ?_; (conv=>whnf);(try(refine ⟨(rfl:(_:Heap)=_),?_⟩;(conv=>whnf)))
      exact ⟨.inr rfl, _, _, .refl _, rfl, Weak.covD 2 (by (conv => whnf); (repeat (refine ⟨rfl, ?_⟩; (conv => whnf))); exact trivial) rfl rfl rfl rfl rfl⟩
    · have h4 : (drawV c m.op.d0 m.op.d1).2.2 = 0 := by simpa using h3
      (conv=>whnf);(try(refine ⟨(rfl:(_:Heap)=_),?_⟩;(conv=>whnf)))
      refine callPart [0, 1] (cluster_sound w { m with cluster := (goesV m v).1 } v c ⟨hv.v0, hv.at_⟩ g0 hc) rfl rfl rfl rfl rfl rfl ?_; (conv=>whnf);(try(refine ⟨(rfl:(_:Heap)=_),?_⟩;(conv=>whnf)))
      refine ⟨fun h5 => ?_, fun h5 => ?_⟩
      · have h6 : c.policy = 1 := by simpa using h5
        rw [routeM_one h2 hc h4 h6]
        (conv=>whnf);(try(refine ⟨(rfl:(_:Heap)=_),?_⟩;(conv=>whnf)))
        exact ⟨.inr rfl, _, _, .refl _, rfl, Weak.covD 2 (by (conv => whnf); (repeat (refine ⟨rfl, ?_⟩; (conv => whnf))); exact trivial) rfl rfl rfl rfl rfl⟩
      · have h6 : c.policy ≠ 1 := by simpa using h5
        rw [routeM_two h2 hc h4 h6]
        (conv=>whnf);(try(refine ⟨(rfl:(_:Heap)=_),?_⟩;(conv=>whnf)))
        exact ⟨.inr rfl, _, _, .refl _, rfl, Weak.covD 2 (by (conv => whnf); (repeat (refine ⟨rfl, ?_⟩; (conv => whnf))); exact trivial) rfl rfl rfl rfl rfl⟩
theorem loadDrain_sound (w : Wor) (m : Mac) (v : Ver) (hv : AtV w m v) (h : OkR m v) {l : Lis} (l0 : 0 ≤ m.listen) (hl : w.listens[m.listen.toNat]? = some l) :
    SoundAt Tryz.prog 114 [⟨1, 48, 8, [encW w], 0⟩, ⟨1, 37, 44, [encM (m)], 0⟩] [.agg [.ref 0 [] 8 0 0, .ref 1 [] 44 0 0]] (Ce (if l.drain then { evO m 1 4 1 with point := true } else evO m 1 4 0)) [⟨1, 48, 8, [encW w], 0⟩, ⟨1, 37, 44, [encM (if l.drain then endsM m 5 else routeM m v)], 0⟩] := by
  have lr : (w.listens.map encL)[m.listen.toNat]? = some (encL l) := by rw [List.getElem?_map, hl]; rfl
  obtain ⟨ln, ld, la, lc⟩ := l
  cases ld
  all_goals
    refine of_wpX (fn := Tryz.f114) Tryz.func114 rfl (Nat.le_refl _) ?_; conv => whnf
    refine .inl ⟨⟨false, [], [], []⟩, by kernel_rfl, ?_⟩; (conv => whnf)
    (refine ⟨l0, _, lr, ?_⟩); (conv=>whnf);(try(refine ⟨(rfl:(_:Heap)=_),?_⟩;(conv=>whnf)))
  · (refine ⟨fun h => absurd (h.symm.trans rfl : true = false) (by decide), fun _ => ?_⟩); (conv=>whnf);(try(refine ⟨(rfl:(_:Heap)=_),?_⟩;(conv=>whnf)))
    refine callPart [0, 1] (route_sound w m v hv h) rfl rfl rfl rfl rfl rfl ?_; (conv=>whnf);(try(refine ⟨(rfl:(_:Heap)=_),?_⟩;(conv=>whnf)))
    have et : (routeM m v).thread = m.thread := by
      unfold routeM
      split
      · rfl
      · split
        · rfl
        · split
          · rfl
          · split <;> rfl
    have ee : evO m 1 4 0 = evO (routeM m v) 1 4 0 := by unfold evO; rw [et]
    have eg : (if ({ name := ln, drain := false, active := la, closed := lc } : Lis).drain then { evO m 1 4 1 with point := true } else evO m 1 4 0) = evO (routeM m v) 1 4 0 := ee
    rw [eg]
    refine callPart [1] (other_sound (routeM m v) 1 4 0) rfl rfl rfl rfl rfl rfl ?_; (conv=>whnf);(try(refine ⟨(rfl:(_:Heap)=_),?_⟩;(conv=>whnf)))
    exact ⟨.inl rfl, _, _, .refl _, rfl, Weak.covD 2 (by (conv => whnf); (repeat (refine ⟨rfl, ?_⟩; (conv => whnf))); exact trivial) rfl rfl rfl rfl rfl⟩
  · (refine ⟨fun _ => ?_, fun h => absurd (h.symm.trans rfl : false = true) (by decide)⟩); (conv=>whnf);(try(refine ⟨(rfl:(_:Heap)=_),?_⟩;(conv=>whnf)))
    refine callPart [1] (other_sound m 1 4 1) rfl rfl rfl rfl rfl rfl ?_; (conv=>whnf);(try(refine ⟨(rfl:(_:Heap)=_),?_⟩;(conv=>whnf)))
    refine callPart [1] (ends_sound m 5) rfl rfl rfl rfl rfl rfl ?_; (conv=>whnf);(try(refine ⟨(rfl:(_:Heap)=_),?_⟩;(conv=>whnf)))
    exact ⟨.inl rfl, _, _, .refl _, rfl, Weak.covD 2 (by (conv => whnf); (repeat (refine ⟨rfl, ?_⟩; (conv => whnf))); exact trivial) rfl rfl rfl rfl rfl⟩
end Go.Wor
namespace Go.Wor
open Go.Ab Go.Proofs Go.Hy Go.Gat Go.Nam Go.Hos Go.Con Go.Sna
set_option linter.unusedVariables false
set_option linter.unusedSimpArgs false
set_option maxRecDepth 100000
set_option maxHeartbeats 4000000
theorem clusterE_sound (w : Wor) (m : Mac) (v0 : Ver) (g0 : Gr) (e0 : En) (c : Clu) (hv : LnE w m v0 g0) (hc : v0.snap.clusters[m.cluster.toNat]? = some c) : SoundAt Tryz.prog 157 [⟨1, 48, 8, [[I w.epoch, I w.current, I w.lock, lI w.pins, .sl 2 [] 5 0 w.versions.length false, lL w.listens, lCo w.counts, lR w.limbo]], 0⟩, ⟨1, 37, 44, [encM (m)], 0⟩, ⟨1, 0, 5, (w.versions.map encV).set m.version.toNat ((encS v0.snap ++ [C.sl 3 [] 2 0 v0.groups.length false, Bo v0.freed])), 0⟩, ⟨1, 0, 2, (v0.groups.map encG).set m.cluster.toNat ([U g0.ticket, C.sl 4 [] 3 0 g0.ends.length false]), 0⟩, ⟨1, 0, 3, (g0.ends.map encE).set m.end_.toNat ([U e0.head, C.sl 5 [] 1 0 e0.next.length false, I e0.active]), 0⟩, ⟨2, 3, 1, e0.next.map encI, 0⟩] [.agg [.ref 0 [] 8 0 0, .ref 1 [] 44 0 0]] (Cc c) [⟨1, 48, 8, [[I w.epoch, I w.current, I w.lock, lI w.pins, .sl 2 [] 5 0 w.versions.length false, lL w.listens, lCo w.counts, lR w.limbo]], 0⟩, ⟨1, 37, 44, [encM (m)], 0⟩, ⟨1, 0, 5, (w.versions.map encV).set m.version.toNat ((encS v0.snap ++ [C.sl 3 [] 2 0 v0.groups.length false, Bo v0.freed])), 0⟩, ⟨1, 0, 2, (v0.groups.map encG).set m.cluster.toNat ([U g0.ticket, C.sl 4 [] 3 0 g0.ends.length false]), 0⟩, ⟨1, 0, 3, (g0.ends.map encE).set m.end_.toNat ([U e0.head, C.sl 5 [] 1 0 e0.next.length false, I e0.active]), 0⟩, ⟨2, 3, 1, e0.next.map encI, 0⟩] := by
  have h0 := hv.pv
  have g0' := hv.pg
  have lv : m.version.toNat < w.versions.length := hv.lv
  have cr : (v0.snap.clusters.map encC)[m.cluster.toNat]? = some (encC c) := by rw [List.getElem?_map, hc]; rfl
  have lowV : ∀ r ∈ (w.versions.map encV).set m.version.toNat ((encS v0.snap ++ [C.sl 3 [] 2 0 v0.groups.length false, Bo v0.freed])), ∀ c ∈ r, lowC 6 9 c = true := set_all (enc := encV) (fun _ => rfl) rfl _ _
  have lowG : ∀ r ∈ (v0.groups.map encG).set m.cluster.toNat ([U g0.ticket, C.sl 4 [] 3 0 g0.ends.length false]), ∀ c ∈ r, lowC 6 9 c = true := set_all (enc := encG) (fun _ => rfl) rfl _ _
  have lowE : ∀ r ∈ (g0.ends.map encE).set m.end_.toNat ([U e0.head, C.sl 5 [] 1 0 e0.next.length false, I e0.active]), ∀ c ∈ r, lowC 6 9 c = true := set_all (enc := encE) (fun _ => rfl) rfl _ _
  have e1 : 0 + m.version.toNat = m.version.toNat := Nat.zero_add _
  have gv : ((w.versions.map encV).set m.version.toNat ((encS v0.snap ++ [C.sl 3 [] 2 0 v0.groups.length false, Bo v0.freed])))[m.version.toNat]? = some ((encS v0.snap ++ [C.sl 3 [] 2 0 v0.groups.length false, Bo v0.freed])) := List.getElem?_set_self (by simpa using lv)
  refine of_wpX (fn := Tryz.f157) Tryz.func157 rfl (Nat.le_refl _) ?_; conv => whnf
  refine .inl ⟨⟨false, [], [], []⟩, by kernel_rfl, ?_⟩; (conv => whnf)
  refine ⟨h0, lv, ?_⟩
  (conv=>whnf);(try(refine ⟨(rfl:(_:Heap)=_),?_⟩;(conv=>whnf)))
  rw [e1]
  refine ⟨_, gv, (by show 2 + 1 ≤ 5; decide), ?_⟩
  (conv=>whnf);(try(refine ⟨(rfl:(_:Heap)=_),?_⟩;(conv=>whnf)))
  refine ⟨g0', _, cr, ?_⟩
  (conv=>whnf);(try(refine ⟨(rfl:(_:Heap)=_),?_⟩;(conv=>whnf)))
  exact ⟨.inl rfl, _, _, .refl _, rfl, Weak.covD 6 (by (conv => whnf); (repeat (refine ⟨rfl, ?_⟩; (conv => whnf))); exact trivial) rfl rfl rfl (rl_cons rfl (rl_cons rfl (rl_cons (rl_kept lowV) (rl_cons (rl_kept lowG) (rl_cons (rl_kept lowE) rfl))))) rfl⟩
theorem ownT_sound (w : Wor) (m : Mac) (v0 : Ver) (g0 : Gr) (e0 : En) (hv : LnE w m v0 g0) (x p a b c : Int) : SoundAt Tryz.prog 158 [⟨1, 48, 8, [[I w.epoch, I w.current, I w.lock, lI w.pins, .sl 2 [] 5 0 w.versions.length false, lL w.listens, lCo w.counts, lR w.limbo]], 0⟩, ⟨1, 37, 44, [encM ({ m with end_ := x, pc := p })], 0⟩, ⟨1, 0, 5, (w.versions.map encV).set m.version.toNat ((encS v0.snap ++ [C.sl 3 [] 2 0 v0.groups.length false, Bo v0.freed])), 0⟩, ⟨1, 0, 2, (v0.groups.map encG).set m.cluster.toNat ([U g0.ticket, C.sl 4 [] 3 0 g0.ends.length false]), 0⟩, ⟨1, 0, 3, (g0.ends.map encE).set m.end_.toNat ([U e0.head, C.sl 5 [] 1 0 e0.next.length false, I e0.active]), 0⟩, ⟨2, 3, 1, e0.next.map encI, 0⟩] [.agg [.ref 0 [] 8 0 0, .ref 1 [] 44 0 0], I a, I b, I c] (Ce (evV m v0 a b c)) [⟨1, 48, 8, [[I w.epoch, I w.current, I w.lock, lI w.pins, .sl 2 [] 5 0 w.versions.length false, lL w.listens, lCo w.counts, lR w.limbo]], 0⟩, ⟨1, 37, 44, [encM ({ m with end_ := x, pc := p })], 0⟩, ⟨1, 0, 5, (w.versions.map encV).set m.version.toNat ((encS v0.snap ++ [C.sl 3 [] 2 0 v0.groups.length false, Bo v0.freed])), 0⟩, ⟨1, 0, 2, (v0.groups.map encG).set m.cluster.toNat ([U g0.ticket, C.sl 4 [] 3 0 g0.ends.length false]), 0⟩, ⟨1, 0, 3, (g0.ends.map encE).set m.end_.toNat ([U e0.head, C.sl 5 [] 1 0 e0.next.length false, I e0.active]), 0⟩, ⟨2, 3, 1, e0.next.map encI, 0⟩] := by
  have h0 := hv.pv
  have lv : m.version.toNat < w.versions.length := hv.lv
  have e1 : 0 + m.version.toNat = m.version.toNat := Nat.zero_add _
  clear hv
  obtain ⟨sn, gs, fr⟩ := v0
  cases fr
  all_goals
    have ownV : ∀ b, ∀ r ∈ (w.versions.map encV).set m.version.toNat (encS sn ++ [C.sl 3 [] 2 0 gs.length false, Bo b]), ∀ c ∈ r, noOwn c = true := fun b => set_all (enc := encV) (fun _ => rfl) rfl _ _
    have ownG : ∀ r ∈ (gs.map encG).set m.cluster.toNat ([U g0.ticket, C.sl 4 [] 3 0 g0.ends.length false]), ∀ c ∈ r, noOwn c = true := set_all (enc := encG) (fun _ => rfl) rfl _ _
    have ownE : ∀ r ∈ (g0.ends.map encE).set m.end_.toNat ([U e0.head, C.sl 5 [] 1 0 e0.next.length false, I e0.active]), ∀ c ∈ r, noOwn c = true := set_all (enc := encE) (fun _ => rfl) rfl _ _
    have lowV : ∀ b, ∀ r ∈ (w.versions.map encV).set m.version.toNat (encS sn ++ [C.sl 3 [] 2 0 gs.length false, Bo b]), ∀ c ∈ r, lowC 6 9 c = true := fun b => set_all (enc := encV) (fun _ => rfl) rfl _ _
    have gv : ∀ b, ((w.versions.map encV).set m.version.toNat (encS sn ++ [C.sl 3 [] 2 0 gs.length false, Bo b]))[m.version.toNat]? = some (encS sn ++ [C.sl 3 [] 2 0 gs.length false, Bo b]) := fun b => List.getElem?_set_self (by simpa using lv)
    have lowG : ∀ r ∈ (gs.map encG).set m.cluster.toNat ([U g0.ticket, C.sl 4 [] 3 0 g0.ends.length false]), ∀ c ∈ r, lowC 6 9 c = true := set_all (enc := encG) (fun _ => rfl) rfl _ _
    have lowE : ∀ r ∈ (g0.ends.map encE).set m.end_.toNat ([U e0.head, C.sl 5 [] 1 0 e0.next.length false, I e0.active]), ∀ c ∈ r, lowC 6 9 c = true := set_all (enc := encE) (fun _ => rfl) rfl _ _
    refine of_wpX (fn := Tryz.f158) Tryz.func158 rfl (Nat.le_refl _) ?_; conv => whnf
    refine callPartX [1] [⟨1, 48, 8, [[I w.epoch, I w.current, I w.lock, lI w.pins, .sl 2 [] 5 0 w.versions.length false, lL w.listens, lCo w.counts, lR w.limbo]], 0⟩, ⟨1, 37, 44, [encM ({ m with end_ := x, pc := p })], 0⟩, ⟨1, 0, 5, (w.versions.map encV).set m.version.toNat (encS sn ++ [C.sl 3 [] 2 0 gs.length false, Bo _]), 0⟩, ⟨1, 0, 2, (gs.map encG).set m.cluster.toNat ([U g0.ticket, C.sl 4 [] 3 0 g0.ends.length false]), 0⟩, ⟨1, 0, 3, (g0.ends.map encE).set m.end_.toNat ([U e0.head, C.sl 5 [] 1 0 e0.next.length false, I e0.active]), 0⟩, ⟨2, 3, 1, e0.next.map encI, 0⟩, ⟨1, 154, 2, [[.ref 0 [] 8 0 0, .ref 1 [] 44 0 0]], 0⟩, ⟨1, 87, 23, [encEv noEve], 0⟩] (rx := Ce (evO m a b c)) (other_sound { m with end_ := x, pc := p } a b c) rfl rfl rfl rfl rfl (flat_cons rfl (flat_cons rfl (flat_cons (flat_kept (ownV _)) (flat_cons (flat_kept ownG) (flat_cons (flat_kept ownE) rfl))))) rfl rfl ?_
    (conv=>whnf);(try(refine ⟨(rfl:(_:Heap)=_),?_⟩;(conv=>whnf)))
    refine .inl ⟨⟨false, [6, 9, 11, 14, 17], [0, 1, 2, 6], []⟩, by kernel_rfl, ?_⟩; (conv => whnf)
    refine ⟨h0, lv, ?_⟩
    (conv=>whnf);(try(refine ⟨(rfl:(_:Heap)=_),?_⟩;(conv=>whnf)))
    rw [e1]
    refine ⟨_, gv _, (by show 4 + 1 ≤ 5; decide), ?_⟩
    (conv=>whnf);(try(refine ⟨(rfl:(_:Heap)=_),?_⟩;(conv=>whnf)))
    first | ((refine ⟨fun _ => ?_, fun h => absurd (h.symm.trans rfl : false = true) (by decide)⟩); (conv=>whnf);(try(refine ⟨(rfl:(_:Heap)=_),?_⟩;(conv=>whnf)))) | ((refine ⟨fun h => absurd (h.symm.trans rfl : true = false) (by decide), fun _ => ?_⟩); (conv=>whnf);(try(refine ⟨(rfl:(_:Heap)=_),?_⟩;(conv=>whnf))))
    repeat (refine ⟨rfl, ?_⟩; ((conv=>whnf);(try(refine ⟨(rfl:(_:Heap)=_),?_⟩;(conv=>whnf)))))
    exact ⟨.inl rfl, _, _, .refl _, rfl, Weak.covD 6 (by (conv => whnf); (repeat (refine ⟨rfl, ?_⟩; (conv => whnf))); exact trivial) rfl rfl rfl (rl_cons rfl (rl_cons rfl (rl_cons (rl_kept (lowV _)) (rl_cons (rl_kept lowG) (rl_cons (rl_kept lowE) rfl))))) rfl⟩
abbrev ticketM (m : Mac) (c : Clu) (t : Int) : Mac := { m with end_ := (turnV c t).1, pc := 9 }
abbrev tickG (g : Gr) : Gr := { g with ticket := IntKind.u64.wrap (g.ticket + 1) }
theorem ticket_sound (w : Wor) (m : Mac) (v0 : Ver) (g0 : Gr) (e0 : En) (c : Clu) (hv : LnE w m v0 g0) (hc : v0.snap.clusters[m.cluster.toNat]? = some c) (ht : u64 g0.ticket) (hl : c.health.length < 1000000000000) :
    SoundAt Tryz.prog 115 [⟨1, 48, 8, [[I w.epoch, I w.current, I w.lock, lI w.pins, .sl 2 [] 5 0 w.versions.length false, lL w.listens, lCo w.counts, lR w.limbo]], 0⟩, ⟨1, 37, 44, [encM (m)], 0⟩, ⟨1, 0, 5, (w.versions.map encV).set m.version.toNat ((encS v0.snap ++ [C.sl 3 [] 2 0 v0.groups.length false, Bo v0.freed])), 0⟩, ⟨1, 0, 2, (v0.groups.map encG).set m.cluster.toNat ([U g0.ticket, C.sl 4 [] 3 0 g0.ends.length false]), 0⟩, ⟨1, 0, 3, (g0.ends.map encE).set m.end_.toNat ([U e0.head, C.sl 5 [] 1 0 e0.next.length false, I e0.active]), 0⟩, ⟨2, 3, 1, e0.next.map encI, 0⟩] [.agg [.ref 0 [] 8 0 0, .ref 1 [] 44 0 0]] (Ce (evV m v0 3 6 (IntKind.i64.wrap g0.ticket))) [⟨1, 48, 8, [[I w.epoch, I w.current, I w.lock, lI w.pins, .sl 2 [] 5 0 w.versions.length false, lL w.listens, lCo w.counts, lR w.limbo]], 0⟩, ⟨1, 37, 44, [encM (ticketM m c g0.ticket)], 0⟩, ⟨1, 0, 5, (w.versions.map encV).set m.version.toNat ((encS v0.snap ++ [C.sl 3 [] 2 0 v0.groups.length false, Bo v0.freed])), 0⟩, ⟨1, 0, 2, (v0.groups.map encG).set m.cluster.toNat ([U (IntKind.u64.wrap (g0.ticket + 1)), C.sl 4 [] 3 0 g0.ends.length false]), 0⟩, ⟨1, 0, 3, (g0.ends.map encE).set m.end_.toNat ([U e0.head, C.sl 5 [] 1 0 e0.next.length false, I e0.active]), 0⟩, ⟨2, 3, 1, e0.next.map encI, 0⟩] := by
  have lg := hv.lg
  have ownV : ∀ r ∈ (w.versions.map encV).set m.version.toNat ((encS v0.snap ++ [C.sl 3 [] 2 0 v0.groups.length false, Bo v0.freed])), ∀ c ∈ r, noOwn c = true := set_all (enc := encV) (fun _ => rfl) rfl _ _
  have ownG : ∀ r ∈ (v0.groups.map encG).set m.cluster.toNat ([U g0.ticket, C.sl 4 [] 3 0 g0.ends.length false]), ∀ c ∈ r, noOwn c = true := set_all (enc := encG) (fun _ => rfl) rfl _ _
  have ownE : ∀ r ∈ (g0.ends.map encE).set m.end_.toNat ([U e0.head, C.sl 5 [] 1 0 e0.next.length false, I e0.active]), ∀ c ∈ r, noOwn c = true := set_all (enc := encE) (fun _ => rfl) rfl _ _
  have gg : ((v0.groups.map encG).set m.cluster.toNat ([U g0.ticket, C.sl 4 [] 3 0 g0.ends.length false]))[m.cluster.toNat]? = some ([U g0.ticket, C.sl 4 [] 3 0 g0.ends.length false]) := List.getElem?_set_self (by simpa using lg)
  refine of_wpX (fn := Tryz.f115) Tryz.func115 rfl (Nat.le_refl _) ?_; conv => whnf
  refine callPtrX [0, 1, 2, 3, 4, 5] [⟨1, 48, 8, [[I w.epoch, I w.current, I w.lock, lI w.pins, .sl 2 [] 5 0 w.versions.length false, lL w.listens, lCo w.counts, lR w.limbo]], 0⟩, ⟨1, 37, 44, [encM (m)], 0⟩, ⟨1, 0, 5, (w.versions.map encV).set m.version.toNat ((encS v0.snap ++ [C.sl 3 [] 2 0 v0.groups.length false, Bo v0.freed])), 0⟩, ⟨1, 0, 2, (v0.groups.map encG).set m.cluster.toNat ([U g0.ticket, C.sl 4 [] 3 0 g0.ends.length false]), 0⟩, ⟨1, 0, 3, (g0.ends.map encE).set m.end_.toNat ([U e0.head, C.sl 5 [] 1 0 e0.next.length false, I e0.active]), 0⟩, ⟨2, 3, 1, e0.next.map encI, 0⟩, ⟨1, 154, 2, [[.ref 0 [] 8 0 0, .ref 1 [] 44 0 0]], 0⟩, ⟨1, 87, 23, [encEv noEve], 0⟩] (rx := .ref 3 [] 2 m.cluster.toNat 0) (groupE_sound w m v0 g0 e0 hv) (flat_cons rfl (flat_cons rfl (flat_cons (flat_kept ownV) (flat_cons (flat_kept ownG) (flat_cons (flat_kept ownE) rfl))))) (by (show renOb _ _ :: renOb _ _ :: renOb _ ⟨1, 0, 5, _, 0⟩ :: renOb _ ⟨1, 0, 2, _, 0⟩ :: renOb _ ⟨1, 0, 3, _, 0⟩ :: _ = _); (rw [ren_kept (enc := encV) (fun _ => rfl), ren_kept (enc := encG) (fun _ => rfl), ren_kept (enc := encE) (fun _ => rfl)]); rfl) rfl rfl rfl (flat_cons rfl (flat_cons rfl (flat_cons (flat_kept ownV) (flat_cons (flat_kept ownG) (flat_cons (flat_kept ownE) rfl))))) (by (show mapOb _ _ :: mapOb _ _ :: mapOb _ ⟨1, 0, 5, _, 0⟩ :: mapOb _ ⟨1, 0, 2, _, 0⟩ :: mapOb _ ⟨1, 0, 3, _, 0⟩ :: _ = _); (rw [map_kept (enc := encV) (fun _ => rfl), map_kept (enc := encG) (fun _ => rfl), map_kept (enc := encE) (fun _ => rfl)]); rfl) rfl ?_
  (conv=>whnf);(try(refine ⟨(rfl:(_:Heap)=_),?_⟩;(conv=>whnf)))
  refine ⟨_, gg, (by show 0 + 1 ≤ 2; decide), ?_⟩
  (conv=>whnf);(try(refine ⟨(rfl:(_:Heap)=_),?_⟩;(conv=>whnf)))
  refine callPtrX [0, 1, 2, 3, 4, 5] [⟨1, 48, 8, [[I w.epoch, I w.current, I w.lock, lI w.pins, .sl 2 [] 5 0 w.versions.length false, lL w.listens, lCo w.counts, lR w.limbo]], 0⟩, ⟨1, 37, 44, [encM (m)], 0⟩, ⟨1, 0, 5, (w.versions.map encV).set m.version.toNat ((encS v0.snap ++ [C.sl 3 [] 2 0 v0.groups.length false, Bo v0.freed])), 0⟩, ⟨1, 0, 2, (v0.groups.map encG).set m.cluster.toNat ([U g0.ticket, C.sl 4 [] 3 0 g0.ends.length false]), 0⟩, ⟨1, 0, 3, (g0.ends.map encE).set m.end_.toNat ([U e0.head, C.sl 5 [] 1 0 e0.next.length false, I e0.active]), 0⟩, ⟨2, 3, 1, e0.next.map encI, 0⟩, ⟨1, 154, 2, [[.ref 0 [] 8 0 0, .ref 1 [] 44 0 0]], 0⟩, ⟨1, 87, 23, [encEv noEve], 0⟩] (rx := .ref 3 [] 2 m.cluster.toNat 0) (groupE_sound w m v0 g0 e0 hv) (flat_cons rfl (flat_cons rfl (flat_cons (flat_kept ownV) (flat_cons (flat_kept ownG) (flat_cons (flat_kept ownE) rfl))))) (by (show renOb _ _ :: renOb _ _ :: renOb _ ⟨1, 0, 5, _, 0⟩ :: renOb _ ⟨1, 0, 2, _, 0⟩ :: renOb _ ⟨1, 0, 3, _, 0⟩ :: _ = _); (rw [ren_kept (enc := encV) (fun _ => rfl), ren_kept (enc := encG) (fun _ => rfl), ren_kept (enc := encE) (fun _ => rfl)]); rfl) rfl rfl rfl (flat_cons rfl (flat_cons rfl (flat_cons (flat_kept ownV) (flat_cons (flat_kept ownG) (flat_cons (flat_kept ownE) rfl))))) (by (show mapOb _ _ :: mapOb _ _ :: mapOb _ ⟨1, 0, 5, _, 0⟩ :: mapOb _ ⟨1, 0, 2, _, 0⟩ :: mapOb _ ⟨1, 0, 3, _, 0⟩ :: _ = _); (rw [map_kept (enc := encV) (fun _ => rfl), map_kept (enc := encG) (fun _ => rfl), map_kept (enc := encE) (fun _ => rfl)]); rfl) rfl ?_
  (conv=>whnf);(try(refine ⟨(rfl:(_:Heap)=_),?_⟩;(conv=>whnf)))
  refine ⟨_, gg, (by show 0 + 1 ≤ 2; decide), ?_⟩
  (conv=>whnf);(try(refine ⟨(rfl:(_:Heap)=_),?_⟩;(conv=>whnf)))
  refine ⟨_, gg, rfl, ?_⟩
  (conv=>whnf);(try(refine ⟨(rfl:(_:Heap)=_),?_⟩;(conv=>whnf)))
  rw [List.set_set]
  have ownG2 : ∀ r ∈ (v0.groups.map encG).set m.cluster.toNat ([U (IntKind.u64.wrap (g0.ticket + 1)), C.sl 4 [] 3 0 g0.ends.length false]), ∀ c ∈ r, noOwn c = true := set_all (enc := encG) (fun _ => rfl) rfl _ _
  have lowV : ∀ r ∈ (w.versions.map encV).set m.version.toNat ((encS v0.snap ++ [C.sl 3 [] 2 0 v0.groups.length false, Bo v0.freed])), ∀ c ∈ r, lowC 6 9 c = true := set_all (enc := encV) (fun _ => rfl) rfl _ _
  have lowG : ∀ r ∈ (v0.groups.map encG).set m.cluster.toNat ([U (IntKind.u64.wrap (g0.ticket + 1)), C.sl 4 [] 3 0 g0.ends.length false]), ∀ c ∈ r, lowC 6 9 c = true := set_all (enc := encG) (fun _ => rfl) rfl _ _
  have lowE : ∀ r ∈ (g0.ends.map encE).set m.end_.toNat ([U e0.head, C.sl 5 [] 1 0 e0.next.length false, I e0.active]), ∀ c ∈ r, lowC 6 9 c = true := set_all (enc := encE) (fun _ => rfl) rfl _ _
  have hv2 : LnE w m v0 (tickG g0) := ⟨hv.pv, hv.lv, hv.pg, hv.lg, hv.pe, hv.le⟩
  refine .inl ⟨⟨true, [], [], [3, 5]⟩, by kernel_rfl, ?_⟩; (conv => whnf)
  refine callPartX [0, 1, 2, 3, 4, 5] [⟨1, 48, 8, [[I w.epoch, I w.current, I w.lock, lI w.pins, .sl 2 [] 5 0 w.versions.length false, lL w.listens, lCo w.counts, lR w.limbo]], 0⟩, ⟨1, 37, 44, [encM (m)], 0⟩, ⟨1, 0, 5, (w.versions.map encV).set m.version.toNat ((encS v0.snap ++ [C.sl 3 [] 2 0 v0.groups.length false, Bo v0.freed])), 0⟩, ⟨1, 0, 2, (v0.groups.map encG).set m.cluster.toNat ([U (IntKind.u64.wrap (g0.ticket + 1)), C.sl 4 [] 3 0 g0.ends.length false]), 0⟩, ⟨1, 0, 3, (g0.ends.map encE).set m.end_.toNat ([U e0.head, C.sl 5 [] 1 0 e0.next.length false, I e0.active]), 0⟩, ⟨2, 3, 1, e0.next.map encI, 0⟩, ⟨1, 154, 2, [[.ref 0 [] 8 0 0, .ref 1 [] 44 0 0]], 0⟩, ⟨1, 87, 23, [encEv noEve], 0⟩] (rx := Cc c) (clusterE_sound w m v0 (tickG g0) e0 c hv2 hc) (flat_cons rfl (flat_cons rfl (flat_cons (flat_kept ownV) (flat_cons (flat_kept ownG2) (flat_cons (flat_kept ownE) rfl))))) (by (show renOb _ _ :: renOb _ _ :: renOb _ ⟨1, 0, 5, _, 0⟩ :: renOb _ ⟨1, 0, 2, _, 0⟩ :: renOb _ ⟨1, 0, 3, _, 0⟩ :: _ = _); (rw [ren_kept (enc := encV) (fun _ => rfl), ren_kept (enc := encG) (fun _ => rfl), ren_kept (enc := encE) (fun _ => rfl)]); rfl) rfl rfl rfl (flat_cons rfl (flat_cons rfl (flat_cons (flat_kept ownV) (flat_cons (flat_kept ownG2) (flat_cons (flat_kept ownE) rfl))))) (by (show mapOb _ _ :: mapOb _ _ :: mapOb _ ⟨1, 0, 5, _, 0⟩ :: mapOb _ ⟨1, 0, 2, _, 0⟩ :: mapOb _ ⟨1, 0, 3, _, 0⟩ :: _ = _); (rw [map_kept (enc := encV) (fun _ => rfl), map_kept (enc := encG) (fun _ => rfl), map_kept (enc := encE) (fun _ => rfl)]); rfl) rfl ?_
  (conv=>whnf);(try(refine ⟨(rfl:(_:Heap)=_),?_⟩;(conv=>whnf)))
  refine callPartX [] [⟨1, 48, 8, [[I w.epoch, I w.current, I w.lock, lI w.pins, .sl 2 [] 5 0 w.versions.length false, lL w.listens, lCo w.counts, lR w.limbo]], 0⟩, ⟨1, 37, 44, [encM (m)], 0⟩, ⟨1, 0, 5, (w.versions.map encV).set m.version.toNat ((encS v0.snap ++ [C.sl 3 [] 2 0 v0.groups.length false, Bo v0.freed])), 0⟩, ⟨1, 0, 2, (v0.groups.map encG).set m.cluster.toNat ([U (IntKind.u64.wrap (g0.ticket + 1)), C.sl 4 [] 3 0 g0.ends.length false]), 0⟩, ⟨1, 0, 3, (g0.ends.map encE).set m.end_.toNat ([U e0.head, C.sl 5 [] 1 0 e0.next.length false, I e0.active]), 0⟩, ⟨2, 3, 1, e0.next.map encI, 0⟩, ⟨1, 154, 2, [[.ref 0 [] 8 0 0, .ref 1 [] 44 0 0]], 0⟩, ⟨1, 87, 23, [encEv noEve], 0⟩] (rx := .tup [I (turnV c g0.ticket).1, I (turnV c g0.ticket).2]) (turn_sound c g0.ticket ht hl (hlt_le c)) rfl rfl rfl rfl rfl (flat_cons rfl (flat_cons rfl (flat_cons (flat_kept ownV) (flat_cons (flat_kept ownG2) (flat_cons (flat_kept ownE) rfl))))) rfl rfl ?_
  (conv=>whnf);(try(refine ⟨(rfl:(_:Heap)=_),?_⟩;(conv=>whnf)))
  refine callPartX [0, 1, 2, 3, 4, 5] [⟨1, 48, 8, [[I w.epoch, I w.current, I w.lock, lI w.pins, .sl 2 [] 5 0 w.versions.length false, lL w.listens, lCo w.counts, lR w.limbo]], 0⟩, ⟨1, 37, 44, [encM (ticketM m c g0.ticket)], 0⟩, ⟨1, 0, 5, (w.versions.map encV).set m.version.toNat ((encS v0.snap ++ [C.sl 3 [] 2 0 v0.groups.length false, Bo v0.freed])), 0⟩, ⟨1, 0, 2, (v0.groups.map encG).set m.cluster.toNat ([U (IntKind.u64.wrap (g0.ticket + 1)), C.sl 4 [] 3 0 g0.ends.length false]), 0⟩, ⟨1, 0, 3, (g0.ends.map encE).set m.end_.toNat ([U e0.head, C.sl 5 [] 1 0 e0.next.length false, I e0.active]), 0⟩, ⟨2, 3, 1, e0.next.map encI, 0⟩, ⟨1, 154, 2, [[.ref 0 [] 8 0 0, .ref 1 [] 44 0 0]], 0⟩, ⟨1, 87, 23, [encEv noEve], 0⟩] (rx := Ce (evV m v0 3 6 (IntKind.i64.wrap g0.ticket))) (ownT_sound w m v0 (tickG g0) e0 hv2 (turnV c g0.ticket).1 9 3 6 (IntKind.i64.wrap g0.ticket)) (flat_cons rfl (flat_cons rfl (flat_cons (flat_kept ownV) (flat_cons (flat_kept ownG2) (flat_cons (flat_kept ownE) rfl))))) (by (show renOb _ _ :: renOb _ _ :: renOb _ ⟨1, 0, 5, _, 0⟩ :: renOb _ ⟨1, 0, 2, _, 0⟩ :: renOb _ ⟨1, 0, 3, _, 0⟩ :: _ = _); (rw [ren_kept (enc := encV) (fun _ => rfl), ren_kept (enc := encG) (fun _ => rfl), ren_kept (enc := encE) (fun _ => rfl)]); rfl) rfl rfl rfl (flat_cons rfl (flat_cons rfl (flat_cons (flat_kept ownV) (flat_cons (flat_kept ownG2) (flat_cons (flat_kept ownE) rfl))))) (by (show mapOb _ _ :: mapOb _ _ :: mapOb _ ⟨1, 0, 5, _, 0⟩ :: mapOb _ ⟨1, 0, 2, _, 0⟩ :: mapOb _ ⟨1, 0, 3, _, 0⟩ :: _ = _); (rw [map_kept (enc := encV) (fun _ => rfl), map_kept (enc := encG) (fun _ => rfl), map_kept (enc := encE) (fun _ => rfl)]); rfl) rfl ?_
  (conv=>whnf);(try(refine ⟨(rfl:(_:Heap)=_),?_⟩;(conv=>whnf)))
  exact ⟨.inl rfl, _, _, .refl _, rfl, Weak.covD 6 (by (conv => whnf); (repeat (refine ⟨rfl, ?_⟩; (conv => whnf))); exact trivial) rfl rfl rfl (rl_cons rfl (rl_cons rfl (rl_cons (rl_kept lowV) (rl_cons (rl_kept lowG) (rl_cons (rl_kept lowE) rfl))))) rfl⟩
end Go.Wor
namespace Go.Wor
open Go.Ab Go.Proofs Go.Hy Go.Gat Go.Nam Go.Hos Go.Con Go.Sna
set_option linter.unusedVariables false
set_option linter.unusedSimpArgs false
set_option maxRecDepth 100000
set_option maxHeartbeats 4000000
theorem casHeadYes_sound (w : Wor) (m : Mac) (v0 : Ver) (g0 : Gr) (e0 : En) (hv : LnE w m v0 g0) (hw : u64 m.word) (l0 : -1 ≤ m.link) (l1 : m.link ≤ 2147483646) (hne : e0.head = m.word) :
    SoundAt Tryz.prog 120 [⟨1, 48, 8, [[I w.epoch, I w.current, I w.lock, lI w.pins, .sl 2 [] 5 0 w.versions.length false, lL w.listens, lCo w.counts, lR w.limbo]], 0⟩, ⟨1, 37, 44, [encM (m)], 0⟩, ⟨1, 0, 5, (w.versions.map encV).set m.version.toNat ((encS v0.snap ++ [C.sl 3 [] 2 0 v0.groups.length false, Bo v0.freed])), 0⟩, ⟨1, 0, 2, (v0.groups.map encG).set m.cluster.toNat ([U g0.ticket, C.sl 4 [] 3 0 g0.ends.length false]), 0⟩, ⟨1, 0, 3, (g0.ends.map encE).set m.end_.toNat ([U e0.head, C.sl 5 [] 1 0 e0.next.length false, I e0.active]), 0⟩, ⟨2, 3, 1, e0.next.map encI, 0⟩] [.agg [.ref 0 [] 8 0 0, .ref 1 [] 44 0 0]] (Ce (evV m v0 4 8 m.slot)) [⟨1, 48, 8, [[I w.epoch, I w.current, I w.lock, lI w.pins, .sl 2 [] 5 0 w.versions.length false, lL w.listens, lCo w.counts, lR w.limbo]], 0⟩, ⟨1, 37, 44, [encM ({ m with pc := 12 })], 0⟩, ⟨1, 0, 5, (w.versions.map encV).set m.version.toNat ((encS v0.snap ++ [C.sl 3 [] 2 0 v0.groups.length false, Bo v0.freed])), 0⟩, ⟨1, 0, 2, (v0.groups.map encG).set m.cluster.toNat ([U g0.ticket, C.sl 4 [] 3 0 g0.ends.length false]), 0⟩, ⟨1, 0, 3, (g0.ends.map encE).set m.end_.toNat ([U (Slp.nextT m.word m.link), C.sl 5 [] 1 0 e0.next.length false, I e0.active]), 0⟩, ⟨2, 3, 1, e0.next.map encI, 0⟩] := by
  (have le := hv.le); (have ownV : ∀ r ∈ (w.versions.map encV).set m.version.toNat ((encS v0.snap ++ [C.sl 3 [] 2 0 v0.groups.length false, Bo v0.freed])), ∀ c ∈ r, noOwn c = true := set_all (enc := encV) (fun _ => rfl) rfl _ _); (have ownG : ∀ r ∈ (v0.groups.map encG).set m.cluster.toNat ([U g0.ticket, C.sl 4 [] 3 0 g0.ends.length false]), ∀ c ∈ r, noOwn c = true := set_all (enc := encG) (fun _ => rfl) rfl _ _); (have ownE : ∀ r ∈ (g0.ends.map encE).set m.end_.toNat ([U e0.head, C.sl 5 [] 1 0 e0.next.length false, I e0.active]), ∀ c ∈ r, noOwn c = true := set_all (enc := encE) (fun _ => rfl) rfl _ _); (have lowV : ∀ r ∈ (w.versions.map encV).set m.version.toNat ((encS v0.snap ++ [C.sl 3 [] 2 0 v0.groups.length false, Bo v0.freed])), ∀ c ∈ r, lowC 6 9 c = true := set_all (enc := encV) (fun _ => rfl) rfl _ _); (have lowG : ∀ r ∈ (v0.groups.map encG).set m.cluster.toNat ([U g0.ticket, C.sl 4 [] 3 0 g0.ends.length false]), ∀ c ∈ r, lowC 6 9 c = true := set_all (enc := encG) (fun _ => rfl) rfl _ _)
  have lowE : ∀ r ∈ (g0.ends.map encE).set m.end_.toNat ([U (Slp.nextT m.word m.link), C.sl 5 [] 1 0 e0.next.length false, I e0.active]), ∀ c ∈ r, lowC 6 9 c = true := set_all (enc := encE) (fun _ => rfl) rfl _ _
  have ownE2 : ∀ r ∈ (g0.ends.map encE).set m.end_.toNat ([U (Slp.nextT m.word m.link), C.sl 5 [] 1 0 e0.next.length false, I e0.active]), ∀ c ∈ r, noOwn c = true := set_all (enc := encE) (fun _ => rfl) rfl _ _
  have ge : ((g0.ends.map encE).set m.end_.toNat ([U e0.head, C.sl 5 [] 1 0 e0.next.length false, I e0.active]))[m.end_.toNat]? = some ([U e0.head, C.sl 5 [] 1 0 e0.next.length false, I e0.active]) := List.getElem?_set_self (by simpa using le)
  refine of_wpX (fn := Tryz.f120) Tryz.func120 rfl (Nat.le_refl _) ?_; conv => whnf
  refine .inl ⟨⟨true, [], [], [8]⟩, by kernel_rfl, ?_⟩; (conv => whnf)
  refine callPartX [] [⟨1, 48, 8, [[I w.epoch, I w.current, I w.lock, lI w.pins, .sl 2 [] 5 0 w.versions.length false, lL w.listens, lCo w.counts, lR w.limbo]], 0⟩, ⟨1, 37, 44, [encM (m)], 0⟩, ⟨1, 0, 5, (w.versions.map encV).set m.version.toNat ((encS v0.snap ++ [C.sl 3 [] 2 0 v0.groups.length false, Bo v0.freed])), 0⟩, ⟨1, 0, 2, (v0.groups.map encG).set m.cluster.toNat ([U g0.ticket, C.sl 4 [] 3 0 g0.ends.length false]), 0⟩, ⟨1, 0, 3, (g0.ends.map encE).set m.end_.toNat ([U e0.head, C.sl 5 [] 1 0 e0.next.length false, I e0.active]), 0⟩, ⟨2, 3, 1, e0.next.map encI, 0⟩, ⟨1, 154, 2, [[.ref 0 [] 8 0 0, .ref 1 [] 44 0 0]], 0⟩, ⟨1, 87, 23, [encEv noEve], 0⟩] (rx := .tup [U (Slp.nextT m.word m.link), I 0]) (Slp.next_sound m.word m.link hw l0 l1) rfl rfl rfl rfl rfl (flat_cons rfl (flat_cons rfl (flat_cons (flat_kept ownV) (flat_cons (flat_kept ownG) (flat_cons (flat_kept ownE) rfl))))) rfl rfl ?_
  (conv=>whnf);(try(refine ⟨(rfl:(_:Heap)=_),?_⟩;(conv=>whnf)))
  refine .inl ⟨⟨true, [], [], [1]⟩, by kernel_rfl, ?_⟩; (conv => whnf)
  refine callPartX [0, 1, 2, 3, 4, 5] [⟨1, 48, 8, [[I w.epoch, I w.current, I w.lock, lI w.pins, .sl 2 [] 5 0 w.versions.length false, lL w.listens, lCo w.counts, lR w.limbo]], 0⟩, ⟨1, 37, 44, [encM (m)], 0⟩, ⟨1, 0, 5, (w.versions.map encV).set m.version.toNat ((encS v0.snap ++ [C.sl 3 [] 2 0 v0.groups.length false, Bo v0.freed])), 0⟩, ⟨1, 0, 2, (v0.groups.map encG).set m.cluster.toNat ([U g0.ticket, C.sl 4 [] 3 0 g0.ends.length false]), 0⟩, ⟨1, 0, 3, (g0.ends.map encE).set m.end_.toNat ([U e0.head, C.sl 5 [] 1 0 e0.next.length false, I e0.active]), 0⟩, ⟨2, 3, 1, e0.next.map encI, 0⟩, ⟨1, 154, 2, [[.ref 0 [] 8 0 0, .ref 1 [] 44 0 0]], 0⟩, ⟨1, 87, 23, [encEv noEve], 0⟩] (rx := .ref 4 [] 3 m.end_.toNat 0) (endE_sound w m v0 g0 e0 hv) (flat_cons rfl (flat_cons rfl (flat_cons (flat_kept ownV) (flat_cons (flat_kept ownG) (flat_cons (flat_kept ownE) rfl))))) (by (show renOb _ _ :: renOb _ _ :: renOb _ ⟨1, 0, 5, _, 0⟩ :: renOb _ ⟨1, 0, 2, _, 0⟩ :: renOb _ ⟨1, 0, 3, _, 0⟩ :: _ = _); (rw [ren_kept (enc := encV) (fun _ => rfl), ren_kept (enc := encG) (fun _ => rfl), ren_kept (enc := encE) (fun _ => rfl)]); rfl) rfl rfl rfl (flat_cons rfl (flat_cons rfl (flat_cons (flat_kept ownV) (flat_cons (flat_kept ownG) (flat_cons (flat_kept ownE) rfl))))) (by (show mapOb _ _ :: mapOb _ _ :: mapOb _ ⟨1, 0, 5, _, 0⟩ :: mapOb _ ⟨1, 0, 2, _, 0⟩ :: mapOb _ ⟨1, 0, 3, _, 0⟩ :: _ = _); (rw [map_kept (enc := encV) (fun _ => rfl), map_kept (enc := encG) (fun _ => rfl), map_kept (enc := encE) (fun _ => rfl)]); rfl) rfl ?_
  (conv=>whnf);(try(refine ⟨(rfl:(_:Heap)=_),?_⟩;(conv=>whnf)))
  refine ⟨_, ge, (by show 0 + 1 ≤ 3; decide), ?_⟩
  (conv=>whnf);(try(refine ⟨(rfl:(_:Heap)=_),?_⟩;(conv=>whnf)))
  refine ⟨fun h => absurd h (by simp [hne]), fun _ => ?_⟩
  (conv=>whnf);(try(refine ⟨(rfl:(_:Heap)=_),?_⟩;(conv=>whnf)))
  (repeat (first | (refine ⟨fun _ => ?_, fun h => absurd h (by decide)⟩; (conv=>whnf);(try(refine ⟨(rfl:(_:Heap)=_),?_⟩;(conv=>whnf)))) | (refine ⟨fun h => absurd h (by decide), fun _ => ?_⟩; (conv=>whnf);(try(refine ⟨(rfl:(_:Heap)=_),?_⟩;(conv=>whnf))))))
  refine callPtrX [0, 1, 2, 3, 4, 5] [⟨1, 48, 8, [[I w.epoch, I w.current, I w.lock, lI w.pins, .sl 2 [] 5 0 w.versions.length false, lL w.listens, lCo w.counts, lR w.limbo]], 0⟩, ⟨1, 37, 44, [encM (m)], 0⟩, ⟨1, 0, 5, (w.versions.map encV).set m.version.toNat ((encS v0.snap ++ [C.sl 3 [] 2 0 v0.groups.length false, Bo v0.freed])), 0⟩, ⟨1, 0, 2, (v0.groups.map encG).set m.cluster.toNat ([U g0.ticket, C.sl 4 [] 3 0 g0.ends.length false]), 0⟩, ⟨1, 0, 3, (g0.ends.map encE).set m.end_.toNat ([U e0.head, C.sl 5 [] 1 0 e0.next.length false, I e0.active]), 0⟩, ⟨2, 3, 1, e0.next.map encI, 0⟩, ⟨1, 154, 2, [[.ref 0 [] 8 0 0, .ref 1 [] 44 0 0]], 0⟩, ⟨1, 87, 23, [encEv noEve], 0⟩] (rx := .ref 4 [] 3 m.end_.toNat 0) (endE_sound w m v0 g0 e0 hv) (flat_cons rfl (flat_cons rfl (flat_cons (flat_kept ownV) (flat_cons (flat_kept ownG) (flat_cons (flat_kept ownE) rfl))))) (by (show renOb _ _ :: renOb _ _ :: renOb _ ⟨1, 0, 5, _, 0⟩ :: renOb _ ⟨1, 0, 2, _, 0⟩ :: renOb _ ⟨1, 0, 3, _, 0⟩ :: _ = _); (rw [ren_kept (enc := encV) (fun _ => rfl), ren_kept (enc := encG) (fun _ => rfl), ren_kept (enc := encE) (fun _ => rfl)]); rfl) rfl rfl rfl (flat_cons rfl (flat_cons rfl (flat_cons (flat_kept ownV) (flat_cons (flat_kept ownG) (flat_cons (flat_kept ownE) rfl))))) (by (show mapOb _ _ :: mapOb _ _ :: mapOb _ ⟨1, 0, 5, _, 0⟩ :: mapOb _ ⟨1, 0, 2, _, 0⟩ :: mapOb _ ⟨1, 0, 3, _, 0⟩ :: _ = _); (rw [map_kept (enc := encV) (fun _ => rfl), map_kept (enc := encG) (fun _ => rfl), map_kept (enc := encE) (fun _ => rfl)]); rfl) rfl ?_
  (conv=>whnf);(try(refine ⟨(rfl:(_:Heap)=_),?_⟩;(conv=>whnf)))
  refine ⟨_, ge, rfl, ?_⟩
  (conv=>whnf);(try(refine ⟨(rfl:(_:Heap)=_),?_⟩;(conv=>whnf)))
  rw [List.set_set]
  (conv=>whnf);(try(refine ⟨(rfl:(_:Heap)=_),?_⟩;(conv=>whnf)))
  refine .inl ⟨⟨true, [], [], [5]⟩, by kernel_rfl, ?_⟩; (conv => whnf)
  refine callPartX [0, 1, 2, 3, 4, 5] [⟨1, 48, 8, [[I w.epoch, I w.current, I w.lock, lI w.pins, .sl 2 [] 5 0 w.versions.length false, lL w.listens, lCo w.counts, lR w.limbo]], 0⟩, ⟨1, 37, 44, [encM ({ m with pc := 12 })], 0⟩, ⟨1, 0, 5, (w.versions.map encV).set m.version.toNat ((encS v0.snap ++ [C.sl 3 [] 2 0 v0.groups.length false, Bo v0.freed])), 0⟩, ⟨1, 0, 2, (v0.groups.map encG).set m.cluster.toNat ([U g0.ticket, C.sl 4 [] 3 0 g0.ends.length false]), 0⟩, ⟨1, 0, 3, (g0.ends.map encE).set m.end_.toNat ([U (Slp.nextT m.word m.link), C.sl 5 [] 1 0 e0.next.length false, I e0.active]), 0⟩, ⟨2, 3, 1, e0.next.map encI, 0⟩, ⟨1, 154, 2, [[.ref 0 [] 8 0 0, .ref 1 [] 44 0 0]], 0⟩, ⟨1, 87, 23, [encEv noEve], 0⟩] (rx := Ce (evV m v0 4 8 m.slot)) (ownT_sound w m v0 g0 { e0 with head := Slp.nextT m.word m.link } hv m.end_ 12 4 8 m.slot) (flat_cons rfl (flat_cons rfl (flat_cons (flat_kept ownV) (flat_cons (flat_kept ownG) (flat_cons (flat_kept ownE2) rfl))))) (by (show renOb _ _ :: renOb _ _ :: renOb _ ⟨1, 0, 5, _, 0⟩ :: renOb _ ⟨1, 0, 2, _, 0⟩ :: renOb _ ⟨1, 0, 3, _, 0⟩ :: _ = _); (rw [ren_kept (enc := encV) (fun _ => rfl), ren_kept (enc := encG) (fun _ => rfl), ren_kept (enc := encE) (fun _ => rfl)]); rfl) rfl rfl rfl (flat_cons rfl (flat_cons rfl (flat_cons (flat_kept ownV) (flat_cons (flat_kept ownG) (flat_cons (flat_kept ownE2) rfl))))) (by (show mapOb _ _ :: mapOb _ _ :: mapOb _ ⟨1, 0, 5, _, 0⟩ :: mapOb _ ⟨1, 0, 2, _, 0⟩ :: mapOb _ ⟨1, 0, 3, _, 0⟩ :: _ = _); (rw [map_kept (enc := encV) (fun _ => rfl), map_kept (enc := encG) (fun _ => rfl), map_kept (enc := encE) (fun _ => rfl)]); rfl) rfl ?_
  (conv=>whnf);(try(refine ⟨(rfl:(_:Heap)=_),?_⟩;(conv=>whnf)))
  exact ⟨.inl rfl, _, _, .refl _, rfl, Weak.covD 6 (by (conv => whnf); (repeat (refine ⟨rfl, ?_⟩; (conv => whnf))); exact trivial) rfl rfl rfl (rl_cons rfl (rl_cons rfl (rl_cons (rl_kept lowV) (rl_cons (rl_kept lowG) (rl_cons (rl_kept lowE) rfl))))) rfl⟩
end Go.Wor
namespace Go.Wor
open Go.Ab Go.Proofs Go.Hy
set_option linter.unusedVariables false
set_option linter.unusedSimpArgs false
set_option maxRecDepth 100000
set_option maxHeartbeats 4000000
abbrev nf : C := .v .nilFunc
abbrev pf (f : FuncId) : C := .fn f [] []
abbrev tabC : List C := [nf, nf, nf, pf 112, pf 113, pf 114, pf 115, pf 116, pf 117, pf 118, pf 119, pf 120, pf 121, nf, nf, nf, nf, nf, nf, nf, pf 122, pf 123, pf 124, pf 125]
theorem table_sound : SoundAt Tryz.prog 82 [] [] (.agg tabC) [] := by
  refine SoundAt.of_wpA1 (fn := Tryz.f82) Tryz.func82 rfl ?_
  conv => whnf
  exact ⟨.inl rfl, _, .refl _, rfl⟩
end Go.Wor
namespace Go.Wor
open Go.Ab Go.Proofs Go.Hy Go.Gat Go.Nam Go.Hos Go.Con Go.Sna
set_option linter.unusedVariables false
set_option linter.unusedSimpArgs false
set_option maxRecDepth 100000
set_option maxHeartbeats 4000000
theorem h3_sound {w w' : Wor} {m m' : Mac} {e : Eve} (sw : SmWor w) (ok : OkW w) (hl : i64 m.listen) (hpc : m.pc = 3) (hs : suitsV w m = true) (h : SoundAt Tryz.prog 112 [⟨1, 48, 8, [encW w], 0⟩, ⟨1, 37, 44, [encM m], 0⟩] [.agg [.ref 0 [] 8 0 0, .ref 1 [] 44 0 0]] (Ce e) [⟨1, 48, 8, [encW w'], 0⟩, ⟨1, 37, 44, [encM m'], 0⟩]) : SoundAt Tryz.prog 62 [] [Cw w, Cm m] (.tup [Cw w', Cm m', Ce e]) [] := by
  by_cases hn : m.listen < 0
  all_goals
    refine SoundAt.of_wpA1 (fn := Tryz.f62) Tryz.func62 rfl ?_
    conv => whnf
    (repeat (first | (refine ⟨fun _ => ?_, ?_⟩; rotate_left 1; (focus (intro h; first | (simp [hpc] at h; done) | (have h := of_decide_eq_true h; omega) | (have h := of_decide_eq_false h; omega))); ((conv=>whnf);(try(refine ⟨(rfl:(_:Heap)=_),?_⟩;(conv=>whnf))))) | (refine ⟨?_, fun _ => ?_⟩; (focus (intro h; first | (simp [hpc] at h; done) | (have h := of_decide_eq_true h; omega) | (have h := of_decide_eq_false h; omega))); ((conv=>whnf);(try(refine ⟨(rfl:(_:Heap)=_),?_⟩;(conv=>whnf)))))))
    refine ⟨_, _, (suits_sound w m ok hl).frame rfl _, ?_⟩; (conv=>whnf);(try(refine ⟨(rfl:(_:Heap)=_),?_⟩;(conv=>whnf)))
    refine ⟨fun _ => ?_, fun h => absurd ((hs).symm.trans h : true = false) (by decide)⟩; (conv=>whnf);(try(refine ⟨(rfl:(_:Heap)=_),?_⟩;(conv=>whnf)))
    (repeat (first | (refine ⟨fun _ => ?_, fun h => absurd h (by decide)⟩; (conv=>whnf);(try(refine ⟨(rfl:(_:Heap)=_),?_⟩;(conv=>whnf)))) | (refine ⟨fun h => absurd h (by decide), fun _ => ?_⟩; (conv=>whnf);(try(refine ⟨(rfl:(_:Heap)=_),?_⟩;(conv=>whnf))))))
    (repeat (first | (refine ⟨fun _ => ?_, ?_⟩; rotate_left 1; (focus (intro h; first | (simp [hpc] at h; done) | (have h := of_decide_eq_true h; omega) | (have h := of_decide_eq_false h; omega))); ((conv=>whnf);(try(refine ⟨(rfl:(_:Heap)=_),?_⟩;(conv=>whnf))))) | (refine ⟨?_, fun _ => ?_⟩; (focus (intro h; first | (simp [hpc] at h; done) | (have h := of_decide_eq_true h; omega) | (have h := of_decide_eq_false h; omega))); ((conv=>whnf);(try(refine ⟨(rfl:(_:Heap)=_),?_⟩;(conv=>whnf)))))))
    refine .inl ⟨⟨true, [2], [1], [0]⟩, by kernel_rfl, ?_⟩; (conv => whnf)
    refine ⟨_, _, (table_sound).frame rfl _, ?_⟩; (conv=>whnf);(try(refine ⟨(rfl:(_:Heap)=_),?_⟩;(conv=>whnf)))
    (repeat (refine ⟨rfl, ?_⟩; ((conv=>whnf);(try(refine ⟨(rfl:(_:Heap)=_),?_⟩;(conv=>whnf))))))
    (refine ⟨by omega, by omega, pf 112, by rw [hpc]; rfl, ?_⟩); (conv=>whnf);(try(refine ⟨(rfl:(_:Heap)=_),?_⟩;(conv=>whnf)))
    (repeat (first | (refine ⟨fun _ => ?_, fun h => absurd h (by decide)⟩; (conv=>whnf);(try(refine ⟨(rfl:(_:Heap)=_),?_⟩;(conv=>whnf)))) | (refine ⟨fun h => absurd h (by decide), fun _ => ?_⟩; (conv=>whnf);(try(refine ⟨(rfl:(_:Heap)=_),?_⟩;(conv=>whnf))))))
    refine ⟨_, _, (clone_sound w sw).frame rfl _, ?_⟩; (conv=>whnf);(try(refine ⟨(rfl:(_:Heap)=_),?_⟩;(conv=>whnf)))
    refine callPart [5, 6] (h) rfl rfl rfl rfl rfl rfl ?_; (conv=>whnf);(try(refine ⟨(rfl:(_:Heap)=_),?_⟩;(conv=>whnf)))
    refine .inl ⟨⟨false, [0, 1, 2], [5, 6, 7], []⟩, by kernel_rfl, ?_⟩; (conv => whnf)
    repeat (refine ⟨rfl, ?_⟩; ((conv=>whnf);(try(refine ⟨(rfl:(_:Heap)=_),?_⟩;(conv=>whnf)))))
    exact ⟨.inl rfl, _, .refl _, rfl⟩
theorem h5_sound {w w' : Wor} {m m' : Mac} {e : Eve} (sw : SmWor w) (ok : OkW w) (hl : i64 m.listen) (hpc : m.pc = 5) (hs : suitsV w m = true) (hli : 0 ≤ m.listen)(h : SoundAt Tryz.prog 114 [⟨1, 48, 8, [encW w], 0⟩, ⟨1, 37, 44, [encM m], 0⟩] [.agg [.ref 0 [] 8 0 0, .ref 1 [] 44 0 0]] (Ce e) [⟨1, 48, 8, [encW w'], 0⟩, ⟨1, 37, 44, [encM m'], 0⟩]) : SoundAt Tryz.prog 62 [] [Cw w, Cm m] (.tup [Cw w', Cm m', Ce e]) [] := by
  have hn : ¬ m.listen < 0 := by omega
  all_goals
    refine SoundAt.of_wpA1 (fn := Tryz.f62) Tryz.func62 rfl ?_
    conv => whnf
    (repeat (first | (refine ⟨fun _ => ?_, ?_⟩; rotate_left 1; (focus (intro h; first | (simp [hpc] at h; done) | (have h := of_decide_eq_true h; omega) | (have h := of_decide_eq_false h; omega))); ((conv=>whnf);(try(refine ⟨(rfl:(_:Heap)=_),?_⟩;(conv=>whnf))))) | (refine ⟨?_, fun _ => ?_⟩; (focus (intro h; first | (simp [hpc] at h; done) | (have h := of_decide_eq_true h; omega) | (have h := of_decide_eq_false h; omega))); ((conv=>whnf);(try(refine ⟨(rfl:(_:Heap)=_),?_⟩;(conv=>whnf)))))))
    refine ⟨_, _, (suits_sound w m ok hl).frame rfl _, ?_⟩; (conv=>whnf);(try(refine ⟨(rfl:(_:Heap)=_),?_⟩;(conv=>whnf)))
    refine ⟨fun _ => ?_, fun h => absurd ((hs).symm.trans h : true = false) (by decide)⟩; (conv=>whnf);(try(refine ⟨(rfl:(_:Heap)=_),?_⟩;(conv=>whnf)))
    (repeat (first | (refine ⟨fun _ => ?_, fun h => absurd h (by decide)⟩; (conv=>whnf);(try(refine ⟨(rfl:(_:Heap)=_),?_⟩;(conv=>whnf)))) | (refine ⟨fun h => absurd h (by decide), fun _ => ?_⟩; (conv=>whnf);(try(refine ⟨(rfl:(_:Heap)=_),?_⟩;(conv=>whnf))))))
    (repeat (first | (refine ⟨fun _ => ?_, ?_⟩; rotate_left 1; (focus (intro h; first | (simp [hpc] at h; done) | (have h := of_decide_eq_true h; omega) | (have h := of_decide_eq_false h; omega))); ((conv=>whnf);(try(refine ⟨(rfl:(_:Heap)=_),?_⟩;(conv=>whnf))))) | (refine ⟨?_, fun _ => ?_⟩; (focus (intro h; first | (simp [hpc] at h; done) | (have h := of_decide_eq_true h; omega) | (have h := of_decide_eq_false h; omega))); ((conv=>whnf);(try(refine ⟨(rfl:(_:Heap)=_),?_⟩;(conv=>whnf)))))))
    refine .inl ⟨⟨true, [2], [1], [0]⟩, by kernel_rfl, ?_⟩; (conv => whnf)
    refine ⟨_, _, (table_sound).frame rfl _, ?_⟩; (conv=>whnf);(try(refine ⟨(rfl:(_:Heap)=_),?_⟩;(conv=>whnf)))
    (repeat (refine ⟨rfl, ?_⟩; ((conv=>whnf);(try(refine ⟨(rfl:(_:Heap)=_),?_⟩;(conv=>whnf))))))
    (refine ⟨by omega, by omega, pf 114, by rw [hpc]; rfl, ?_⟩); (conv=>whnf);(try(refine ⟨(rfl:(_:Heap)=_),?_⟩;(conv=>whnf)))
    (repeat (first | (refine ⟨fun _ => ?_, fun h => absurd h (by decide)⟩; (conv=>whnf);(try(refine ⟨(rfl:(_:Heap)=_),?_⟩;(conv=>whnf)))) | (refine ⟨fun h => absurd h (by decide), fun _ => ?_⟩; (conv=>whnf);(try(refine ⟨(rfl:(_:Heap)=_),?_⟩;(conv=>whnf))))))
    refine ⟨_, _, (clone_sound w sw).frame rfl _, ?_⟩; (conv=>whnf);(try(refine ⟨(rfl:(_:Heap)=_),?_⟩;(conv=>whnf)))
    refine callPart [5, 6] (h) rfl rfl rfl rfl rfl rfl ?_; (conv=>whnf);(try(refine ⟨(rfl:(_:Heap)=_),?_⟩;(conv=>whnf)))
    refine .inl ⟨⟨false, [0, 1, 2], [5, 6, 7], []⟩, by kernel_rfl, ?_⟩; (conv => whnf)
    repeat (refine ⟨rfl, ?_⟩; ((conv=>whnf);(try(refine ⟨(rfl:(_:Heap)=_),?_⟩;(conv=>whnf)))))
    exact ⟨.inl rfl, _, .refl _, rfl⟩
theorem h9_sound {w w' : Wor} {m m' : Mac} {e : Eve} (sw : SmWor w) (ok : OkW w) (hl : i64 m.listen) (hpc : m.pc = 9) (hs : suitsV w m = true) (h : SoundAt Tryz.prog 118 [⟨1, 48, 8, [encW w], 0⟩, ⟨1, 37, 44, [encM m], 0⟩] [.agg [.ref 0 [] 8 0 0, .ref 1 [] 44 0 0]] (Ce e) [⟨1, 48, 8, [encW w'], 0⟩, ⟨1, 37, 44, [encM m'], 0⟩]) : SoundAt Tryz.prog 62 [] [Cw w, Cm m] (.tup [Cw w', Cm m', Ce e]) [] := by
  by_cases hn : m.listen < 0
  all_goals
    refine SoundAt.of_wpA1 (fn := Tryz.f62) Tryz.func62 rfl ?_
    conv => whnf
    (repeat (first | (refine ⟨fun _ => ?_, ?_⟩; rotate_left 1; (focus (intro h; first | (simp [hpc] at h; done) | (have h := of_decide_eq_true h; omega) | (have h := of_decide_eq_false h; omega))); ((conv=>whnf);(try(refine ⟨(rfl:(_:Heap)=_),?_⟩;(conv=>whnf))))) | (refine ⟨?_, fun _ => ?_⟩; (focus (intro h; first | (simp [hpc] at h; done) | (have h := of_decide_eq_true h; omega) | (have h := of_decide_eq_false h; omega))); ((conv=>whnf);(try(refine ⟨(rfl:(_:Heap)=_),?_⟩;(conv=>whnf)))))))
    refine ⟨_, _, (suits_sound w m ok hl).frame rfl _, ?_⟩; (conv=>whnf);(try(refine ⟨(rfl:(_:Heap)=_),?_⟩;(conv=>whnf)))
    refine ⟨fun _ => ?_, fun h => absurd ((hs).symm.trans h : true = false) (by decide)⟩; (conv=>whnf);(try(refine ⟨(rfl:(_:Heap)=_),?_⟩;(conv=>whnf)))
    (repeat (first | (refine ⟨fun _ => ?_, fun h => absurd h (by decide)⟩; (conv=>whnf);(try(refine ⟨(rfl:(_:Heap)=_),?_⟩;(conv=>whnf)))) | (refine ⟨fun h => absurd h (by decide), fun _ => ?_⟩; (conv=>whnf);(try(refine ⟨(rfl:(_:Heap)=_),?_⟩;(conv=>whnf))))))
    (repeat (first | (refine ⟨fun _ => ?_, ?_⟩; rotate_left 1; (focus (intro h; first | (simp [hpc] at h; done) | (have h := of_decide_eq_true h; omega) | (have h := of_decide_eq_false h; omega))); ((conv=>whnf);(try(refine ⟨(rfl:(_:Heap)=_),?_⟩;(conv=>whnf))))) | (refine ⟨?_, fun _ => ?_⟩; (focus (intro h; first | (simp [hpc] at h; done) | (have h := of_decide_eq_true h; omega) | (have h := of_decide_eq_false h; omega))); ((conv=>whnf);(try(refine ⟨(rfl:(_:Heap)=_),?_⟩;(conv=>whnf)))))))
    refine .inl ⟨⟨true, [2], [1], [0]⟩, by kernel_rfl, ?_⟩; (conv => whnf)
    refine ⟨_, _, (table_sound).frame rfl _, ?_⟩; (conv=>whnf);(try(refine ⟨(rfl:(_:Heap)=_),?_⟩;(conv=>whnf)))
    (repeat (refine ⟨rfl, ?_⟩; ((conv=>whnf);(try(refine ⟨(rfl:(_:Heap)=_),?_⟩;(conv=>whnf))))))
    (refine ⟨by omega, by omega, pf 118, by rw [hpc]; rfl, ?_⟩); (conv=>whnf);(try(refine ⟨(rfl:(_:Heap)=_),?_⟩;(conv=>whnf)))
    (repeat (first | (refine ⟨fun _ => ?_, fun h => absurd h (by decide)⟩; (conv=>whnf);(try(refine ⟨(rfl:(_:Heap)=_),?_⟩;(conv=>whnf)))) | (refine ⟨fun h => absurd h (by decide), fun _ => ?_⟩; (conv=>whnf);(try(refine ⟨(rfl:(_:Heap)=_),?_⟩;(conv=>whnf))))))
    refine ⟨_, _, (clone_sound w sw).frame rfl _, ?_⟩; (conv=>whnf);(try(refine ⟨(rfl:(_:Heap)=_),?_⟩;(conv=>whnf)))
    refine callPart [5, 6] (h) rfl rfl rfl rfl rfl rfl ?_; (conv=>whnf);(try(refine ⟨(rfl:(_:Heap)=_),?_⟩;(conv=>whnf)))
    refine .inl ⟨⟨false, [0, 1, 2], [5, 6, 7], []⟩, by kernel_rfl, ?_⟩; (conv => whnf)
    repeat (refine ⟨rfl, ?_⟩; ((conv=>whnf);(try(refine ⟨(rfl:(_:Heap)=_),?_⟩;(conv=>whnf)))))
    exact ⟨.inl rfl, _, .refl _, rfl⟩
theorem h10_sound {w w' : Wor} {m m' : Mac} {e : Eve} (sw : SmWor w) (ok : OkW w) (hl : i64 m.listen) (hpc : m.pc = 10) (hs : suitsV w m = true) (h : SoundAt Tryz.prog 119 [⟨1, 48, 8, [encW w], 0⟩, ⟨1, 37, 44, [encM m], 0⟩] [.agg [.ref 0 [] 8 0 0, .ref 1 [] 44 0 0]] (Ce e) [⟨1, 48, 8, [encW w'], 0⟩, ⟨1, 37, 44, [encM m'], 0⟩]) : SoundAt Tryz.prog 62 [] [Cw w, Cm m] (.tup [Cw w', Cm m', Ce e]) [] := by
  by_cases hn : m.listen < 0
  all_goals
    refine SoundAt.of_wpA1 (fn := Tryz.f62) Tryz.func62 rfl ?_
    conv => whnf
    (repeat (first | (refine ⟨fun _ => ?_, ?_⟩; rotate_left 1; (focus (intro h; first | (simp [hpc] at h; done) | (have h := of_decide_eq_true h; omega) | (have h := of_decide_eq_false h; omega))); ((conv=>whnf);(try(refine ⟨(rfl:(_:Heap)=_),?_⟩;(conv=>whnf))))) | (refine ⟨?_, fun _ => ?_⟩; (focus (intro h; first | (simp [hpc] at h; done) | (have h := of_decide_eq_true h; omega) | (have h := of_decide_eq_false h; omega))); ((conv=>whnf);(try(refine ⟨(rfl:(_:Heap)=_),?_⟩;(conv=>whnf)))))))
    refine ⟨_, _, (suits_sound w m ok hl).frame rfl _, ?_⟩; (conv=>whnf);(try(refine ⟨(rfl:(_:Heap)=_),?_⟩;(conv=>whnf)))
    refine ⟨fun _ => ?_, fun h => absurd ((hs).symm.trans h : true = false) (by decide)⟩; (conv=>whnf);(try(refine ⟨(rfl:(_:Heap)=_),?_⟩;(conv=>whnf)))
    (repeat (first | (refine ⟨fun _ => ?_, fun h => absurd h (by decide)⟩; (conv=>whnf);(try(refine ⟨(rfl:(_:Heap)=_),?_⟩;(conv=>whnf)))) | (refine ⟨fun h => absurd h (by decide), fun _ => ?_⟩; (conv=>whnf);(try(refine ⟨(rfl:(_:Heap)=_),?_⟩;(conv=>whnf))))))
    (repeat (first | (refine ⟨fun _ => ?_, ?_⟩; rotate_left 1; (focus (intro h; first | (simp [hpc] at h; done) | (have h := of_decide_eq_true h; omega) | (have h := of_decide_eq_false h; omega))); ((conv=>whnf);(try(refine ⟨(rfl:(_:Heap)=_),?_⟩;(conv=>whnf))))) | (refine ⟨?_, fun _ => ?_⟩; (focus (intro h; first | (simp [hpc] at h; done) | (have h := of_decide_eq_true h; omega) | (have h := of_decide_eq_false h; omega))); ((conv=>whnf);(try(refine ⟨(rfl:(_:Heap)=_),?_⟩;(conv=>whnf)))))))
    refine .inl ⟨⟨true, [2], [1], [0]⟩, by kernel_rfl, ?_⟩; (conv => whnf)
    refine ⟨_, _, (table_sound).frame rfl _, ?_⟩; (conv=>whnf);(try(refine ⟨(rfl:(_:Heap)=_),?_⟩;(conv=>whnf)))
    (repeat (refine ⟨rfl, ?_⟩; ((conv=>whnf);(try(refine ⟨(rfl:(_:Heap)=_),?_⟩;(conv=>whnf))))))
    (refine ⟨by omega, by omega, pf 119, by rw [hpc]; rfl, ?_⟩); (conv=>whnf);(try(refine ⟨(rfl:(_:Heap)=_),?_⟩;(conv=>whnf)))
    (repeat (first | (refine ⟨fun _ => ?_, fun h => absurd h (by decide)⟩; (conv=>whnf);(try(refine ⟨(rfl:(_:Heap)=_),?_⟩;(conv=>whnf)))) | (refine ⟨fun h => absurd h (by decide), fun _ => ?_⟩; (conv=>whnf);(try(refine ⟨(rfl:(_:Heap)=_),?_⟩;(conv=>whnf))))))
    refine ⟨_, _, (clone_sound w sw).frame rfl _, ?_⟩; (conv=>whnf);(try(refine ⟨(rfl:(_:Heap)=_),?_⟩;(conv=>whnf)))
    refine callPart [5, 6] (h) rfl rfl rfl rfl rfl rfl ?_; (conv=>whnf);(try(refine ⟨(rfl:(_:Heap)=_),?_⟩;(conv=>whnf)))
    refine .inl ⟨⟨false, [0, 1, 2], [5, 6, 7], []⟩, by kernel_rfl, ?_⟩; (conv => whnf)
    repeat (refine ⟨rfl, ?_⟩; ((conv=>whnf);(try(refine ⟨(rfl:(_:Heap)=_),?_⟩;(conv=>whnf)))))
    exact ⟨.inl rfl, _, .refl _, rfl⟩
theorem h23_sound {w w' : Wor} {m m' : Mac} {e : Eve} (sw : SmWor w) (ok : OkW w) (hl : i64 m.listen) (hpc : m.pc = 23) (hs : suitsV w m = true) (h : SoundAt Tryz.prog 125 [⟨1, 48, 8, [encW w], 0⟩, ⟨1, 37, 44, [encM m], 0⟩] [.agg [.ref 0 [] 8 0 0, .ref 1 [] 44 0 0]] (Ce e) [⟨1, 48, 8, [encW w'], 0⟩, ⟨1, 37, 44, [encM m'], 0⟩]) : SoundAt Tryz.prog 62 [] [Cw w, Cm m] (.tup [Cw w', Cm m', Ce e]) [] := by
  by_cases hn : m.listen < 0
  all_goals
    refine SoundAt.of_wpA1 (fn := Tryz.f62) Tryz.func62 rfl ?_
    conv => whnf
    (repeat (first | (refine ⟨fun _ => ?_, ?_⟩; rotate_left 1; (focus (intro h; first | (simp [hpc] at h; done) | (have h := of_decide_eq_true h; omega) | (have h := of_decide_eq_false h; omega))); ((conv=>whnf);(try(refine ⟨(rfl:(_:Heap)=_),?_⟩;(conv=>whnf))))) | (refine ⟨?_, fun _ => ?_⟩; (focus (intro h; first | (simp [hpc] at h; done) | (have h := of_decide_eq_true h; omega) | (have h := of_decide_eq_false h; omega))); ((conv=>whnf);(try(refine ⟨(rfl:(_:Heap)=_),?_⟩;(conv=>whnf)))))))
    refine ⟨_, _, (suits_sound w m ok hl).frame rfl _, ?_⟩; (conv=>whnf);(try(refine ⟨(rfl:(_:Heap)=_),?_⟩;(conv=>whnf)))
    refine ⟨fun _ => ?_, fun h => absurd ((hs).symm.trans h : true = false) (by decide)⟩; (conv=>whnf);(try(refine ⟨(rfl:(_:Heap)=_),?_⟩;(conv=>whnf)))
    (repeat (first | (refine ⟨fun _ => ?_, fun h => absurd h (by decide)⟩; (conv=>whnf);(try(refine ⟨(rfl:(_:Heap)=_),?_⟩;(conv=>whnf)))) | (refine ⟨fun h => absurd h (by decide), fun _ => ?_⟩; (conv=>whnf);(try(refine ⟨(rfl:(_:Heap)=_),?_⟩;(conv=>whnf))))))
    (repeat (first | (refine ⟨fun _ => ?_, ?_⟩; rotate_left 1; (focus (intro h; first | (simp [hpc] at h; done) | (have h := of_decide_eq_true h; omega) | (have h := of_decide_eq_false h; omega))); ((conv=>whnf);(try(refine ⟨(rfl:(_:Heap)=_),?_⟩;(conv=>whnf))))) | (refine ⟨?_, fun _ => ?_⟩; (focus (intro h; first | (simp [hpc] at h; done) | (have h := of_decide_eq_true h; omega) | (have h := of_decide_eq_false h; omega))); ((conv=>whnf);(try(refine ⟨(rfl:(_:Heap)=_),?_⟩;(conv=>whnf)))))))
    refine .inl ⟨⟨true, [2], [1], [0]⟩, by kernel_rfl, ?_⟩; (conv => whnf)
    refine ⟨_, _, (table_sound).frame rfl _, ?_⟩; (conv=>whnf);(try(refine ⟨(rfl:(_:Heap)=_),?_⟩;(conv=>whnf)))
    (repeat (refine ⟨rfl, ?_⟩; ((conv=>whnf);(try(refine ⟨(rfl:(_:Heap)=_),?_⟩;(conv=>whnf))))))
    (refine ⟨by omega, by omega, pf 125, by rw [hpc]; rfl, ?_⟩); (conv=>whnf);(try(refine ⟨(rfl:(_:Heap)=_),?_⟩;(conv=>whnf)))
    (repeat (first | (refine ⟨fun _ => ?_, fun h => absurd h (by decide)⟩; (conv=>whnf);(try(refine ⟨(rfl:(_:Heap)=_),?_⟩;(conv=>whnf)))) | (refine ⟨fun h => absurd h (by decide), fun _ => ?_⟩; (conv=>whnf);(try(refine ⟨(rfl:(_:Heap)=_),?_⟩;(conv=>whnf))))))
    refine ⟨_, _, (clone_sound w sw).frame rfl _, ?_⟩; (conv=>whnf);(try(refine ⟨(rfl:(_:Heap)=_),?_⟩;(conv=>whnf)))
    refine callPart [5, 6] (h) rfl rfl rfl rfl rfl rfl ?_; (conv=>whnf);(try(refine ⟨(rfl:(_:Heap)=_),?_⟩;(conv=>whnf)))
    refine .inl ⟨⟨false, [0, 1, 2], [5, 6, 7], []⟩, by kernel_rfl, ?_⟩; (conv => whnf)
    repeat (refine ⟨rfl, ?_⟩; ((conv=>whnf);(try(refine ⟨(rfl:(_:Heap)=_),?_⟩;(conv=>whnf)))))
    exact ⟨.inl rfl, _, .refl _, rfl⟩
theorem hpin_sound {w w' : Wor} {m m' : Mac} {e : Eve} (h0 : 0 ≤ m.pc) (h3 : m.pc < 3) (h : SoundAt Tryz.prog 81 [] [Cw w, Cm m] (.tup [Cw w', Cm m', Ce e]) []) : SoundAt Tryz.prog 62 [] [Cw w, Cm m] (.tup [Cw w', Cm m', Ce e]) [] := by
  refine SoundAt.of_wpA1 (fn := Tryz.f62) Tryz.func62 rfl ?_
  conv => whnf
  refine ⟨fun _ => ?_, fun h => absurd h (by simp; omega)⟩
  (conv=>whnf);(try(refine ⟨(rfl:(_:Heap)=_),?_⟩;(conv=>whnf)))
  refine ⟨fun _ => ?_, fun h => absurd h (by simp; omega)⟩
  (conv=>whnf);(try(refine ⟨(rfl:(_:Heap)=_),?_⟩;(conv=>whnf)))
  refine ⟨_, _, (h).frame rfl _, ?_⟩; (conv=>whnf);(try(refine ⟨(rfl:(_:Heap)=_),?_⟩;(conv=>whnf)))
  exact ⟨.inl rfl, _, .refl _, rfl⟩
end Go.Wor
namespace Go.Wor
open Go.Ab Go.Proofs Go.Hy Go.Gat Go.Nam Go.Hos Go.Con Go.Sna
set_option linter.unusedVariables false
set_option linter.unusedSimpArgs false
set_option maxRecDepth 100000
set_option maxHeartbeats 4000000
theorem h4_sound {w : Wor} {m m' : Mac} {e : Eve} {ls : List Lis} (sw : SmWor w) (ok : OkW w) (hl : i64 m.listen) (hpc : m.pc = 4) (hs : suitsV w m = true) (hli : 0 ≤ m.listen) (hll : ls.length = w.listens.length) (h : SoundAt Tryz.prog 113 [⟨1, 48, 8, [[I w.epoch, I w.current, I w.lock, lI w.pins, lV w.versions, .sl 2 [] 4 0 w.listens.length false, lCo w.counts, lR w.limbo]], 0⟩, ⟨1, 37, 44, [encM m], 0⟩, ⟨2, 77, 4, (w.listens).map encL, 0⟩] [.agg [.ref 0 [] 8 0 0, .ref 1 [] 44 0 0]] (Ce e) [⟨1, 48, 8, [[I w.epoch, I w.current, I w.lock, lI w.pins, lV w.versions, .sl 2 [] 4 0 w.listens.length false, lCo w.counts, lR w.limbo]], 0⟩, ⟨1, 37, 44, [encM m'], 0⟩, ⟨2, 77, 4, (ls).map encL, 0⟩]) : SoundAt Tryz.prog 62 [] [Cw w, Cm m] (.tup [Cw { w with listens := ls }, Cm m', Ce e]) [] := by
  have hn : ¬ m.listen < 0 := by omega
  obtain ⟨x, l, hx⟩ : ∃ x l, w.listens = x :: l := by
    obtain ⟨v, g, e, su⟩ := suits_iff hs
    cases h : w.listens with
    | nil => have := su.listen; rw [h] at this; simp at this; omega
    | cons x l => exact ⟨x, l, rfl⟩
  refine SoundAt.of_wpA1 (fn := Tryz.f62) Tryz.func62 rfl ?_
  conv => whnf
  (repeat (first | (refine ⟨fun _ => ?_, ?_⟩; rotate_left 1; (focus (intro h; first | (simp [hpc] at h; done) | (have h := of_decide_eq_true h; omega) | (have h := of_decide_eq_false h; omega))); ((conv=>whnf);(try(refine ⟨(rfl:(_:Heap)=_),?_⟩;(conv=>whnf))))) | (refine ⟨?_, fun _ => ?_⟩; (focus (intro h; first | (simp [hpc] at h; done) | (have h := of_decide_eq_true h; omega) | (have h := of_decide_eq_false h; omega))); ((conv=>whnf);(try(refine ⟨(rfl:(_:Heap)=_),?_⟩;(conv=>whnf)))))))
  refine ⟨_, _, (suits_sound w m ok hl).frame rfl _, ?_⟩; (conv=>whnf);(try(refine ⟨(rfl:(_:Heap)=_),?_⟩;(conv=>whnf)))
  refine ⟨fun _ => ?_, fun h => absurd ((hs).symm.trans h : true = false) (by decide)⟩; (conv=>whnf);(try(refine ⟨(rfl:(_:Heap)=_),?_⟩;(conv=>whnf)))
  (repeat (first | (refine ⟨fun _ => ?_, fun h => absurd h (by decide)⟩; (conv=>whnf);(try(refine ⟨(rfl:(_:Heap)=_),?_⟩;(conv=>whnf)))) | (refine ⟨fun h => absurd h (by decide), fun _ => ?_⟩; (conv=>whnf);(try(refine ⟨(rfl:(_:Heap)=_),?_⟩;(conv=>whnf))))))
  (repeat (first | (refine ⟨fun _ => ?_, ?_⟩; rotate_left 1; (focus (intro h; first | (simp [hpc] at h; done) | (have h := of_decide_eq_true h; omega) | (have h := of_decide_eq_false h; omega))); ((conv=>whnf);(try(refine ⟨(rfl:(_:Heap)=_),?_⟩;(conv=>whnf))))) | (refine ⟨?_, fun _ => ?_⟩; (focus (intro h; first | (simp [hpc] at h; done) | (have h := of_decide_eq_true h; omega) | (have h := of_decide_eq_false h; omega))); ((conv=>whnf);(try(refine ⟨(rfl:(_:Heap)=_),?_⟩;(conv=>whnf)))))))
  refine .inl ⟨⟨true, [2], [1], [0]⟩, by kernel_rfl, ?_⟩; (conv => whnf)
  refine ⟨_, _, (table_sound).frame rfl _, ?_⟩; (conv=>whnf);(try(refine ⟨(rfl:(_:Heap)=_),?_⟩;(conv=>whnf)))
  (repeat (refine ⟨rfl, ?_⟩; ((conv=>whnf);(try(refine ⟨(rfl:(_:Heap)=_),?_⟩;(conv=>whnf))))))
  (refine ⟨by omega, by omega, pf 113, by rw [hpc]; rfl, ?_⟩); (conv=>whnf);(try(refine ⟨(rfl:(_:Heap)=_),?_⟩;(conv=>whnf)))
  (repeat (first | (refine ⟨fun _ => ?_, fun h => absurd h (by decide)⟩; (conv=>whnf);(try(refine ⟨(rfl:(_:Heap)=_),?_⟩;(conv=>whnf)))) | (refine ⟨fun h => absurd h (by decide), fun _ => ?_⟩; (conv=>whnf);(try(refine ⟨(rfl:(_:Heap)=_),?_⟩;(conv=>whnf))))))
  refine callPart [] (cloneL_sound w sw x l hx) rfl rfl rfl rfl rfl rfl ?_; (conv=>whnf);(try(refine ⟨(rfl:(_:Heap)=_),?_⟩;(conv=>whnf)))
  refine callPart [6, 7, 5] (h) rfl rfl rfl rfl rfl rfl ?_; (conv=>whnf);(try(refine ⟨(rfl:(_:Heap)=_),?_⟩;(conv=>whnf)))
  refine .inl ⟨⟨false, [0, 1, 2], [6, 7, 8], []⟩, by kernel_rfl, ?_⟩; (conv => whnf)
  repeat (refine ⟨rfl, ?_⟩; ((conv=>whnf);(try(refine ⟨(rfl:(_:Heap)=_),?_⟩;(conv=>whnf)))))
  exact ⟨.inl rfl, _, Weak.freezeC 2 0 5 rfl rfl rfl rfl (.inr rfl) (by simp) (by rw [List.length_map]; exact hll.symm) (shut_map (enc := encL) (fun _ => rfl) _) (one_noOwn rfl), rfl⟩
end Go.Wor
namespace Go.Wor
open Go.Ab Go.Proofs Go.Hy Go.Gat Go.Nam Go.Hos Go.Con Go.Sna
set_option linter.unusedVariables false
set_option linter.unusedSimpArgs false
set_option maxRecDepth 100000
set_option maxHeartbeats 4000000
theorem h20_sound {w : Wor} {m m' : Mac} {e : Eve} {r0 r1 : List Int} (sw : SmWor w) (ok : OkW w) (hl : i64 m.listen) (hpc : m.pc = 20) (hs : suitsV w m = true) (t0 : 0 ≤ m.thread) (hr : w.counts[m.thread.toNat]? = some r0) (hne : r0 ≠ []) (hll : r1.length = r0.length)
    (h : SoundAt Tryz.prog 122 [⟨1, 48, 8, [[I w.epoch, I w.current, I w.lock, lI w.pins, lV w.versions, lL w.listens, .sl 2 [] 1 0 w.counts.length false, lR w.limbo]], 0⟩, ⟨1, 37, 44, [encM m], 0⟩, ⟨1, 0, 1, (w.counts.map encCo).set m.thread.toNat [C.sl (3) [] 1 0 r0.length false], 0⟩, ⟨2, 32, 1, (r0).map encU, 0⟩] [.agg [.ref 0 [] 8 0 0, .ref 1 [] 44 0 0]] (Ce e) [⟨1, 48, 8, [[I w.epoch, I w.current, I w.lock, lI w.pins, lV w.versions, lL w.listens, .sl 2 [] 1 0 w.counts.length false, lR w.limbo]], 0⟩, ⟨1, 37, 44, [encM m'], 0⟩, ⟨1, 0, 1, (w.counts.map encCo).set m.thread.toNat [C.sl (3) [] 1 0 r0.length false], 0⟩, ⟨2, 32, 1, (r1).map encU, 0⟩]) : SoundAt Tryz.prog 62 [] [Cw w, Cm m] (.tup [Cw { w with counts := w.counts.set m.thread.toNat r1 }, Cm m', Ce e]) [] := by
  have ml : ((w.counts.map encCo)).length = w.counts.length := List.length_map ..
  have ml1 : (r1.map encU).length = r1.length := List.length_map ..
  have hlt : m.thread.toNat < w.counts.length := (List.getElem?_eq_some_iff.1 hr).1
  have own : ∀ i, ∀ r ∈ (w.counts.map encCo).set m.thread.toNat ([C.sl i [] 1 0 r0.length false]), ∀ c ∈ r, noOwn c = true := fun i => set_all (enc := encCo) (fun _ => rfl) rfl _ _
  have gt : ((w.counts.map encCo).set m.thread.toNat ([C.sl 6 [] 1 0 r0.length false]))[m.thread.toNat]? = some ([C.sl 6 [] 1 0 r0.length false]) := List.getElem?_set_self (by simpa using hlt)
  have est : (((w.counts.map encCo).set m.thread.toNat ([C.sl 6 [] 1 0 r0.length false])).set m.thread.toNat [.lst 0 1 (r1.map encU)]) = (w.counts.set m.thread.toNat r1).map encCo := by rw [List.set_set, List.map_set]; rfl
  have esh : ∀ r ∈ (((w.counts.map encCo).set m.thread.toNat ([C.sl 6 [] 1 0 r0.length false])).set m.thread.toNat [.lst 0 1 (r1.map encU)]), ∀ c ∈ r, shutC c = true ∧ noOwn c = true := by
    rw [est]
    exact shut_map (enc := encCo) (fun _ => rfl) _
  have hp : PathC w.counts m.thread.toNat r0 := ⟨sw.counts, hr, hne⟩
  by_cases hn : m.listen < 0
  all_goals
    refine SoundAt.of_wpA1 (fn := Tryz.f62) Tryz.func62 rfl ?_
    conv => whnf
    (repeat (first | (refine ⟨fun _ => ?_, ?_⟩; rotate_left 1; (focus (intro h; first | (simp [hpc] at h; done) | (have h := of_decide_eq_true h; omega) | (have h := of_decide_eq_false h; omega))); ((conv=>whnf);(try(refine ⟨(rfl:(_:Heap)=_),?_⟩;(conv=>whnf))))) | (refine ⟨?_, fun _ => ?_⟩; (focus (intro h; first | (simp [hpc] at h; done) | (have h := of_decide_eq_true h; omega) | (have h := of_decide_eq_false h; omega))); ((conv=>whnf);(try(refine ⟨(rfl:(_:Heap)=_),?_⟩;(conv=>whnf)))))))
    refine ⟨_, _, (suits_sound w m ok hl).frame rfl _, ?_⟩; (conv=>whnf);(try(refine ⟨(rfl:(_:Heap)=_),?_⟩;(conv=>whnf)))
    refine ⟨fun _ => ?_, fun h => absurd ((hs).symm.trans h : true = false) (by decide)⟩; (conv=>whnf);(try(refine ⟨(rfl:(_:Heap)=_),?_⟩;(conv=>whnf)))
    (repeat (first | (refine ⟨fun _ => ?_, fun h => absurd h (by decide)⟩; (conv=>whnf);(try(refine ⟨(rfl:(_:Heap)=_),?_⟩;(conv=>whnf)))) | (refine ⟨fun h => absurd h (by decide), fun _ => ?_⟩; (conv=>whnf);(try(refine ⟨(rfl:(_:Heap)=_),?_⟩;(conv=>whnf))))))
    (repeat (first | (refine ⟨fun _ => ?_, ?_⟩; rotate_left 1; (focus (intro h; first | (simp [hpc] at h; done) | (have h := of_decide_eq_true h; omega) | (have h := of_decide_eq_false h; omega))); ((conv=>whnf);(try(refine ⟨(rfl:(_:Heap)=_),?_⟩;(conv=>whnf))))) | (refine ⟨?_, fun _ => ?_⟩; (focus (intro h; first | (simp [hpc] at h; done) | (have h := of_decide_eq_true h; omega) | (have h := of_decide_eq_false h; omega))); ((conv=>whnf);(try(refine ⟨(rfl:(_:Heap)=_),?_⟩;(conv=>whnf)))))))
    refine .inl ⟨⟨true, [2], [1], [0]⟩, by kernel_rfl, ?_⟩; (conv => whnf)
    refine ⟨_, _, (table_sound).frame rfl _, ?_⟩; (conv=>whnf);(try(refine ⟨(rfl:(_:Heap)=_),?_⟩;(conv=>whnf)))
    (repeat (refine ⟨rfl, ?_⟩; ((conv=>whnf);(try(refine ⟨(rfl:(_:Heap)=_),?_⟩;(conv=>whnf))))))
    (refine ⟨by omega, by omega, pf 122, by rw [hpc]; rfl, ?_⟩); (conv=>whnf);(try(refine ⟨(rfl:(_:Heap)=_),?_⟩;(conv=>whnf)))
    (repeat (first | (refine ⟨fun _ => ?_, fun h => absurd h (by decide)⟩; (conv=>whnf);(try(refine ⟨(rfl:(_:Heap)=_),?_⟩;(conv=>whnf)))) | (refine ⟨fun h => absurd h (by decide), fun _ => ?_⟩; (conv=>whnf);(try(refine ⟨(rfl:(_:Heap)=_),?_⟩;(conv=>whnf))))))
    refine callPartX [] [⟨1, 48, 8, [encW w], 0⟩, ⟨1, 37, 44, [encM m], 0⟩, ⟨1, 48, 8, [zeW], 0⟩, ⟨1, 37, 44, [zeM], 0⟩, ⟨1, 87, 23, [encEv noEve], 0⟩, ⟨1, 0, 1, (w.counts.map encCo).set m.thread.toNat [C.sl (6) [] 1 0 r0.length false], 0⟩, ⟨2, 32, 1, (r0).map encU, 0⟩] (rx := .agg [I w.epoch, I w.current, I w.lock, lI w.pins, lV w.versions, lL w.listens, .sl 5 [] 1 0 w.counts.length false, lR w.limbo]) (cloneC_sound w sw w.counts rfl hp) (flat_cons (flat_kept (own 1)) rfl) rfl rfl rfl rfl rfl (by show _ :: _ :: _ :: _ :: _ :: mapOb _ ⟨1, 0, 1, _, 0⟩ :: _ = _; rw [map_kept (enc := encCo) (fun _ => rfl)]; rfl) rfl ?_
    (conv=>whnf);(try(refine ⟨(rfl:(_:Heap)=_),?_⟩;(conv=>whnf)))
    refine callPartX [7, 8, 5, 6] [⟨1, 48, 8, [encW w], 0⟩, ⟨1, 37, 44, [encM m], 0⟩, ⟨1, 48, 8, [zeW], 0⟩, ⟨1, 37, 44, [zeM], 0⟩, ⟨1, 87, 23, [encEv noEve], 0⟩, ⟨1, 0, 1, (w.counts.map encCo).set m.thread.toNat [C.sl (6) [] 1 0 r0.length false], 0⟩, ⟨2, 32, 1, (r1).map encU, 0⟩, ⟨1, 48, 8, [[I w.epoch, I w.current, I w.lock, lI w.pins, lV w.versions, lL w.listens, .sl 5 [] 1 0 w.counts.length false, lR w.limbo]], 0⟩, ⟨1, 37, 44, [encM m'], 0⟩] (rx := Ce e) h (flat_cons rfl (flat_cons rfl (flat_cons (flat_kept (own 3)) rfl))) (by show renOb _ _ :: renOb _ _ :: renOb _ ⟨1, 0, 1, _, 0⟩ :: _ = _; rw [ren_kept (enc := encCo) (fun _ => rfl)]; rfl) rfl rfl rfl (flat_cons rfl (flat_cons rfl (flat_cons rfl (flat_cons rfl (flat_cons rfl (flat_cons (flat_kept (own 6)) rfl)))))) (by show _ :: _ :: _ :: _ :: _ :: mapOb _ ⟨1, 0, 1, _, 0⟩ :: _ = _; rw [map_kept (enc := encCo) (fun _ => rfl)]; rfl) rfl ?_
    (conv=>whnf);(try(refine ⟨(rfl:(_:Heap)=_),?_⟩;(conv=>whnf)))
    refine .inl ⟨⟨false, [0, 1, 2], [7, 8, 9], []⟩, by kernel_rfl, ?_⟩; (conv => whnf)
    repeat (refine ⟨rfl, ?_⟩; ((conv=>whnf);(try(refine ⟨(rfl:(_:Heap)=_),?_⟩;(conv=>whnf)))))
    refine ⟨.inl rfl, _, (Weak.freezeC 5 m.thread.toNat 0 rfl gt rfl rfl (.inr rfl) (by simp) (by rw [ml1, hll]) (shut_map (enc := encU) (fun _ => rfl) _) (own 6)).trans (Weak.freezeC 2 0 6 rfl rfl rfl rfl (.inl rfl) (by simp) (by simp) esh (one_noOwn rfl)), ?_⟩
    show _ = some (C.tup [C.agg [I w.epoch, I w.current, I w.lock, lI w.pins, lV w.versions, lL w.listens, C.lst 0 1 ((w.counts.set m.thread.toNat r1).map encCo), lR w.limbo], Cm m', Ce e])
    rw [← est]
    rfl
theorem h21_sound {w : Wor} {m m' : Mac} {e : Eve} {r0 r1 : List Int} (sw : SmWor w) (ok : OkW w) (hl : i64 m.listen) (hpc : m.pc = 21) (hs : suitsV w m = true) (t0 : 0 ≤ m.thread) (hr : w.counts[m.thread.toNat]? = some r0) (hne : r0 ≠ []) (hll : r1.length = r0.length)
    (h : SoundAt Tryz.prog 123 [⟨1, 48, 8, [[I w.epoch, I w.current, I w.lock, lI w.pins, lV w.versions, lL w.listens, .sl 2 [] 1 0 w.counts.length false, lR w.limbo]], 0⟩, ⟨1, 37, 44, [encM m], 0⟩, ⟨1, 0, 1, (w.counts.map encCo).set m.thread.toNat [C.sl (3) [] 1 0 r0.length false], 0⟩, ⟨2, 32, 1, (r0).map encU, 0⟩] [.agg [.ref 0 [] 8 0 0, .ref 1 [] 44 0 0]] (Ce e) [⟨1, 48, 8, [[I w.epoch, I w.current, I w.lock, lI w.pins, lV w.versions, lL w.listens, .sl 2 [] 1 0 w.counts.length false, lR w.limbo]], 0⟩, ⟨1, 37, 44, [encM m'], 0⟩, ⟨1, 0, 1, (w.counts.map encCo).set m.thread.toNat [C.sl (3) [] 1 0 r0.length false], 0⟩, ⟨2, 32, 1, (r1).map encU, 0⟩]) : SoundAt Tryz.prog 62 [] [Cw w, Cm m] (.tup [Cw { w with counts := w.counts.set m.thread.toNat r1 }, Cm m', Ce e]) [] := by
  have ml : ((w.counts.map encCo)).length = w.counts.length := List.length_map ..
  have ml1 : (r1.map encU).length = r1.length := List.length_map ..
  have hlt : m.thread.toNat < w.counts.length := (List.getElem?_eq_some_iff.1 hr).1
  have own : ∀ i, ∀ r ∈ (w.counts.map encCo).set m.thread.toNat ([C.sl i [] 1 0 r0.length false]), ∀ c ∈ r, noOwn c = true := fun i => set_all (enc := encCo) (fun _ => rfl) rfl _ _
  have gt : ((w.counts.map encCo).set m.thread.toNat ([C.sl 6 [] 1 0 r0.length false]))[m.thread.toNat]? = some ([C.sl 6 [] 1 0 r0.length false]) := List.getElem?_set_self (by simpa using hlt)
  have est : (((w.counts.map encCo).set m.thread.toNat ([C.sl 6 [] 1 0 r0.length false])).set m.thread.toNat [.lst 0 1 (r1.map encU)]) = (w.counts.set m.thread.toNat r1).map encCo := by rw [List.set_set, List.map_set]; rfl
  have esh : ∀ r ∈ (((w.counts.map encCo).set m.thread.toNat ([C.sl 6 [] 1 0 r0.length false])).set m.thread.toNat [.lst 0 1 (r1.map encU)]), ∀ c ∈ r, shutC c = true ∧ noOwn c = true := by
    rw [est]
    exact shut_map (enc := encCo) (fun _ => rfl) _
  have hp : PathC w.counts m.thread.toNat r0 := ⟨sw.counts, hr, hne⟩
  by_cases hn : m.listen < 0
  all_goals
    refine SoundAt.of_wpA1 (fn := Tryz.f62) Tryz.func62 rfl ?_
    conv => whnf
    (repeat (first | (refine ⟨fun _ => ?_, ?_⟩; rotate_left 1; (focus (intro h; first | (simp [hpc] at h; done) | (have h := of_decide_eq_true h; omega) | (have h := of_decide_eq_false h; omega))); ((conv=>whnf);(try(refine ⟨(rfl:(_:Heap)=_),?_⟩;(conv=>whnf))))) | (refine ⟨?_, fun _ => ?_⟩; (focus (intro h; first | (simp [hpc] at h; done) | (have h := of_decide_eq_true h; omega) | (have h := of_decide_eq_false h; omega))); ((conv=>whnf);(try(refine ⟨(rfl:(_:Heap)=_),?_⟩;(conv=>whnf)))))))
    refine ⟨_, _, (suits_sound w m ok hl).frame rfl _, ?_⟩; (conv=>whnf);(try(refine ⟨(rfl:(_:Heap)=_),?_⟩;(conv=>whnf)))
    refine ⟨fun _ => ?_, fun h => absurd ((hs).symm.trans h : true = false) (by decide)⟩; (conv=>whnf);(try(refine ⟨(rfl:(_:Heap)=_),?_⟩;(conv=>whnf)))
    (repeat (first | (refine ⟨fun _ => ?_, fun h => absurd h (by decide)⟩; (conv=>whnf);(try(refine ⟨(rfl:(_:Heap)=_),?_⟩;(conv=>whnf)))) | (refine ⟨fun h => absurd h (by decide), fun _ => ?_⟩; (conv=>whnf);(try(refine ⟨(rfl:(_:Heap)=_),?_⟩;(conv=>whnf))))))
    (repeat (first | (refine ⟨fun _ => ?_, ?_⟩; rotate_left 1; (focus (intro h; first | (simp [hpc] at h; done) | (have h := of_decide_eq_true h; omega) | (have h := of_decide_eq_false h; omega))); ((conv=>whnf);(try(refine ⟨(rfl:(_:Heap)=_),?_⟩;(conv=>whnf))))) | (refine ⟨?_, fun _ => ?_⟩; (focus (intro h; first | (simp [hpc] at h; done) | (have h := of_decide_eq_true h; omega) | (have h := of_decide_eq_false h; omega))); ((conv=>whnf);(try(refine ⟨(rfl:(_:Heap)=_),?_⟩;(conv=>whnf)))))))
    refine .inl ⟨⟨true, [2], [1], [0]⟩, by kernel_rfl, ?_⟩; (conv => whnf)
    refine ⟨_, _, (table_sound).frame rfl _, ?_⟩; (conv=>whnf);(try(refine ⟨(rfl:(_:Heap)=_),?_⟩;(conv=>whnf)))
    (repeat (refine ⟨rfl, ?_⟩; ((conv=>whnf);(try(refine ⟨(rfl:(_:Heap)=_),?_⟩;(conv=>whnf))))))
    (refine ⟨by omega, by omega, pf 123, by rw [hpc]; rfl, ?_⟩); (conv=>whnf);(try(refine ⟨(rfl:(_:Heap)=_),?_⟩;(conv=>whnf)))
    (repeat (first | (refine ⟨fun _ => ?_, fun h => absurd h (by decide)⟩; (conv=>whnf);(try(refine ⟨(rfl:(_:Heap)=_),?_⟩;(conv=>whnf)))) | (refine ⟨fun h => absurd h (by decide), fun _ => ?_⟩; (conv=>whnf);(try(refine ⟨(rfl:(_:Heap)=_),?_⟩;(conv=>whnf))))))
    refine callPartX [] [⟨1, 48, 8, [encW w], 0⟩, ⟨1, 37, 44, [encM m], 0⟩, ⟨1, 48, 8, [zeW], 0⟩, ⟨1, 37, 44, [zeM], 0⟩, ⟨1, 87, 23, [encEv noEve], 0⟩, ⟨1, 0, 1, (w.counts.map encCo).set m.thread.toNat [C.sl (6) [] 1 0 r0.length false], 0⟩, ⟨2, 32, 1, (r0).map encU, 0⟩] (rx := .agg [I w.epoch, I w.current, I w.lock, lI w.pins, lV w.versions, lL w.listens, .sl 5 [] 1 0 w.counts.length false, lR w.limbo]) (cloneC_sound w sw w.counts rfl hp) (flat_cons (flat_kept (own 1)) rfl) rfl rfl rfl rfl rfl (by show _ :: _ :: _ :: _ :: _ :: mapOb _ ⟨1, 0, 1, _, 0⟩ :: _ = _; rw [map_kept (enc := encCo) (fun _ => rfl)]; rfl) rfl ?_
    (conv=>whnf);(try(refine ⟨(rfl:(_:Heap)=_),?_⟩;(conv=>whnf)))
    refine callPartX [7, 8, 5, 6] [⟨1, 48, 8, [encW w], 0⟩, ⟨1, 37, 44, [encM m], 0⟩, ⟨1, 48, 8, [zeW], 0⟩, ⟨1, 37, 44, [zeM], 0⟩, ⟨1, 87, 23, [encEv noEve], 0⟩, ⟨1, 0, 1, (w.counts.map encCo).set m.thread.toNat [C.sl (6) [] 1 0 r0.length false], 0⟩, ⟨2, 32, 1, (r1).map encU, 0⟩, ⟨1, 48, 8, [[I w.epoch, I w.current, I w.lock, lI w.pins, lV w.versions, lL w.listens, .sl 5 [] 1 0 w.counts.length false, lR w.limbo]], 0⟩, ⟨1, 37, 44, [encM m'], 0⟩] (rx := Ce e) h (flat_cons rfl (flat_cons rfl (flat_cons (flat_kept (own 3)) rfl))) (by show renOb _ _ :: renOb _ _ :: renOb _ ⟨1, 0, 1, _, 0⟩ :: _ = _; rw [ren_kept (enc := encCo) (fun _ => rfl)]; rfl) rfl rfl rfl (flat_cons rfl (flat_cons rfl (flat_cons rfl (flat_cons rfl (flat_cons rfl (flat_cons (flat_kept (own 6)) rfl)))))) (by show _ :: _ :: _ :: _ :: _ :: mapOb _ ⟨1, 0, 1, _, 0⟩ :: _ = _; rw [map_kept (enc := encCo) (fun _ => rfl)]; rfl) rfl ?_
    (conv=>whnf);(try(refine ⟨(rfl:(_:Heap)=_),?_⟩;(conv=>whnf)))
    refine .inl ⟨⟨false, [0, 1, 2], [7, 8, 9], []⟩, by kernel_rfl, ?_⟩; (conv => whnf)
    repeat (refine ⟨rfl, ?_⟩; ((conv=>whnf);(try(refine ⟨(rfl:(_:Heap)=_),?_⟩;(conv=>whnf)))))
    refine ⟨.inl rfl, _, (Weak.freezeC 5 m.thread.toNat 0 rfl gt rfl rfl (.inr rfl) (by simp) (by rw [ml1, hll]) (shut_map (enc := encU) (fun _ => rfl) _) (own 6)).trans (Weak.freezeC 2 0 6 rfl rfl rfl rfl (.inl rfl) (by simp) (by simp) esh (one_noOwn rfl)), ?_⟩
    show _ = some (C.tup [C.agg [I w.epoch, I w.current, I w.lock, lI w.pins, lV w.versions, lL w.listens, C.lst 0 1 ((w.counts.set m.thread.toNat r1).map encCo), lR w.limbo], Cm m', Ce e])
    rw [← est]
    rfl
end Go.Wor
namespace Go.Wor
open Go.Ab Go.Proofs Go.Hy Go.Gat Go.Nam Go.Hos Go.Con Go.Sna
set_option linter.unusedVariables false
set_option linter.unusedSimpArgs false
set_option maxRecDepth 100000
set_option maxHeartbeats 4000000
theorem map_setS {α β : Type} (f : α → β) (l : List α) (i : Nat) (a : α) (r : β) (h : f a = r) : (l.map f).set i r = (l.set i a).map f := by rw [List.map_set, h]
abbrev turnE (e0 : En) (hd ac : Int) : En := { e0 with head := hd, active := ac }
abbrev turnG (m : Mac) (g0 : Gr) (e0 : En) (tk hd ac : Int) : Gr := { g0 with ticket := tk, ends := g0.ends.set m.end_.toNat (turnE e0 hd ac) }
abbrev turnV1 (m : Mac) (v0 : Ver) (g0 : Gr) (e0 : En) (tk hd ac : Int) : Ver := { v0 with groups := v0.groups.set m.cluster.toNat (turnG m g0 e0 tk hd ac) }
abbrev turnW (w : Wor) (m : Mac) (v0 : Ver) (g0 : Gr) (e0 : En) (tk hd ac : Int) : Wor := { w with versions := w.versions.set m.version.toNat (turnV1 m v0 g0 e0 tk hd ac) }
theorem h6_sound {w : Wor} {m m' : Mac} {e : Eve} {v0 : Ver} {g0 : Gr} {e0 : En} {tk hd ac : Int} (sw : SmWor w) (ok : OkW w) (hl : i64 m.listen) (hpc : m.pc = 6) (hs : suitsV w m = true) (hat : AtE w m v0 g0 e0) (hne : e0.next ≠ [])
    (h : SoundAt Tryz.prog 115 [⟨1, 48, 8, [[I w.epoch, I w.current, I w.lock, lI w.pins, .sl 2 [] 5 0 w.versions.length false, lL w.listens, lCo w.counts, lR w.limbo]], 0⟩, ⟨1, 37, 44, [encM m], 0⟩, ⟨1, 0, 5, (w.versions.map encV).set m.version.toNat ((encS v0.snap ++ [C.sl (3) [] 2 0 v0.groups.length false, Bo v0.freed])), 0⟩, ⟨1, 0, 2, (v0.groups.map encG).set m.cluster.toNat ([U (g0.ticket), C.sl (4) [] 3 0 g0.ends.length false]), 0⟩, ⟨1, 0, 3, (g0.ends.map encE).set m.end_.toNat ([U (e0.head), C.sl (5) [] 1 0 e0.next.length false, I (e0.active)]), 0⟩, ⟨2, 3, 1, e0.next.map encI, 0⟩] [.agg [.ref 0 [] 8 0 0, .ref 1 [] 44 0 0]] (Ce e) [⟨1, 48, 8, [[I w.epoch, I w.current, I w.lock, lI w.pins, .sl 2 [] 5 0 w.versions.length false, lL w.listens, lCo w.counts, lR w.limbo]], 0⟩, ⟨1, 37, 44, [encM m'], 0⟩, ⟨1, 0, 5, (w.versions.map encV).set m.version.toNat ((encS v0.snap ++ [C.sl (3) [] 2 0 v0.groups.length false, Bo v0.freed])), 0⟩, ⟨1, 0, 2, (v0.groups.map encG).set m.cluster.toNat ([U (tk), C.sl (4) [] 3 0 g0.ends.length false]), 0⟩, ⟨1, 0, 3, (g0.ends.map encE).set m.end_.toNat ([U (hd), C.sl (5) [] 1 0 e0.next.length false, I (ac)]), 0⟩, ⟨2, 3, 1, e0.next.map encI, 0⟩]) : SoundAt Tryz.prog 62 [] [Cw w, Cm m] (.tup [Cw (turnW w m v0 g0 e0 tk hd ac), Cm m', Ce e]) [] := by
  have lv := hat.ln.lv
  have lg := hat.ln.lg
  have le := hat.ln.le
  have smv := sw.versions.2 v0 (List.mem_of_getElem? hat.at_)
  have hp : PathV w.versions m.version.toNat v0 m.cluster.toNat g0 m.end_.toNat e0 := ⟨⟨⟨smv.2 g0 (List.mem_of_getElem? hat.atg), hat.ate, hne⟩, smv, hat.atg⟩, sw.versions, hat.at_⟩
  have ownV : ∀ i, ∀ r ∈ (w.versions.map encV).set m.version.toNat ((encS v0.snap ++ [C.sl (i) [] 2 0 v0.groups.length false, Bo v0.freed])), ∀ c ∈ r, noOwn c = true := fun i => set_all (enc := encV) (fun _ => rfl) rfl _ _
  have ownG : ∀ i t, ∀ r ∈ (v0.groups.map encG).set m.cluster.toNat ([U (t), C.sl (i) [] 3 0 g0.ends.length false]), ∀ c ∈ r, noOwn c = true := fun i t => set_all (enc := encG) (fun _ => rfl) rfl _ _
  have ownE : ∀ i a b, ∀ r ∈ (g0.ends.map encE).set m.end_.toNat ([U (a), C.sl (i) [] 1 0 e0.next.length false, I (b)]), ∀ c ∈ r, noOwn c = true := fun i a b => set_all (enc := encE) (fun _ => rfl) rfl _ _
  have gv : ((w.versions.map encV).set m.version.toNat ((encS v0.snap ++ [C.sl (6) [] 2 0 v0.groups.length false, Bo v0.freed])))[m.version.toNat]? = some ((encS v0.snap ++ [C.sl (6) [] 2 0 v0.groups.length false, Bo v0.freed])) := List.getElem?_set_self (by simpa using lv)
  have gg : ((v0.groups.map encG).set m.cluster.toNat ([U (tk), C.sl (7) [] 3 0 g0.ends.length false]))[m.cluster.toNat]? = some ([U (tk), C.sl (7) [] 3 0 g0.ends.length false]) := List.getElem?_set_self (by simpa using lg)
  have ge : ((g0.ends.map encE).set m.end_.toNat ([U (hd), C.sl (8) [] 1 0 e0.next.length false, I (ac)]))[m.end_.toNat]? = some ([U (hd), C.sl (8) [] 1 0 e0.next.length false, I (ac)]) := List.getElem?_set_self (by simpa using le)
  have estE : (((g0.ends.map encE).set m.end_.toNat ([U (hd), C.sl (8) [] 1 0 e0.next.length false, I (ac)])).set m.end_.toNat [U hd, C.lst 0 1 (e0.next.map encI), I ac]) = (g0.ends.set m.end_.toNat (turnE e0 hd ac)).map encE := by rw [List.set_set]; exact map_setS encE _ _ (turnE e0 hd ac) _ rfl
  have estG : (((v0.groups.map encG).set m.cluster.toNat ([U (tk), C.sl (7) [] 3 0 g0.ends.length false])).set m.cluster.toNat [U tk, C.lst 0 3 (((g0.ends.set m.end_.toNat (turnE e0 hd ac)).map encE))]) = (v0.groups.set m.cluster.toNat (turnG m g0 e0 tk hd ac)).map encG := by rw [List.set_set]; exact map_setS encG _ _ (turnG m g0 e0 tk hd ac) _ rfl
  have estV : (((w.versions.map encV).set m.version.toNat ((encS v0.snap ++ [C.sl (6) [] 2 0 v0.groups.length false, Bo v0.freed]))).set m.version.toNat (encS v0.snap ++ [C.lst 0 2 (((v0.groups.set m.cluster.toNat (turnG m g0 e0 tk hd ac)).map encG)), Bo v0.freed])) = (w.versions.set m.version.toNat (turnV1 m v0 g0 e0 tk hd ac)).map encV := by rw [List.set_set]; exact map_setS encV _ _ (turnV1 m v0 g0 e0 tk hd ac) _ rfl
  have eshE : ∀ r ∈ (((g0.ends.map encE).set m.end_.toNat ([U (hd), C.sl (8) [] 1 0 e0.next.length false, I (ac)])).set m.end_.toNat [U hd, C.lst 0 1 (e0.next.map encI), I ac]), ∀ c ∈ r, shutC c = true ∧ noOwn c = true := by
    rw [estE]
    exact shut_map (enc := encE) (fun _ => rfl) _
  have eshG : ∀ r ∈ (((v0.groups.map encG).set m.cluster.toNat ([U (tk), C.sl (7) [] 3 0 g0.ends.length false])).set m.cluster.toNat [U tk, C.lst 0 3 (((g0.ends.map encE).set m.end_.toNat ([U (hd), C.sl (8) [] 1 0 e0.next.length false, I (ac)])).set m.end_.toNat [U hd, C.lst 0 1 (e0.next.map encI), I ac])]), ∀ c ∈ r, shutC c = true ∧ noOwn c = true := by
    rw [estE, estG]
    exact shut_map (enc := encG) (fun _ => rfl) _
  have eshV : ∀ r ∈ (((w.versions.map encV).set m.version.toNat ((encS v0.snap ++ [C.sl (6) [] 2 0 v0.groups.length false, Bo v0.freed]))).set m.version.toNat (encS v0.snap ++ [C.lst 0 2 (((v0.groups.map encG).set m.cluster.toNat ([U (tk), C.sl (7) [] 3 0 g0.ends.length false])).set m.cluster.toNat [U tk, C.lst 0 3 (((g0.ends.map encE).set m.end_.toNat ([U (hd), C.sl (8) [] 1 0 e0.next.length false, I (ac)])).set m.end_.toNat [U hd, C.lst 0 1 (e0.next.map encI), I ac])]), Bo v0.freed])), ∀ c ∈ r, shutC c = true ∧ noOwn c = true := by
    rw [estE, estG, estV]
    exact shut_map (enc := encV) (fun _ => rfl) _
  by_cases hn : m.listen < 0
  all_goals
    refine SoundAt.of_wpA1 (fn := Tryz.f62) Tryz.func62 rfl ?_
    conv => whnf
    (repeat (first | (refine ⟨fun _ => ?_, ?_⟩; rotate_left 1; (focus (intro h; first | (simp [hpc] at h; done) | (have h := of_decide_eq_true h; omega) | (have h := of_decide_eq_false h; omega))); ((conv=>whnf);(try(refine ⟨(rfl:(_:Heap)=_),?_⟩;(conv=>whnf))))) | (refine ⟨?_, fun _ => ?_⟩; (focus (intro h; first | (simp [hpc] at h; done) | (have h := of_decide_eq_true h; omega) | (have h := of_decide_eq_false h; omega))); ((conv=>whnf);(try(refine ⟨(rfl:(_:Heap)=_),?_⟩;(conv=>whnf)))))))
    refine ⟨_, _, (suits_sound w m ok hl).frame rfl _, ?_⟩; (conv=>whnf);(try(refine ⟨(rfl:(_:Heap)=_),?_⟩;(conv=>whnf)))
    refine ⟨fun _ => ?_, fun h => absurd ((hs).symm.trans h : true = false) (by decide)⟩; (conv=>whnf);(try(refine ⟨(rfl:(_:Heap)=_),?_⟩;(conv=>whnf)))
    (repeat (first | (refine ⟨fun _ => ?_, fun h => absurd h (by decide)⟩; (conv=>whnf);(try(refine ⟨(rfl:(_:Heap)=_),?_⟩;(conv=>whnf)))) | (refine ⟨fun h => absurd h (by decide), fun _ => ?_⟩; (conv=>whnf);(try(refine ⟨(rfl:(_:Heap)=_),?_⟩;(conv=>whnf))))))
    (repeat (first | (refine ⟨fun _ => ?_, ?_⟩; rotate_left 1; (focus (intro h; first | (simp [hpc] at h; done) | (have h := of_decide_eq_true h; omega) | (have h := of_decide_eq_false h; omega))); ((conv=>whnf);(try(refine ⟨(rfl:(_:Heap)=_),?_⟩;(conv=>whnf))))) | (refine ⟨?_, fun _ => ?_⟩; (focus (intro h; first | (simp [hpc] at h; done) | (have h := of_decide_eq_true h; omega) | (have h := of_decide_eq_false h; omega))); ((conv=>whnf);(try(refine ⟨(rfl:(_:Heap)=_),?_⟩;(conv=>whnf)))))))
    refine .inl ⟨⟨true, [2], [1], [0]⟩, by kernel_rfl, ?_⟩; (conv => whnf)
    refine ⟨_, _, (table_sound).frame rfl _, ?_⟩; (conv=>whnf);(try(refine ⟨(rfl:(_:Heap)=_),?_⟩;(conv=>whnf)))
    (repeat (refine ⟨rfl, ?_⟩; ((conv=>whnf);(try(refine ⟨(rfl:(_:Heap)=_),?_⟩;(conv=>whnf))))))
    (refine ⟨by omega, by omega, pf 115, by rw [hpc]; rfl, ?_⟩); (conv=>whnf);(try(refine ⟨(rfl:(_:Heap)=_),?_⟩;(conv=>whnf)))
    (repeat (first | (refine ⟨fun _ => ?_, fun h => absurd h (by decide)⟩; (conv=>whnf);(try(refine ⟨(rfl:(_:Heap)=_),?_⟩;(conv=>whnf)))) | (refine ⟨fun h => absurd h (by decide), fun _ => ?_⟩; (conv=>whnf);(try(refine ⟨(rfl:(_:Heap)=_),?_⟩;(conv=>whnf))))))
    refine callPartX [] [⟨1, 48, 8, [encW w], 0⟩, ⟨1, 37, 44, [encM m], 0⟩, ⟨1, 48, 8, [zeW], 0⟩, ⟨1, 37, 44, [zeM], 0⟩, ⟨1, 87, 23, [encEv noEve], 0⟩, ⟨1, 0, 5, (w.versions.map encV).set m.version.toNat ((encS v0.snap ++ [C.sl (6) [] 2 0 v0.groups.length false, Bo v0.freed])), 0⟩, ⟨1, 0, 2, (v0.groups.map encG).set m.cluster.toNat ([U (g0.ticket), C.sl (7) [] 3 0 g0.ends.length false]), 0⟩, ⟨1, 0, 3, (g0.ends.map encE).set m.end_.toNat ([U (e0.head), C.sl (8) [] 1 0 e0.next.length false, I (e0.active)]), 0⟩, ⟨2, 3, 1, e0.next.map encI, 0⟩] (rx := .agg [I w.epoch, I w.current, I w.lock, lI w.pins, .sl 5 [] 5 0 w.versions.length false, lL w.listens, lCo w.counts, lR w.limbo]) (cloneE_sound w sw w.versions rfl hp) (flat_cons (flat_kept (ownV 1)) (flat_cons (flat_kept (ownG 2 _)) (flat_cons (flat_kept (ownE 3 _ _)) rfl))) rfl rfl rfl rfl rfl (by show _ :: _ :: _ :: _ :: _ :: mapOb _ ⟨1, 0, 5, _, 0⟩ :: mapOb _ ⟨1, 0, 2, _, 0⟩ :: mapOb _ ⟨1, 0, 3, _, 0⟩ :: _ = _; rw [map_kept (enc := encV) (fun _ => rfl), map_kept (enc := encG) (fun _ => rfl), map_kept (enc := encE) (fun _ => rfl)]; rfl) rfl ?_
    (conv=>whnf);(try(refine ⟨(rfl:(_:Heap)=_),?_⟩;(conv=>whnf)))
    refine callPartX [9, 10, 5, 6, 7, 8] [⟨1, 48, 8, [encW w], 0⟩, ⟨1, 37, 44, [encM m], 0⟩, ⟨1, 48, 8, [zeW], 0⟩, ⟨1, 37, 44, [zeM], 0⟩, ⟨1, 87, 23, [encEv noEve], 0⟩, ⟨1, 0, 5, (w.versions.map encV).set m.version.toNat ((encS v0.snap ++ [C.sl (6) [] 2 0 v0.groups.length false, Bo v0.freed])), 0⟩, ⟨1, 0, 2, (v0.groups.map encG).set m.cluster.toNat ([U (tk), C.sl (7) [] 3 0 g0.ends.length false]), 0⟩, ⟨1, 0, 3, (g0.ends.map encE).set m.end_.toNat ([U (hd), C.sl (8) [] 1 0 e0.next.length false, I (ac)]), 0⟩, ⟨2, 3, 1, e0.next.map encI, 0⟩, ⟨1, 48, 8, [[I w.epoch, I w.current, I w.lock, lI w.pins, .sl 5 [] 5 0 w.versions.length false, lL w.listens, lCo w.counts, lR w.limbo]], 0⟩, ⟨1, 37, 44, [encM m'], 0⟩] (rx := Ce e) h (flat_cons rfl (flat_cons rfl (flat_cons (flat_kept (ownV 3)) (flat_cons (flat_kept (ownG 4 _)) (flat_cons (flat_kept (ownE 5 _ _)) rfl))))) (by show renOb _ _ :: renOb _ _ :: renOb _ ⟨1, 0, 5, _, 0⟩ :: renOb _ ⟨1, 0, 2, _, 0⟩ :: renOb _ ⟨1, 0, 3, _, 0⟩ :: _ = _; rw [ren_kept (enc := encV) (fun _ => rfl), ren_kept (enc := encG) (fun _ => rfl), ren_kept (enc := encE) (fun _ => rfl)]; rfl) rfl rfl rfl (flat_cons rfl (flat_cons rfl (flat_cons rfl (flat_cons rfl (flat_cons rfl (flat_cons (flat_kept (ownV 6)) (flat_cons (flat_kept (ownG 7 _)) (flat_cons (flat_kept (ownE 8 _ _)) rfl)))))))) (by show _ :: _ :: _ :: _ :: _ :: mapOb _ ⟨1, 0, 5, _, 0⟩ :: mapOb _ ⟨1, 0, 2, _, 0⟩ :: mapOb _ ⟨1, 0, 3, _, 0⟩ :: _ = _; rw [map_kept (enc := encV) (fun _ => rfl), map_kept (enc := encG) (fun _ => rfl), map_kept (enc := encE) (fun _ => rfl)]; rfl) rfl ?_
    (conv=>whnf);(try(refine ⟨(rfl:(_:Heap)=_),?_⟩;(conv=>whnf)))
    refine .inl ⟨⟨false, [0, 1, 2], [9, 10, 11], []⟩, by kernel_rfl, ?_⟩; (conv => whnf)
    repeat (refine ⟨rfl, ?_⟩; ((conv=>whnf);(try(refine ⟨(rfl:(_:Heap)=_),?_⟩;(conv=>whnf)))))
    refine ⟨.inl rfl, _, (((Weak.freezeC 7 m.end_.toNat 1 rfl ge rfl rfl (.inr rfl) (by simp) (by simp) (shut_map (enc := encI) (fun _ => rfl) _) (ownE 8 _ _)).trans (Weak.freezeC 6 m.cluster.toNat 1 rfl gg rfl rfl (.inl rfl) (by simp) (by simp) eshE (ownG 7 _))).trans (Weak.freezeC 5 m.version.toNat 3 rfl gv rfl rfl (.inl rfl) (by simp) (by simp) eshG (ownV 6))).trans (Weak.freezeC 2 0 4 rfl rfl rfl rfl (.inl rfl) (by simp) (by simp) eshV (one_noOwn rfl)), ?_⟩
    show _ = some (C.tup [C.agg [I w.epoch, I w.current, I w.lock, lI w.pins, C.lst 0 5 ((w.versions.set m.version.toNat (turnV1 m v0 g0 e0 tk hd ac)).map encV), lL w.listens, lCo w.counts, lR w.limbo], Cm m', Ce e])
    rw [← estV, ← estG, ← estE]
    rfl
theorem h11_sound {w : Wor} {m m' : Mac} {e : Eve} {v0 : Ver} {g0 : Gr} {e0 : En} {tk hd ac : Int} (sw : SmWor w) (ok : OkW w) (hl : i64 m.listen) (hpc : m.pc = 11) (hs : suitsV w m = true) (hat : AtE w m v0 g0 e0) (hne : e0.next ≠ [])
    (h : SoundAt Tryz.prog 120 [⟨1, 48, 8, [[I w.epoch, I w.current, I w.lock, lI w.pins, .sl 2 [] 5 0 w.versions.length false, lL w.listens, lCo w.counts, lR w.limbo]], 0⟩, ⟨1, 37, 44, [encM m], 0⟩, ⟨1, 0, 5, (w.versions.map encV).set m.version.toNat ((encS v0.snap ++ [C.sl (3) [] 2 0 v0.groups.length false, Bo v0.freed])), 0⟩, ⟨1, 0, 2, (v0.groups.map encG).set m.cluster.toNat ([U (g0.ticket), C.sl (4) [] 3 0 g0.ends.length false]), 0⟩, ⟨1, 0, 3, (g0.ends.map encE).set m.end_.toNat ([U (e0.head), C.sl (5) [] 1 0 e0.next.length false, I (e0.active)]), 0⟩, ⟨2, 3, 1, e0.next.map encI, 0⟩] [.agg [.ref 0 [] 8 0 0, .ref 1 [] 44 0 0]] (Ce e) [⟨1, 48, 8, [[I w.epoch, I w.current, I w.lock, lI w.pins, .sl 2 [] 5 0 w.versions.length false, lL w.listens, lCo w.counts, lR w.limbo]], 0⟩, ⟨1, 37, 44, [encM m'], 0⟩, ⟨1, 0, 5, (w.versions.map encV).set m.version.toNat ((encS v0.snap ++ [C.sl (3) [] 2 0 v0.groups.length false, Bo v0.freed])), 0⟩, ⟨1, 0, 2, (v0.groups.map encG).set m.cluster.toNat ([U (tk), C.sl (4) [] 3 0 g0.ends.length false]), 0⟩, ⟨1, 0, 3, (g0.ends.map encE).set m.end_.toNat ([U (hd), C.sl (5) [] 1 0 e0.next.length false, I (ac)]), 0⟩, ⟨2, 3, 1, e0.next.map encI, 0⟩]) : SoundAt Tryz.prog 62 [] [Cw w, Cm m] (.tup [Cw (turnW w m v0 g0 e0 tk hd ac), Cm m', Ce e]) [] := by
  have lv := hat.ln.lv
  have lg := hat.ln.lg
  have le := hat.ln.le
  have smv := sw.versions.2 v0 (List.mem_of_getElem? hat.at_)
  have hp : PathV w.versions m.version.toNat v0 m.cluster.toNat g0 m.end_.toNat e0 := ⟨⟨⟨smv.2 g0 (List.mem_of_getElem? hat.atg), hat.ate, hne⟩, smv, hat.atg⟩, sw.versions, hat.at_⟩
  have ownV : ∀ i, ∀ r ∈ (w.versions.map encV).set m.version.toNat ((encS v0.snap ++ [C.sl (i) [] 2 0 v0.groups.length false, Bo v0.freed])), ∀ c ∈ r, noOwn c = true := fun i => set_all (enc := encV) (fun _ => rfl) rfl _ _
  have ownG : ∀ i t, ∀ r ∈ (v0.groups.map encG).set m.cluster.toNat ([U (t), C.sl (i) [] 3 0 g0.ends.length false]), ∀ c ∈ r, noOwn c = true := fun i t => set_all (enc := encG) (fun _ => rfl) rfl _ _
  have ownE : ∀ i a b, ∀ r ∈ (g0.ends.map encE).set m.end_.toNat ([U (a), C.sl (i) [] 1 0 e0.next.length false, I (b)]), ∀ c ∈ r, noOwn c = true := fun i a b => set_all (enc := encE) (fun _ => rfl) rfl _ _
  have gv : ((w.versions.map encV).set m.version.toNat ((encS v0.snap ++ [C.sl (6) [] 2 0 v0.groups.length false, Bo v0.freed])))[m.version.toNat]? = some ((encS v0.snap ++ [C.sl (6) [] 2 0 v0.groups.length false, Bo v0.freed])) := List.getElem?_set_self (by simpa using lv)
  have gg : ((v0.groups.map encG).set m.cluster.toNat ([U (tk), C.sl (7) [] 3 0 g0.ends.length false]))[m.cluster.toNat]? = some ([U (tk), C.sl (7) [] 3 0 g0.ends.length false]) := List.getElem?_set_self (by simpa using lg)
  have ge : ((g0.ends.map encE).set m.end_.toNat ([U (hd), C.sl (8) [] 1 0 e0.next.length false, I (ac)]))[m.end_.toNat]? = some ([U (hd), C.sl (8) [] 1 0 e0.next.length false, I (ac)]) := List.getElem?_set_self (by simpa using le)
  have estE : (((g0.ends.map encE).set m.end_.toNat ([U (hd), C.sl (8) [] 1 0 e0.next.length false, I (ac)])).set m.end_.toNat [U hd, C.lst 0 1 (e0.next.map encI), I ac]) = (g0.ends.set m.end_.toNat (turnE e0 hd ac)).map encE := by rw [List.set_set]; exact map_setS encE _ _ (turnE e0 hd ac) _ rfl
  have estG : (((v0.groups.map encG).set m.cluster.toNat ([U (tk), C.sl (7) [] 3 0 g0.ends.length false])).set m.cluster.toNat [U tk, C.lst 0 3 (((g0.ends.set m.end_.toNat (turnE e0 hd ac)).map encE))]) = (v0.groups.set m.cluster.toNat (turnG m g0 e0 tk hd ac)).map encG := by rw [List.set_set]; exact map_setS encG _ _ (turnG m g0 e0 tk hd ac) _ rfl
  have estV : (((w.versions.map encV).set m.version.toNat ((encS v0.snap ++ [C.sl (6) [] 2 0 v0.groups.length false, Bo v0.freed]))).set m.version.toNat (encS v0.snap ++ [C.lst 0 2 (((v0.groups.set m.cluster.toNat (turnG m g0 e0 tk hd ac)).map encG)), Bo v0.freed])) = (w.versions.set m.version.toNat (turnV1 m v0 g0 e0 tk hd ac)).map encV := by rw [List.set_set]; exact map_setS encV _ _ (turnV1 m v0 g0 e0 tk hd ac) _ rfl
  have eshE : ∀ r ∈ (((g0.ends.map encE).set m.end_.toNat ([U (hd), C.sl (8) [] 1 0 e0.next.length false, I (ac)])).set m.end_.toNat [U hd, C.lst 0 1 (e0.next.map encI), I ac]), ∀ c ∈ r, shutC c = true ∧ noOwn c = true := by
    rw [estE]
    exact shut_map (enc := encE) (fun _ => rfl) _
  have eshG : ∀ r ∈ (((v0.groups.map encG).set m.cluster.toNat ([U (tk), C.sl (7) [] 3 0 g0.ends.length false])).set m.cluster.toNat [U tk, C.lst 0 3 (((g0.ends.map encE).set m.end_.toNat ([U (hd), C.sl (8) [] 1 0 e0.next.length false, I (ac)])).set m.end_.toNat [U hd, C.lst 0 1 (e0.next.map encI), I ac])]), ∀ c ∈ r, shutC c = true ∧ noOwn c = true := by
    rw [estE, estG]
    exact shut_map (enc := encG) (fun _ => rfl) _
  have eshV : ∀ r ∈ (((w.versions.map encV).set m.version.toNat ((encS v0.snap ++ [C.sl (6) [] 2 0 v0.groups.length false, Bo v0.freed]))).set m.version.toNat (encS v0.snap ++ [C.lst 0 2 (((v0.groups.map encG).set m.cluster.toNat ([U (tk), C.sl (7) [] 3 0 g0.ends.length false])).set m.cluster.toNat [U tk, C.lst 0 3 (((g0.ends.map encE).set m.end_.toNat ([U (hd), C.sl (8) [] 1 0 e0.next.length false, I (ac)])).set m.end_.toNat [U hd, C.lst 0 1 (e0.next.map encI), I ac])]), Bo v0.freed])), ∀ c ∈ r, shutC c = true ∧ noOwn c = true := by
    rw [estE, estG, estV]
    exact shut_map (enc := encV) (fun _ => rfl) _
  by_cases hn : m.listen < 0
  all_goals
    refine SoundAt.of_wpA1 (fn := Tryz.f62) Tryz.func62 rfl ?_
    conv => whnf
    (repeat (first | (refine ⟨fun _ => ?_, ?_⟩; rotate_left 1; (focus (intro h; first | (simp [hpc] at h; done) | (have h := of_decide_eq_true h; omega) | (have h := of_decide_eq_false h; omega))); ((conv=>whnf);(try(refine ⟨(rfl:(_:Heap)=_),?_⟩;(conv=>whnf))))) | (refine ⟨?_, fun _ => ?_⟩; (focus (intro h; first | (simp [hpc] at h; done) | (have h := of_decide_eq_true h; omega) | (have h := of_decide_eq_false h; omega))); ((conv=>whnf);(try(refine ⟨(rfl:(_:Heap)=_),?_⟩;(conv=>whnf)))))))
    refine ⟨_, _, (suits_sound w m ok hl).frame rfl _, ?_⟩; (conv=>whnf);(try(refine ⟨(rfl:(_:Heap)=_),?_⟩;(conv=>whnf)))
    refine ⟨fun _ => ?_, fun h => absurd ((hs).symm.trans h : true = false) (by decide)⟩; (conv=>whnf);(try(refine ⟨(rfl:(_:Heap)=_),?_⟩;(conv=>whnf)))
    (repeat (first | (refine ⟨fun _ => ?_, fun h => absurd h (by decide)⟩; (conv=>whnf);(try(refine ⟨(rfl:(_:Heap)=_),?_⟩;(conv=>whnf)))) | (refine ⟨fun h => absurd h (by decide), fun _ => ?_⟩; (conv=>whnf);(try(refine ⟨(rfl:(_:Heap)=_),?_⟩;(conv=>whnf))))))
    (repeat (first | (refine ⟨fun _ => ?_, ?_⟩; rotate_left 1; (focus (intro h; first | (simp [hpc] at h; done) | (have h := of_decide_eq_true h; omega) | (have h := of_decide_eq_false h; omega))); ((conv=>whnf);(try(refine ⟨(rfl:(_:Heap)=_),?_⟩;(conv=>whnf))))) | (refine ⟨?_, fun _ => ?_⟩; (focus (intro h; first | (simp [hpc] at h; done) | (have h := of_decide_eq_true h; omega) | (have h := of_decide_eq_false h; omega))); ((conv=>whnf);(try(refine ⟨(rfl:(_:Heap)=_),?_⟩;(conv=>whnf)))))))
    refine .inl ⟨⟨true, [2], [1], [0]⟩, by kernel_rfl, ?_⟩; (conv => whnf)
    refine ⟨_, _, (table_sound).frame rfl _, ?_⟩; (conv=>whnf);(try(refine ⟨(rfl:(_:Heap)=_),?_⟩;(conv=>whnf)))
    (repeat (refine ⟨rfl, ?_⟩; ((conv=>whnf);(try(refine ⟨(rfl:(_:Heap)=_),?_⟩;(conv=>whnf))))))
    (refine ⟨by omega, by omega, pf 120, by rw [hpc]; rfl, ?_⟩); (conv=>whnf);(try(refine ⟨(rfl:(_:Heap)=_),?_⟩;(conv=>whnf)))
    (repeat (first | (refine ⟨fun _ => ?_, fun h => absurd h (by decide)⟩; (conv=>whnf);(try(refine ⟨(rfl:(_:Heap)=_),?_⟩;(conv=>whnf)))) | (refine ⟨fun h => absurd h (by decide), fun _ => ?_⟩; (conv=>whnf);(try(refine ⟨(rfl:(_:Heap)=_),?_⟩;(conv=>whnf))))))
    refine callPartX [] [⟨1, 48, 8, [encW w], 0⟩, ⟨1, 37, 44, [encM m], 0⟩, ⟨1, 48, 8, [zeW], 0⟩, ⟨1, 37, 44, [zeM], 0⟩, ⟨1, 87, 23, [encEv noEve], 0⟩, ⟨1, 0, 5, (w.versions.map encV).set m.version.toNat ((encS v0.snap ++ [C.sl (6) [] 2 0 v0.groups.length false, Bo v0.freed])), 0⟩, ⟨1, 0, 2, (v0.groups.map encG).set m.cluster.toNat ([U (g0.ticket), C.sl (7) [] 3 0 g0.ends.length false]), 0⟩, ⟨1, 0, 3, (g0.ends.map encE).set m.end_.toNat ([U (e0.head), C.sl (8) [] 1 0 e0.next.length false, I (e0.active)]), 0⟩, ⟨2, 3, 1, e0.next.map encI, 0⟩] (rx := .agg [I w.epoch, I w.current, I w.lock, lI w.pins, .sl 5 [] 5 0 w.versions.length false, lL w.listens, lCo w.counts, lR w.limbo]) (cloneE_sound w sw w.versions rfl hp) (flat_cons (flat_kept (ownV 1)) (flat_cons (flat_kept (ownG 2 _)) (flat_cons (flat_kept (ownE 3 _ _)) rfl))) rfl rfl rfl rfl rfl (by show _ :: _ :: _ :: _ :: _ :: mapOb _ ⟨1, 0, 5, _, 0⟩ :: mapOb _ ⟨1, 0, 2, _, 0⟩ :: mapOb _ ⟨1, 0, 3, _, 0⟩ :: _ = _; rw [map_kept (enc := encV) (fun _ => rfl), map_kept (enc := encG) (fun _ => rfl), map_kept (enc := encE) (fun _ => rfl)]; rfl) rfl ?_
    (conv=>whnf);(try(refine ⟨(rfl:(_:Heap)=_),?_⟩;(conv=>whnf)))
    refine callPartX [9, 10, 5, 6, 7, 8] [⟨1, 48, 8, [encW w], 0⟩, ⟨1, 37, 44, [encM m], 0⟩, ⟨1, 48, 8, [zeW], 0⟩, ⟨1, 37, 44, [zeM], 0⟩, ⟨1, 87, 23, [encEv noEve], 0⟩, ⟨1, 0, 5, (w.versions.map encV).set m.version.toNat ((encS v0.snap ++ [C.sl (6) [] 2 0 v0.groups.length false, Bo v0.freed])), 0⟩, ⟨1, 0, 2, (v0.groups.map encG).set m.cluster.toNat ([U (tk), C.sl (7) [] 3 0 g0.ends.length false]), 0⟩, ⟨1, 0, 3, (g0.ends.map encE).set m.end_.toNat ([U (hd), C.sl (8) [] 1 0 e0.next.length false, I (ac)]), 0⟩, ⟨2, 3, 1, e0.next.map encI, 0⟩, ⟨1, 48, 8, [[I w.epoch, I w.current, I w.lock, lI w.pins, .sl 5 [] 5 0 w.versions.length false, lL w.listens, lCo w.counts, lR w.limbo]], 0⟩, ⟨1, 37, 44, [encM m'], 0⟩] (rx := Ce e) h (flat_cons rfl (flat_cons rfl (flat_cons (flat_kept (ownV 3)) (flat_cons (flat_kept (ownG 4 _)) (flat_cons (flat_kept (ownE 5 _ _)) rfl))))) (by show renOb _ _ :: renOb _ _ :: renOb _ ⟨1, 0, 5, _, 0⟩ :: renOb _ ⟨1, 0, 2, _, 0⟩ :: renOb _ ⟨1, 0, 3, _, 0⟩ :: _ = _; rw [ren_kept (enc := encV) (fun _ => rfl), ren_kept (enc := encG) (fun _ => rfl), ren_kept (enc := encE) (fun _ => rfl)]; rfl) rfl rfl rfl (flat_cons rfl (flat_cons rfl (flat_cons rfl (flat_cons rfl (flat_cons rfl (flat_cons (flat_kept (ownV 6)) (flat_cons (flat_kept (ownG 7 _)) (flat_cons (flat_kept (ownE 8 _ _)) rfl)))))))) (by show _ :: _ :: _ :: _ :: _ :: mapOb _ ⟨1, 0, 5, _, 0⟩ :: mapOb _ ⟨1, 0, 2, _, 0⟩ :: mapOb _ ⟨1, 0, 3, _, 0⟩ :: _ = _; rw [map_kept (enc := encV) (fun _ => rfl), map_kept (enc := encG) (fun _ => rfl), map_kept (enc := encE) (fun _ => rfl)]; rfl) rfl ?_
    (conv=>whnf);(try(refine ⟨(rfl:(_:Heap)=_),?_⟩;(conv=>whnf)))
    refine .inl ⟨⟨false, [0, 1, 2], [9, 10, 11], []⟩, by kernel_rfl, ?_⟩; (conv => whnf)
    repeat (refine ⟨rfl, ?_⟩; ((conv=>whnf);(try(refine ⟨(rfl:(_:Heap)=_),?_⟩;(conv=>whnf)))))
    refine ⟨.inl rfl, _, (((Weak.freezeC 7 m.end_.toNat 1 rfl ge rfl rfl (.inr rfl) (by simp) (by simp) (shut_map (enc := encI) (fun _ => rfl) _) (ownE 8 _ _)).trans (Weak.freezeC 6 m.cluster.toNat 1 rfl gg rfl rfl (.inl rfl) (by simp) (by simp) eshE (ownG 7 _))).trans (Weak.freezeC 5 m.version.toNat 3 rfl gv rfl rfl (.inl rfl) (by simp) (by simp) eshG (ownV 6))).trans (Weak.freezeC 2 0 4 rfl rfl rfl rfl (.inl rfl) (by simp) (by simp) eshV (one_noOwn rfl)), ?_⟩
    show _ = some (C.tup [C.agg [I w.epoch, I w.current, I w.lock, lI w.pins, C.lst 0 5 ((w.versions.set m.version.toNat (turnV1 m v0 g0 e0 tk hd ac)).map encV), lL w.listens, lCo w.counts, lR w.limbo], Cm m', Ce e])
    rw [← estV, ← estG, ← estE]
    rfl
theorem h12_sound {w : Wor} {m m' : Mac} {e : Eve} {v0 : Ver} {g0 : Gr} {e0 : En} {tk hd ac : Int} (sw : SmWor w) (ok : OkW w) (hl : i64 m.listen) (hpc : m.pc = 12) (hs : suitsV w m = true) (hat : AtE w m v0 g0 e0) (hne : e0.next ≠ [])
    (h : SoundAt Tryz.prog 121 [⟨1, 48, 8, [[I w.epoch, I w.current, I w.lock, lI w.pins, .sl 2 [] 5 0 w.versions.length false, lL w.listens, lCo w.counts, lR w.limbo]], 0⟩, ⟨1, 37, 44, [encM m], 0⟩, ⟨1, 0, 5, (w.versions.map encV).set m.version.toNat ((encS v0.snap ++ [C.sl (3) [] 2 0 v0.groups.length false, Bo v0.freed])), 0⟩, ⟨1, 0, 2, (v0.groups.map encG).set m.cluster.toNat ([U (g0.ticket), C.sl (4) [] 3 0 g0.ends.length false]), 0⟩, ⟨1, 0, 3, (g0.ends.map encE).set m.end_.toNat ([U (e0.head), C.sl (5) [] 1 0 e0.next.length false, I (e0.active)]), 0⟩, ⟨2, 3, 1, e0.next.map encI, 0⟩] [.agg [.ref 0 [] 8 0 0, .ref 1 [] 44 0 0]] (Ce e) [⟨1, 48, 8, [[I w.epoch, I w.current, I w.lock, lI w.pins, .sl 2 [] 5 0 w.versions.length false, lL w.listens, lCo w.counts, lR w.limbo]], 0⟩, ⟨1, 37, 44, [encM m'], 0⟩, ⟨1, 0, 5, (w.versions.map encV).set m.version.toNat ((encS v0.snap ++ [C.sl (3) [] 2 0 v0.groups.length false, Bo v0.freed])), 0⟩, ⟨1, 0, 2, (v0.groups.map encG).set m.cluster.toNat ([U (tk), C.sl (4) [] 3 0 g0.ends.length false]), 0⟩, ⟨1, 0, 3, (g0.ends.map encE).set m.end_.toNat ([U (hd), C.sl (5) [] 1 0 e0.next.length false, I (ac)]), 0⟩, ⟨2, 3, 1, e0.next.map encI, 0⟩]) : SoundAt Tryz.prog 62 [] [Cw w, Cm m] (.tup [Cw (turnW w m v0 g0 e0 tk hd ac), Cm m', Ce e]) [] := by
  have lv := hat.ln.lv
  have lg := hat.ln.lg
  have le := hat.ln.le
  have smv := sw.versions.2 v0 (List.mem_of_getElem? hat.at_)
  have hp : PathV w.versions m.version.toNat v0 m.cluster.toNat g0 m.end_.toNat e0 := ⟨⟨⟨smv.2 g0 (List.mem_of_getElem? hat.atg), hat.ate, hne⟩, smv, hat.atg⟩, sw.versions, hat.at_⟩
  have ownV : ∀ i, ∀ r ∈ (w.versions.map encV).set m.version.toNat ((encS v0.snap ++ [C.sl (i) [] 2 0 v0.groups.length false, Bo v0.freed])), ∀ c ∈ r, noOwn c = true := fun i => set_all (enc := encV) (fun _ => rfl) rfl _ _
  have ownG : ∀ i t, ∀ r ∈ (v0.groups.map encG).set m.cluster.toNat ([U (t), C.sl (i) [] 3 0 g0.ends.length false]), ∀ c ∈ r, noOwn c = true := fun i t => set_all (enc := encG) (fun _ => rfl) rfl _ _
  have ownE : ∀ i a b, ∀ r ∈ (g0.ends.map encE).set m.end_.toNat ([U (a), C.sl (i) [] 1 0 e0.next.length false, I (b)]), ∀ c ∈ r, noOwn c = true := fun i a b => set_all (enc := encE) (fun _ => rfl) rfl _ _
  have gv : ((w.versions.map encV).set m.version.toNat ((encS v0.snap ++ [C.sl (6) [] 2 0 v0.groups.length false, Bo v0.freed])))[m.version.toNat]? = some ((encS v0.snap ++ [C.sl (6) [] 2 0 v0.groups.length false, Bo v0.freed])) := List.getElem?_set_self (by simpa using lv)
  have gg : ((v0.groups.map encG).set m.cluster.toNat ([U (tk), C.sl (7) [] 3 0 g0.ends.length false]))[m.cluster.toNat]? = some ([U (tk), C.sl (7) [] 3 0 g0.ends.length false]) := List.getElem?_set_self (by simpa using lg)
  have ge : ((g0.ends.map encE).set m.end_.toNat ([U (hd), C.sl (8) [] 1 0 e0.next.length false, I (ac)]))[m.end_.toNat]? = some ([U (hd), C.sl (8) [] 1 0 e0.next.length false, I (ac)]) := List.getElem?_set_self (by simpa using le)
  have estE : (((g0.ends.map encE).set m.end_.toNat ([U (hd), C.sl (8) [] 1 0 e0.next.length false, I (ac)])).set m.end_.toNat [U hd, C.lst 0 1 (e0.next.map encI), I ac]) = (g0.ends.set m.end_.toNat (turnE e0 hd ac)).map encE := by rw [List.set_set]; exact map_setS encE _ _ (turnE e0 hd ac) _ rfl
  have estG : (((v0.groups.map encG).set m.cluster.toNat ([U (tk), C.sl (7) [] 3 0 g0.ends.length false])).set m.cluster.toNat [U tk, C.lst 0 3 (((g0.ends.set m.end_.toNat (turnE e0 hd ac)).map encE))]) = (v0.groups.set m.cluster.toNat (turnG m g0 e0 tk hd ac)).map encG := by rw [List.set_set]; exact map_setS encG _ _ (turnG m g0 e0 tk hd ac) _ rfl
  have estV : (((w.versions.map encV).set m.version.toNat ((encS v0.snap ++ [C.sl (6) [] 2 0 v0.groups.length false, Bo v0.freed]))).set m.version.toNat (encS v0.snap ++ [C.lst 0 2 (((v0.groups.set m.cluster.toNat (turnG m g0 e0 tk hd ac)).map encG)), Bo v0.freed])) = (w.versions.set m.version.toNat (turnV1 m v0 g0 e0 tk hd ac)).map encV := by rw [List.set_set]; exact map_setS encV _ _ (turnV1 m v0 g0 e0 tk hd ac) _ rfl
  have eshE : ∀ r ∈ (((g0.ends.map encE).set m.end_.toNat ([U (hd), C.sl (8) [] 1 0 e0.next.length false, I (ac)])).set m.end_.toNat [U hd, C.lst 0 1 (e0.next.map encI), I ac]), ∀ c ∈ r, shutC c = true ∧ noOwn c = true := by
    rw [estE]
    exact shut_map (enc := encE) (fun _ => rfl) _
  have eshG : ∀ r ∈ (((v0.groups.map encG).set m.cluster.toNat ([U (tk), C.sl (7) [] 3 0 g0.ends.length false])).set m.cluster.toNat [U tk, C.lst 0 3 (((g0.ends.map encE).set m.end_.toNat ([U (hd), C.sl (8) [] 1 0 e0.next.length false, I (ac)])).set m.end_.toNat [U hd, C.lst 0 1 (e0.next.map encI), I ac])]), ∀ c ∈ r, shutC c = true ∧ noOwn c = true := by
    rw [estE, estG]
    exact shut_map (enc := encG) (fun _ => rfl) _
  have eshV : ∀ r ∈ (((w.versions.map encV).set m.version.toNat ((encS v0.snap ++ [C.sl (6) [] 2 0 v0.groups.length false, Bo v0.freed]))).set m.version.toNat (encS v0.snap ++ [C.lst 0 2 (((v0.groups.map encG).set m.cluster.toNat ([U (tk), C.sl (7) [] 3 0 g0.ends.length false])).set m.cluster.toNat [U tk, C.lst 0 3 (((g0.ends.map encE).set m.end_.toNat ([U (hd), C.sl (8) [] 1 0 e0.next.length false, I (ac)])).set m.end_.toNat [U hd, C.lst 0 1 (e0.next.map encI), I ac])]), Bo v0.freed])), ∀ c ∈ r, shutC c = true ∧ noOwn c = true := by
    rw [estE, estG, estV]
    exact shut_map (enc := encV) (fun _ => rfl) _
  by_cases hn : m.listen < 0
  all_goals
    refine SoundAt.of_wpA1 (fn := Tryz.f62) Tryz.func62 rfl ?_
    conv => whnf
    (repeat (first | (refine ⟨fun _ => ?_, ?_⟩; rotate_left 1; (focus (intro h; first | (simp [hpc] at h; done) | (have h := of_decide_eq_true h; omega) | (have h := of_decide_eq_false h; omega))); ((conv=>whnf);(try(refine ⟨(rfl:(_:Heap)=_),?_⟩;(conv=>whnf))))) | (refine ⟨?_, fun _ => ?_⟩; (focus (intro h; first | (simp [hpc] at h; done) | (have h := of_decide_eq_true h; omega) | (have h := of_decide_eq_false h; omega))); ((conv=>whnf);(try(refine ⟨(rfl:(_:Heap)=_),?_⟩;(conv=>whnf)))))))
    refine ⟨_, _, (suits_sound w m ok hl).frame rfl _, ?_⟩; (conv=>whnf);(try(refine ⟨(rfl:(_:Heap)=_),?_⟩;(conv=>whnf)))
    refine ⟨fun _ => ?_, fun h => absurd ((hs).symm.trans h : true = false) (by decide)⟩; (conv=>whnf);(try(refine ⟨(rfl:(_:Heap)=_),?_⟩;(conv=>whnf)))
    (repeat (first | (refine ⟨fun _ => ?_, fun h => absurd h (by decide)⟩; (conv=>whnf);(try(refine ⟨(rfl:(_:Heap)=_),?_⟩;(conv=>whnf)))) | (refine ⟨fun h => absurd h (by decide), fun _ => ?_⟩; (conv=>whnf);(try(refine ⟨(rfl:(_:Heap)=_),?_⟩;(conv=>whnf))))))
    (repeat (first | (refine ⟨fun _ => ?_, ?_⟩; rotate_left 1; (focus (intro h; first | (simp [hpc] at h; done) | (have h := of_decide_eq_true h; omega) | (have h := of_decide_eq_false h; omega))); ((conv=>whnf);(try(refine ⟨(rfl:(_:Heap)=_),?_⟩;(conv=>whnf))))) | (refine ⟨?_, fun _ => ?_⟩; (focus (intro h; first | (simp [hpc] at h; done) | (have h := of_decide_eq_true h; omega) | (have h := of_decide_eq_false h; omega))); ((conv=>whnf);(try(refine ⟨(rfl:(_:Heap)=_),?_⟩;(conv=>whnf)))))))
    refine .inl ⟨⟨true, [2], [1], [0]⟩, by kernel_rfl, ?_⟩; (conv => whnf)
    refine ⟨_, _, (table_sound).frame rfl _, ?_⟩; (conv=>whnf);(try(refine ⟨(rfl:(_:Heap)=_),?_⟩;(conv=>whnf)))
    (repeat (refine ⟨rfl, ?_⟩; ((conv=>whnf);(try(refine ⟨(rfl:(_:Heap)=_),?_⟩;(conv=>whnf))))))
    (refine ⟨by omega, by omega, pf 121, by rw [hpc]; rfl, ?_⟩); (conv=>whnf);(try(refine ⟨(rfl:(_:Heap)=_),?_⟩;(conv=>whnf)))
    (repeat (first | (refine ⟨fun _ => ?_, fun h => absurd h (by decide)⟩; (conv=>whnf);(try(refine ⟨(rfl:(_:Heap)=_),?_⟩;(conv=>whnf)))) | (refine ⟨fun h => absurd h (by decide), fun _ => ?_⟩; (conv=>whnf);(try(refine ⟨(rfl:(_:Heap)=_),?_⟩;(conv=>whnf))))))
    refine callPartX [] [⟨1, 48, 8, [encW w], 0⟩, ⟨1, 37, 44, [encM m], 0⟩, ⟨1, 48, 8, [zeW], 0⟩, ⟨1, 37, 44, [zeM], 0⟩, ⟨1, 87, 23, [encEv noEve], 0⟩, ⟨1, 0, 5, (w.versions.map encV).set m.version.toNat ((encS v0.snap ++ [C.sl (6) [] 2 0 v0.groups.length false, Bo v0.freed])), 0⟩, ⟨1, 0, 2, (v0.groups.map encG).set m.cluster.toNat ([U (g0.ticket), C.sl (7) [] 3 0 g0.ends.length false]), 0⟩, ⟨1, 0, 3, (g0.ends.map encE).set m.end_.toNat ([U (e0.head), C.sl (8) [] 1 0 e0.next.length false, I (e0.active)]), 0⟩, ⟨2, 3, 1, e0.next.map encI, 0⟩] (rx := .agg [I w.epoch, I w.current, I w.lock, lI w.pins, .sl 5 [] 5 0 w.versions.length false, lL w.listens, lCo w.counts, lR w.limbo]) (cloneE_sound w sw w.versions rfl hp) (flat_cons (flat_kept (ownV 1)) (flat_cons (flat_kept (ownG 2 _)) (flat_cons (flat_kept (ownE 3 _ _)) rfl))) rfl rfl rfl rfl rfl (by show _ :: _ :: _ :: _ :: _ :: mapOb _ ⟨1, 0, 5, _, 0⟩ :: mapOb _ ⟨1, 0, 2, _, 0⟩ :: mapOb _ ⟨1, 0, 3, _, 0⟩ :: _ = _; rw [map_kept (enc := encV) (fun _ => rfl), map_kept (enc := encG) (fun _ => rfl), map_kept (enc := encE) (fun _ => rfl)]; rfl) rfl ?_
    (conv=>whnf);(try(refine ⟨(rfl:(_:Heap)=_),?_⟩;(conv=>whnf)))
    refine callPartX [9, 10, 5, 6, 7, 8] [⟨1, 48, 8, [encW w], 0⟩, ⟨1, 37, 44, [encM m], 0⟩, ⟨1, 48, 8, [zeW], 0⟩, ⟨1, 37, 44, [zeM], 0⟩, ⟨1, 87, 23, [encEv noEve], 0⟩, ⟨1, 0, 5, (w.versions.map encV).set m.version.toNat ((encS v0.snap ++ [C.sl (6) [] 2 0 v0.groups.length false, Bo v0.freed])), 0⟩, ⟨1, 0, 2, (v0.groups.map encG).set m.cluster.toNat ([U (tk), C.sl (7) [] 3 0 g0.ends.length false]), 0⟩, ⟨1, 0, 3, (g0.ends.map encE).set m.end_.toNat ([U (hd), C.sl (8) [] 1 0 e0.next.length false, I (ac)]), 0⟩, ⟨2, 3, 1, e0.next.map encI, 0⟩, ⟨1, 48, 8, [[I w.epoch, I w.current, I w.lock, lI w.pins, .sl 5 [] 5 0 w.versions.length false, lL w.listens, lCo w.counts, lR w.limbo]], 0⟩, ⟨1, 37, 44, [encM m'], 0⟩] (rx := Ce e) h (flat_cons rfl (flat_cons rfl (flat_cons (flat_kept (ownV 3)) (flat_cons (flat_kept (ownG 4 _)) (flat_cons (flat_kept (ownE 5 _ _)) rfl))))) (by show renOb _ _ :: renOb _ _ :: renOb _ ⟨1, 0, 5, _, 0⟩ :: renOb _ ⟨1, 0, 2, _, 0⟩ :: renOb _ ⟨1, 0, 3, _, 0⟩ :: _ = _; rw [ren_kept (enc := encV) (fun _ => rfl), ren_kept (enc := encG) (fun _ => rfl), ren_kept (enc := encE) (fun _ => rfl)]; rfl) rfl rfl rfl (flat_cons rfl (flat_cons rfl (flat_cons rfl (flat_cons rfl (flat_cons rfl (flat_cons (flat_kept (ownV 6)) (flat_cons (flat_kept (ownG 7 _)) (flat_cons (flat_kept (ownE 8 _ _)) rfl)))))))) (by show _ :: _ :: _ :: _ :: _ :: mapOb _ ⟨1, 0, 5, _, 0⟩ :: mapOb _ ⟨1, 0, 2, _, 0⟩ :: mapOb _ ⟨1, 0, 3, _, 0⟩ :: _ = _; rw [map_kept (enc := encV) (fun _ => rfl), map_kept (enc := encG) (fun _ => rfl), map_kept (enc := encE) (fun _ => rfl)]; rfl) rfl ?_
    (conv=>whnf);(try(refine ⟨(rfl:(_:Heap)=_),?_⟩;(conv=>whnf)))
    refine .inl ⟨⟨false, [0, 1, 2], [9, 10, 11], []⟩, by kernel_rfl, ?_⟩; (conv => whnf)
    repeat (refine ⟨rfl, ?_⟩; ((conv=>whnf);(try(refine ⟨(rfl:(_:Heap)=_),?_⟩;(conv=>whnf)))))
    refine ⟨.inl rfl, _, (((Weak.freezeC 7 m.end_.toNat 1 rfl ge rfl rfl (.inr rfl) (by simp) (by simp) (shut_map (enc := encI) (fun _ => rfl) _) (ownE 8 _ _)).trans (Weak.freezeC 6 m.cluster.toNat 1 rfl gg rfl rfl (.inl rfl) (by simp) (by simp) eshE (ownG 7 _))).trans (Weak.freezeC 5 m.version.toNat 3 rfl gv rfl rfl (.inl rfl) (by simp) (by simp) eshG (ownV 6))).trans (Weak.freezeC 2 0 4 rfl rfl rfl rfl (.inl rfl) (by simp) (by simp) eshV (one_noOwn rfl)), ?_⟩
    show _ = some (C.tup [C.agg [I w.epoch, I w.current, I w.lock, lI w.pins, C.lst 0 5 ((w.versions.set m.version.toNat (turnV1 m v0 g0 e0 tk hd ac)).map encV), lL w.listens, lCo w.counts, lR w.limbo], Cm m', Ce e])
    rw [← estV, ← estG, ← estE]
    rfl
end Go.Wor
