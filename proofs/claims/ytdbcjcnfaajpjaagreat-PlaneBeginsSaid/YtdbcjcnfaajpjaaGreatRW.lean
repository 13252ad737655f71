import Derived.Test.YtdbcjcnfaajpjaaGreatRV
namespace Go.Wor
open Go.Ab Go.Proofs Go.Hy Go.Gat Go.Nam Go.Hos Go.Con Go.Sna
set_option linter.unusedVariables false
set_option linter.unusedSimpArgs false
set_option maxRecDepth 100000
set_option maxHeartbeats 4000000
abbrev evO (m : Mac) (a b c : Int) : Eve := ⟨m.thread, 0, a, b, -1, false, c, false, false, false, noAns⟩
abbrev evV (m : Mac) (v : Ver) (a b c : Int) : Eve := ⟨m.thread, 0, a, b, m.version, v.freed, c, false, false, false, noAns⟩
theorem other_sound (m : Mac) (a b c : Int) : SoundAt Tryz.prog 152 [⟨1, 37, 44, [encM (m)], 0⟩] [.agg [.junk, .ref 0 [] 44 0 0], I a, I b, I c] (Ce (evO m a b c)) [⟨1, 37, 44, [encM (m)], 0⟩] := by
  refine of_wpX (fn := Tryz.f152) Tryz.func152 rfl (Nat.le_refl _) ?_; conv => whnf
  exact ⟨.inl rfl, _, _, .refl _, rfl, Weak.covD 1 (by (conv => whnf); (repeat (refine ⟨rfl, ?_⟩; (conv => whnf))); exact trivial) rfl rfl rfl rfl rfl⟩
abbrev ansK (n : Int) : Ans := ⟨n, 0, 0, 0, 0, 0, 0, ⟨0, 0, 0, 0, 0, 0⟩⟩
abbrev endsM (m : Mac) (n : Int) : Mac := { m with answer := ansK n, pc := 20 }
theorem ends_sound (m : Mac) (n : Int) : SoundAt Tryz.prog 153 [⟨1, 37, 44, [encM (m)], 0⟩] [.agg [.junk, .ref 0 [] 44 0 0], I n] (.tup []) [⟨1, 37, 44, [encM (endsM m n)], 0⟩] := by
  refine of_wpX (fn := Tryz.f153) Tryz.func153 rfl (Nat.le_refl _) ?_; conv => whnf
  refine .inl ⟨⟨false, [3], [1], []⟩, by kernel_rfl, ?_⟩; (conv => whnf)
  repeat (refine ⟨rfl, ?_⟩; ((conv=>whnf);(try(refine ⟨(rfl:(_:Heap)=_),?_⟩;(conv=>whnf)))))
  exact ⟨.inr rfl, _, _, .refl _, rfl, Weak.covD 1 (by (conv => whnf); (repeat (refine ⟨rfl, ?_⟩; (conv => whnf))); exact trivial) rfl rfl rfl rfl rfl⟩
structure AtV (w : Wor) (m : Mac) (v : Ver) : Prop where
  v0 : 0 ≤ m.version
  at_ : w.versions[m.version.toNat]? = some v
theorem AtV.row {w : Wor} {m : Mac} {v : Ver} (h : AtV w m v) : (w.versions.map encV)[m.version.toNat]? = some (encV v) := by rw [List.getElem?_map, h.at_]; rfl
theorem own_sound (w : Wor) (m : Mac) (v : Ver) (hv : AtV w m v) (a b c : Int) : SoundAt Tryz.prog 158 [⟨1, 48, 8, [encW w], 0⟩, ⟨1, 37, 44, [encM (m)], 0⟩] [.agg [.ref 0 [] 8 0 0, .ref 1 [] 44 0 0], I a, I b, I c] (Ce (evV m v a b c)) [⟨1, 48, 8, [encW w], 0⟩, ⟨1, 37, 44, [encM (m)], 0⟩] := by
  have h0 := hv.v0
  have hr := hv.row
  obtain ⟨sn, gs, fr⟩ := v
  cases fr
  all_goals
    refine of_wpX (fn := Tryz.f158) Tryz.func158 rfl (Nat.le_refl _) ?_; conv => whnf
    refine callPart [1] (other_sound m a b c) rfl rfl rfl rfl rfl rfl ?_; (conv=>whnf);(try(refine ⟨(rfl:(_:Heap)=_),?_⟩;(conv=>whnf)))
    refine .inl ⟨⟨false, [6, 9, 11, 14, 17], [0, 1, 2], []⟩, by kernel_rfl, ?_⟩; (conv => whnf)
    (refine ⟨h0, _, hr, ?_⟩); (conv=>whnf);(try(refine ⟨(rfl:(_:Heap)=_),?_⟩;(conv=>whnf)))
    first | ((refine ⟨fun _ => ?_, fun h => absurd (h.symm.trans rfl : false = true) (by decide)⟩); (conv=>whnf);(try(refine ⟨(rfl:(_:Heap)=_),?_⟩;(conv=>whnf)))) | ((refine ⟨fun h => absurd (h.symm.trans rfl : true = false) (by decide), fun _ => ?_⟩); (conv=>whnf);(try(refine ⟨(rfl:(_:Heap)=_),?_⟩;(conv=>whnf))))
    repeat (refine ⟨rfl, ?_⟩; ((conv=>whnf);(try(refine ⟨(rfl:(_:Heap)=_),?_⟩;(conv=>whnf)))))
    exact ⟨.inl rfl, _, _, .refl _, rfl, Weak.covD 2 (by (conv => whnf); (repeat (refine ⟨rfl, ?_⟩; (conv => whnf))); exact trivial) rfl rfl rfl rfl rfl⟩
theorem callPtr {P : Program} {f : FuncId} (sel : List Nat) {K H0 H' : Heap} {args args0 : List C} {r : C} (h : SoundAt P f H0 args0 r H') (hR : flatH H' = true)
    (hH : renH sel K = H0) (ha : args.map (renC sel 9) = args0) (hall : sel.all (fun id => Nat.blt id K.length) = true) (hnd : nodupB sel = true) (hfl : flatH K = true) {k : C → Heap → Prop}
    (hk : forceH (plug sel K H') fun X => forceC (mapC (backI sel K.length) 9 r) fun c => k c X) : ∃ R', SoundR P f K args R' ∧ ∀ r H2, R' r H2 → k r H2 :=
  callPartRc sel (h.toR (R := fun x X => x = r ∧ X = H') ⟨rfl, rfl⟩) (fun _ _ e => e.2 ▸ hR) hH ha hall hnd hfl (by rintro _ _ ⟨rfl, rfl⟩; exact hk)
structure AtG (w : Wor) (m : Mac) (v : Ver) (g : Gr) : Prop extends AtV w m v where
  g0 : 0 ≤ m.cluster
  atg : v.groups[m.cluster.toNat]? = some g
theorem AtG.rowg {w : Wor} {m : Mac} {v : Ver} {g : Gr} (h : AtG w m v g) : (v.groups.map encG)[m.cluster.toNat]? = some (encG g) := by rw [List.getElem?_map, h.atg]; rfl
structure AtE (w : Wor) (m : Mac) (v : Ver) (g : Gr) (e : En) : Prop extends AtG w m v g where
  e0 : 0 ≤ m.end_
  ate : g.ends[m.end_.toNat]? = some e
theorem AtE.rowe {w : Wor} {m : Mac} {v : Ver} {g : Gr} {e : En} (h : AtE w m v g e) : (g.ends.map encE)[m.end_.toNat]? = some (encE e) := by rw [List.getElem?_map, h.ate]; rfl
theorem group_sound (w : Wor) (m : Mac) (v : Ver) (g : Gr) (hv : AtG w m v g) : SoundAt Tryz.prog 155 [⟨1, 48, 8, [encW w], 0⟩, ⟨1, 37, 44, [encM (m)], 0⟩] [.agg [.ref 0 [] 8 0 0, .ref 1 [] 44 0 0]] (.sref (encG g)) [⟨1, 48, 8, [encW w], 0⟩, ⟨1, 37, 44, [encM (m)], 0⟩] := by
  have h0 := hv.v0
  have hr := hv.row
  have g0 := hv.g0
  have gr := hv.rowg
  refine of_wpX (fn := Tryz.f155) Tryz.func155 rfl (Nat.le_refl _) ?_; conv => whnf
  refine .inl ⟨⟨false, [], [], []⟩, by kernel_rfl, ?_⟩; (conv => whnf)
  (refine ⟨h0, _, hr, ?_⟩); (conv=>whnf);(try(refine ⟨(rfl:(_:Heap)=_),?_⟩;(conv=>whnf)))
  (refine ⟨g0, _, gr, ?_⟩); (conv=>whnf);(try(refine ⟨(rfl:(_:Heap)=_),?_⟩;(conv=>whnf)))
  exact ⟨.inl rfl, _, _, .refl _, rfl, Weak.covD 2 (by (conv => whnf); (repeat (refine ⟨rfl, ?_⟩; (conv => whnf))); exact trivial) rfl rfl rfl rfl rfl⟩
theorem end_sound (w : Wor) (m : Mac) (v : Ver) (g : Gr) (e : En) (hv : AtE w m v g e) : SoundAt Tryz.prog 159 [⟨1, 48, 8, [encW w], 0⟩, ⟨1, 37, 44, [encM (m)], 0⟩] [.agg [.ref 0 [] 8 0 0, .ref 1 [] 44 0 0]] (.sref (encE e)) [⟨1, 48, 8, [encW w], 0⟩, ⟨1, 37, 44, [encM (m)], 0⟩] := by
  have e0 := hv.e0
  have er := hv.rowe
  refine of_wpX (fn := Tryz.f159) Tryz.func159 rfl (Nat.le_refl _) ?_; conv => whnf
  refine .inl ⟨⟨true, [], [], [1]⟩, by kernel_rfl, ?_⟩; (conv => whnf)
  refine callPart [0, 1] (group_sound w m v g hv.toAtG) rfl rfl rfl rfl rfl rfl ?_; (conv=>whnf);(try(refine ⟨(rfl:(_:Heap)=_),?_⟩;(conv=>whnf)))
  repeat (refine ⟨rfl, ?_⟩; ((conv=>whnf);(try(refine ⟨(rfl:(_:Heap)=_),?_⟩;(conv=>whnf)))))
  (refine ⟨e0, _, er, ?_⟩); (conv=>whnf);(try(refine ⟨(rfl:(_:Heap)=_),?_⟩;(conv=>whnf)))
  exact ⟨.inl rfl, _, _, .refl _, rfl, Weak.covD 2 (by (conv => whnf); (repeat (refine ⟨rfl, ?_⟩; (conv => whnf))); exact trivial) rfl rfl rfl rfl rfl⟩
theorem cluster_sound (w : Wor) (m : Mac) (v : Ver) (c : Clu) (hv : AtV w m v) (c0 : 0 ≤ m.cluster) (hc : v.snap.clusters[m.cluster.toNat]? = some c) : SoundAt Tryz.prog 157 [⟨1, 48, 8, [encW w], 0⟩, ⟨1, 37, 44, [encM (m)], 0⟩] [.agg [.ref 0 [] 8 0 0, .ref 1 [] 44 0 0]] (Cc c) [⟨1, 48, 8, [encW w], 0⟩, ⟨1, 37, 44, [encM (m)], 0⟩] := by
  have h0 := hv.v0
  have hr := hv.row
  have cr : (v.snap.clusters.map encC)[m.cluster.toNat]? = some (encC c) := by rw [List.getElem?_map, hc]; rfl
  refine of_wpX (fn := Tryz.f157) Tryz.func157 rfl (Nat.le_refl _) ?_; conv => whnf
  refine .inl ⟨⟨false, [], [], []⟩, by kernel_rfl, ?_⟩; (conv => whnf)
  (refine ⟨h0, _, hr, ?_⟩); (conv=>whnf);(try(refine ⟨(rfl:(_:Heap)=_),?_⟩;(conv=>whnf)))
  (refine ⟨c0, _, cr, ?_⟩); (conv=>whnf);(try(refine ⟨(rfl:(_:Heap)=_),?_⟩;(conv=>whnf)))
  exact ⟨.inl rfl, _, _, .refl _, rfl, Weak.covD 2 (by (conv => whnf); (repeat (refine ⟨rfl, ?_⟩; (conv => whnf))); exact trivial) rfl rfl rfl rfl rfl⟩
theorem loadNext_sound (w : Wor) (m : Mac) (v : Ver) (g : Gr) (e : En) (hv : AtE w m v g e) {x : Int} (s0 : 0 ≤ m.slot) (hx : e.next[m.slot.toNat]? = some x) :
    SoundAt Tryz.prog 119 [⟨1, 48, 8, [encW w], 0⟩, ⟨1, 37, 44, [encM (m)], 0⟩] [.agg [.ref 0 [] 8 0 0, .ref 1 [] 44 0 0]] (Ce (evV m v 1 9 x)) [⟨1, 48, 8, [encW w], 0⟩, ⟨1, 37, 44, [encM ({ m with link := x, pc := 11 })], 0⟩] := by
  have er : (e.next.map encI)[m.slot.toNat]? = some (encI x) := by rw [List.getElem?_map, hx]; rfl
  refine of_wpX (fn := Tryz.f119) Tryz.func119 rfl (Nat.le_refl _) ?_; conv => whnf
  refine .inl ⟨⟨true, [3], [2], [5]⟩, by kernel_rfl, ?_⟩; (conv => whnf)
  refine callPart [0, 1] (end_sound w m v g e hv) rfl rfl rfl rfl rfl rfl ?_; (conv=>whnf);(try(refine ⟨(rfl:(_:Heap)=_),?_⟩;(conv=>whnf)))
  repeat (refine ⟨rfl, ?_⟩; ((conv=>whnf);(try(refine ⟨(rfl:(_:Heap)=_),?_⟩;(conv=>whnf)))))
  (refine ⟨s0, _, er, ?_⟩); (conv=>whnf);(try(refine ⟨(rfl:(_:Heap)=_),?_⟩;(conv=>whnf)))
  repeat (refine ⟨rfl, ?_⟩; ((conv=>whnf);(try(refine ⟨(rfl:(_:Heap)=_),?_⟩;(conv=>whnf)))))
  refine .inl ⟨⟨true, [], [], []⟩, by kernel_rfl, ?_⟩; (conv => whnf)
  refine callPart [0, 1] (own_sound w { m with link := x, pc := 11 } v ⟨hv.v0, hv.at_⟩ 1 9 x) rfl rfl rfl rfl rfl rfl ?_; (conv=>whnf);(try(refine ⟨(rfl:(_:Heap)=_),?_⟩;(conv=>whnf)))
  exact ⟨.inl rfl, _, _, .refl _, rfl, Weak.covD 2 (by (conv => whnf); (repeat (refine ⟨rfl, ?_⟩; (conv => whnf))); exact trivial) rfl rfl rfl rfl rfl⟩
theorem loadHead_sound (w : Wor) (m : Mac) (v : Ver) (g : Gr) (e : En) (hv : AtE w m v g e) (he : u64 e.head) (hi : 0 ≤ e.head % 4294967296 - 1 ∧ e.head % 4294967296 - 1 < e.next.length) :
    SoundAt Tryz.prog 118 [⟨1, 48, 8, [encW w], 0⟩, ⟨1, 37, 44, [encM (m)], 0⟩] [.agg [.ref 0 [] 8 0 0, .ref 1 [] 44 0 0]] (Ce (evV m v 1 8 (e.head % 4294967296 - 1))) [⟨1, 48, 8, [encW w], 0⟩, ⟨1, 37, 44, [encM ({ m with word := e.head, slot := e.head % 4294967296 - 1, pc := 10 })], 0⟩] := by
  have hi1 := hi.1
  have hi2 := hi.2
  have ml : (e.next.map encI).length = e.next.length := List.length_map ..
  refine of_wpX (fn := Tryz.f118) Tryz.func118 rfl (Nat.le_refl _) ?_; conv => whnf
  refine callPtr [0, 1] (end_sound w m v g e hv) rfl rfl rfl rfl rfl rfl ?_; (conv=>whnf);(try(refine ⟨(rfl:(_:Heap)=_),?_⟩;(conv=>whnf)))
  refine ⟨_, _, (Slp.index_sound e.head he).frame rfl _, ?_⟩; (conv=>whnf);(try(refine ⟨(rfl:(_:Heap)=_),?_⟩;(conv=>whnf)))
  refine ⟨fun h => absurd h (by simp; omega), fun _ => ?_⟩
  (conv=>whnf);(try(refine ⟨(rfl:(_:Heap)=_),?_⟩;(conv=>whnf)))
  refine callPtr [0, 1] (end_sound w { m with word := e.head } v g e ⟨⟨⟨hv.v0, hv.at_⟩, hv.g0, hv.atg⟩, hv.e0, hv.ate⟩) rfl rfl rfl rfl rfl rfl ?_; (conv=>whnf);(try(refine ⟨(rfl:(_:Heap)=_),?_⟩;(conv=>whnf)))
  rw [ml]
  refine ⟨fun h => absurd h (by simp; omega), fun _ => ?_⟩
  (conv=>whnf);(try(refine ⟨(rfl:(_:Heap)=_),?_⟩;(conv=>whnf)))
  refine callPart [0, 1] (own_sound w { m with word := e.head, slot := e.head % 4294967296 - 1, pc := 10 } v ⟨hv.v0, hv.at_⟩ 1 8 (e.head % 4294967296 - 1)) rfl rfl rfl rfl rfl rfl ?_; (conv=>whnf);(try(refine ⟨(rfl:(_:Heap)=_),?_⟩;(conv=>whnf)))
  exact ⟨.inl rfl, _, _, .refl _, rfl, Weak.covD 2 (by (conv => whnf); (repeat (refine ⟨rfl, ?_⟩; (conv => whnf))); exact trivial) rfl rfl rfl rfl rfl⟩
end Go.Wor
namespace Go.Wor
open Go.Ab Go.Proofs Go.Hy Go.Gat Go.Nam Go.Hos Go.Con Go.Sna
set_option linter.unusedVariables false
set_option linter.unusedSimpArgs false
set_option maxRecDepth 100000
set_option maxHeartbeats 4000000
theorem enter_sound (w : Wor) (m : Mac) (x : Lis) (h0 : 0 ≤ m.listen) (hx : w.listens[m.listen.toNat]? = some x) :
    SoundAt Tryz.prog 113 [⟨1, 48, 8, [[I w.epoch, I w.current, I w.lock, lI w.pins, lV w.versions, .sl 2 [] 4 0 w.listens.length false, lCo w.counts, lR w.limbo]], 0⟩, ⟨1, 37, 44, [encM (m)], 0⟩, ⟨2, 77, 4, (w.listens).map encL, 0⟩] [.agg [.ref 0 [] 8 0 0, .ref 1 [] 44 0 0]] (Ce (evO m 3 5 (IntKind.i64.wrap (x.active + 1))))
      [⟨1, 48, 8, [[I w.epoch, I w.current, I w.lock, lI w.pins, lV w.versions, .sl 2 [] 4 0 w.listens.length false, lCo w.counts, lR w.limbo]], 0⟩, ⟨1, 37, 44, [encM ({ m with pc := 5 })], 0⟩, ⟨2, 77, 4, (w.listens.set m.listen.toNat { x with active := IntKind.i64.wrap (x.active + 1) }).map encL, 0⟩] := by
  have e1 : 0 + m.listen.toNat = m.listen.toNat := Nat.zero_add _
  have hlt : m.listen.toNat < w.listens.length := (List.getElem?_eq_some_iff.1 hx).1
  have gx : (w.listens.map encL)[m.listen.toNat]? = some (encL x) := by rw [List.getElem?_map, hx]; rfl
  refine of_wpX (fn := Tryz.f113) Tryz.func113 rfl (Nat.le_refl _) ?_; conv => whnf
  have hst : (w.listens.map encL).set m.listen.toNat [Tx x.name, Bo x.drain, I (IntKind.i64.wrap (x.active + 1)), Bo x.closed] = (w.listens.set m.listen.toNat { x with active := IntKind.i64.wrap (x.active + 1) }).map encL := by rw [List.map_set]; rfl
  have gx2 : ((w.listens.set m.listen.toNat { x with active := IntKind.i64.wrap (x.active + 1) }).map encL)[m.listen.toNat]? = some (encL { x with active := IntKind.i64.wrap (x.active + 1) }) := by rw [List.getElem?_map, List.getElem?_set_self hlt]; rfl
  refine .inl ⟨⟨false, [], [], []⟩, by kernel_rfl, ?_⟩; (conv => whnf)
  refine ⟨h0, hlt, ?_⟩
  (conv=>whnf);(try(refine ⟨(rfl:(_:Heap)=_),?_⟩;(conv=>whnf)))
  rw [e1]
  refine ⟨_, gx, (by show 2 + 1 ≤ 4; decide), ?_⟩
  (conv=>whnf);(try(refine ⟨(rfl:(_:Heap)=_),?_⟩;(conv=>whnf)))
  refine ⟨_, gx, rfl, ?_⟩
  (conv=>whnf);(try(refine ⟨(rfl:(_:Heap)=_),?_⟩;(conv=>whnf)))
  rw [hst]
  refine .inl ⟨⟨true, [], [], []⟩, by kernel_rfl, ?_⟩; (conv => whnf)
  refine ⟨_, gx2, (by show 2 + 1 ≤ 4; decide), ?_⟩
  (conv=>whnf);(try(refine ⟨(rfl:(_:Heap)=_),?_⟩;(conv=>whnf)))
  refine callPart [1] (other_sound { m with pc := 5 } 3 5 (IntKind.i64.wrap (x.active + 1))) rfl rfl rfl rfl rfl rfl ?_; (conv=>whnf);(try(refine ⟨(rfl:(_:Heap)=_),?_⟩;(conv=>whnf)))
  exact ⟨.inl rfl, _, _, .refl _, rfl, Weak.covD 3 (by (conv => whnf); (repeat (refine ⟨rfl, ?_⟩; (conv => whnf))); exact trivial) rfl rfl rfl rfl rfl⟩
end Go.Wor
namespace Go.Wor
open Go.Ab Go.Proofs Go.Hy Go.Gat Go.Nam Go.Hos Go.Con Go.Sna
set_option linter.unusedVariables false
set_option linter.unusedSimpArgs false
set_option maxRecDepth 100000
set_option maxHeartbeats 4000000
theorem callPartX {P : Program} {f : FuncId} (sel : List Nat) (Kx : Heap) {K H0 H' : Heap} {args args0 : List C} {r rx : C} (h : SoundAt P f H0 args0 r H') (hR : flatH H' = true)
    (hH : renH sel K = H0) (ha : args.map (renC sel 9) = args0) (hall : sel.all (fun id => Nat.blt id K.length) = true) (hnd : nodupB sel = true) (hfl : flatH K = true) {k : C → Heap → Prop}
    (hp : plug sel K H' = Kx) (hr : mapC (backI sel K.length) 9 r = rx) (hk : okB rx fun c => k c Kx) : ∃ r H2, SoundAt P f K args r H2 ∧ okB r fun c => k c H2 :=
  ⟨_, _, h.part sel hR hH ha hall hnd hfl, by rw [hp, hr]; exact hk⟩
theorem rl_cons {n : Nat} {x : Ob} {H : Heap} (h1 : rowsLow n [x] = true) (h2 : rowsLow n H = true) : rowsLow n (x :: H) = true := by
  unfold rowsLow at *
  simp only [List.all_cons, List.all_nil, Bool.and_true] at *
  rw [h1, h2]; rfl
theorem rl_kept {n ty sz fz : Nat} {rows : List (List C)} (h : ∀ r ∈ rows, ∀ c ∈ r, lowC n 9 c = true) : rowsLow n [⟨1, ty, sz, rows, fz⟩] = true := by
  unfold rowsLow
  simp only [List.all_cons, List.all_nil, Bool.and_true]
  have : (rows.all fun r => r.all (lowC n 9)) = true := List.all_eq_true.2 fun r hr => List.all_eq_true.2 fun c hc => h r hr c hc
  rw [this]; simp
theorem countAll_sound (w : Wor) (m : Mac) (r0 : List Int) (x : Int) (h0 : 0 ≤ m.thread) (hr : w.counts[m.thread.toNat]? = some r0) (hx : r0[0]? = some x) :
    SoundAt Tryz.prog 123 [⟨1, 48, 8, [[I w.epoch, I w.current, I w.lock, lI w.pins, lV w.versions, lL w.listens, .sl 2 [] 1 0 w.counts.length false, lR w.limbo]], 0⟩, ⟨1, 37, 44, [encM (m)], 0⟩, ⟨1, 0, 1, (w.counts.map encCo).set m.thread.toNat [C.sl 3 [] 1 0 r0.length false], 0⟩, ⟨2, 32, 1, (r0).map encU, 0⟩] [.agg [.ref 0 [] 8 0 0, .ref 1 [] 44 0 0]] (Ce (evO m 3 10 0))
      [⟨1, 48, 8, [[I w.epoch, I w.current, I w.lock, lI w.pins, lV w.versions, lL w.listens, .sl 2 [] 1 0 w.counts.length false, lR w.limbo]], 0⟩, ⟨1, 37, 44, [encM ({ m with pc := if m.answer.kind = 1 ∨ m.listen < 0 then 23 else 22 })], 0⟩, ⟨1, 0, 1, (w.counts.map encCo).set m.thread.toNat [C.sl 3 [] 1 0 r0.length false], 0⟩, ⟨2, 32, 1, (r0.set 0 (IntKind.u64.wrap (x + 1))).map encU, 0⟩] := by
  have e1 : 0 + m.thread.toNat = m.thread.toNat := Nat.zero_add _
  have hlt : m.thread.toNat < w.counts.length := (List.getElem?_eq_some_iff.1 hr).1
  have gt : ((w.counts.map encCo).set m.thread.toNat [C.sl 3 [] 1 0 r0.length false])[m.thread.toNat]? = some [C.sl 3 [] 1 0 r0.length false] := List.getElem?_set_self (by simpa using hlt)
  have gx : (r0.map encU)[0]? = some (encU x) := by rw [List.getElem?_map, hx]; rfl
  have hl0 : 0 < r0.length := (List.getElem?_eq_some_iff.1 hx).1
  have hst : (r0.map encU).set 0 [U (IntKind.u64.wrap (x + 1))] = (r0.set 0 (IntKind.u64.wrap (x + 1))).map encU := by rw [List.map_set]; rfl
  have own : ∀ r ∈ (w.counts.map encCo).set m.thread.toNat [C.sl 3 [] 1 0 r0.length false], ∀ c ∈ r, noOwn c = true := set_all (enc := encCo) (fun _ => rfl) rfl _ _
  have low : ∀ r ∈ (w.counts.map encCo).set m.thread.toNat [C.sl 3 [] 1 0 r0.length false], ∀ c ∈ r, lowC 4 9 c = true := set_all (enc := encCo) (fun _ => rfl) rfl _ _
  refine of_wpX (fn := Tryz.f123) Tryz.func123 rfl (Nat.le_refl _) ?_; conv => whnf
  refine .inl ⟨⟨false, [], [], []⟩, by kernel_rfl, ?_⟩; (conv => whnf)
  refine ⟨h0, hlt, ?_⟩
  (conv=>whnf);(try(refine ⟨(rfl:(_:Heap)=_),?_⟩;(conv=>whnf)))
  rw [e1]
  refine ⟨_, gt, (by show 0 + 1 ≤ 1; decide), ?_⟩
  (conv=>whnf);(try(refine ⟨(rfl:(_:Heap)=_),?_⟩;(conv=>whnf)))
  refine ⟨by decide, hl0, ?_⟩
  (conv=>whnf);(try(refine ⟨(rfl:(_:Heap)=_),?_⟩;(conv=>whnf)))
  refine ⟨_, gx, (by show 0 + 1 ≤ 1; decide), ?_⟩
  (conv=>whnf);(try(refine ⟨(rfl:(_:Heap)=_),?_⟩;(conv=>whnf)))
  refine ⟨by decide, hl0, ?_⟩
  (conv=>whnf);(try(refine ⟨(rfl:(_:Heap)=_),?_⟩;(conv=>whnf)))
  refine ⟨_, gx, rfl, ?_⟩
  (conv=>whnf);(try(refine ⟨(rfl:(_:Heap)=_),?_⟩;(conv=>whnf)))
  have hst2 : (r0.map encU).set (0 + Int.toNat 0) [U (IntKind.u64.wrap (x + 1))] = (r0.set 0 (IntKind.u64.wrap (x + 1))).map encU := hst
  rw [hst2]
  refine ⟨fun h1 => ?_, fun h1 => ?_⟩
  · rw [if_pos (.inl (of_decide_eq_true h1))]
    (conv=>whnf);(try(refine ⟨(rfl:(_:Heap)=_),?_⟩;(conv=>whnf)))
    (repeat (first | (refine ⟨fun _ => ?_, fun h => absurd h (by decide)⟩; (conv=>whnf);(try(refine ⟨(rfl:(_:Heap)=_),?_⟩;(conv=>whnf)))) | (refine ⟨fun h => absurd h (by decide), fun _ => ?_⟩; (conv=>whnf);(try(refine ⟨(rfl:(_:Heap)=_),?_⟩;(conv=>whnf))))))
    refine callPartX [1] [⟨1, 48, 8, [[I w.epoch, I w.current, I w.lock, lI w.pins, lV w.versions, lL w.listens, .sl 2 [] 1 0 w.counts.length false, lR w.limbo]], 0⟩, ⟨1, 37, 44, [encM ({ m with pc := 23 })], 0⟩, ⟨1, 0, 1, (w.counts.map encCo).set m.thread.toNat [C.sl 3 [] 1 0 r0.length false], 0⟩, ⟨2, 32, 1, (r0.set 0 (IntKind.u64.wrap (x + 1))).map encU, 0⟩, ⟨1, 154, 2, [[.ref 0 [] 8 0 0, .ref 1 [] 44 0 0]], 0⟩, ⟨1, 87, 23, [encEv noEve], 0⟩] (rx := Ce (evO { m with pc := 23 } 3 10 0)) (other_sound { m with pc := 23 } 3 10 0) rfl rfl rfl rfl rfl (flat_cons rfl (flat_cons rfl (flat_cons (flat_kept own) rfl))) rfl rfl ?_; (conv=>whnf);(try(refine ⟨(rfl:(_:Heap)=_),?_⟩;(conv=>whnf)))
    exact ⟨.inl rfl, _, _, .refl _, rfl, Weak.covD 4 (by (conv => whnf); (repeat (refine ⟨rfl, ?_⟩; (conv => whnf))); exact trivial) rfl rfl rfl (rl_cons rfl (rl_cons rfl (rl_cons (rl_kept low) rfl))) rfl⟩
  · (conv=>whnf);(try(refine ⟨(rfl:(_:Heap)=_),?_⟩;(conv=>whnf)))
    refine ⟨fun h2 => ?_, fun h2 => ?_⟩
    · rw [if_pos (.inr (of_decide_eq_true h2))]
      (conv=>whnf);(try(refine ⟨(rfl:(_:Heap)=_),?_⟩;(conv=>whnf)))
      (repeat (first | (refine ⟨fun _ => ?_, fun h => absurd h (by decide)⟩; (conv=>whnf);(try(refine ⟨(rfl:(_:Heap)=_),?_⟩;(conv=>whnf)))) | (refine ⟨fun h => absurd h (by decide), fun _ => ?_⟩; (conv=>whnf);(try(refine ⟨(rfl:(_:Heap)=_),?_⟩;(conv=>whnf))))))
      refine callPartX [1] [⟨1, 48, 8, [[I w.epoch, I w.current, I w.lock, lI w.pins, lV w.versions, lL w.listens, .sl 2 [] 1 0 w.counts.length false, lR w.limbo]], 0⟩, ⟨1, 37, 44, [encM ({ m with pc := 23 })], 0⟩, ⟨1, 0, 1, (w.counts.map encCo).set m.thread.toNat [C.sl 3 [] 1 0 r0.length false], 0⟩, ⟨2, 32, 1, (r0.set 0 (IntKind.u64.wrap (x + 1))).map encU, 0⟩, ⟨1, 154, 2, [[.ref 0 [] 8 0 0, .ref 1 [] 44 0 0]], 0⟩, ⟨1, 87, 23, [encEv noEve], 0⟩] (rx := Ce (evO { m with pc := 23 } 3 10 0)) (other_sound { m with pc := 23 } 3 10 0) rfl rfl rfl rfl rfl (flat_cons rfl (flat_cons rfl (flat_cons (flat_kept own) rfl))) rfl rfl ?_; (conv=>whnf);(try(refine ⟨(rfl:(_:Heap)=_),?_⟩;(conv=>whnf)))
      exact ⟨.inl rfl, _, _, .refl _, rfl, Weak.covD 4 (by (conv => whnf); (repeat (refine ⟨rfl, ?_⟩; (conv => whnf))); exact trivial) rfl rfl rfl (rl_cons rfl (rl_cons rfl (rl_cons (rl_kept low) rfl))) rfl⟩
    · rw [if_neg (fun h => h.elim (of_decide_eq_false h1) (of_decide_eq_false h2))]
      (conv=>whnf);(try(refine ⟨(rfl:(_:Heap)=_),?_⟩;(conv=>whnf)))
      (repeat (first | (refine ⟨fun _ => ?_, fun h => absurd h (by decide)⟩; (conv=>whnf);(try(refine ⟨(rfl:(_:Heap)=_),?_⟩;(conv=>whnf)))) | (refine ⟨fun h => absurd h (by decide), fun _ => ?_⟩; (conv=>whnf);(try(refine ⟨(rfl:(_:Heap)=_),?_⟩;(conv=>whnf))))))
      refine callPartX [1] [⟨1, 48, 8, [[I w.epoch, I w.current, I w.lock, lI w.pins, lV w.versions, lL w.listens, .sl 2 [] 1 0 w.counts.length false, lR w.limbo]], 0⟩, ⟨1, 37, 44, [encM ({ m with pc := 22 })], 0⟩, ⟨1, 0, 1, (w.counts.map encCo).set m.thread.toNat [C.sl 3 [] 1 0 r0.length false], 0⟩, ⟨2, 32, 1, (r0.set 0 (IntKind.u64.wrap (x + 1))).map encU, 0⟩, ⟨1, 154, 2, [[.ref 0 [] 8 0 0, .ref 1 [] 44 0 0]], 0⟩, ⟨1, 87, 23, [encEv noEve], 0⟩] (rx := Ce (evO { m with pc := 22 } 3 10 0)) (other_sound { m with pc := 22 } 3 10 0) rfl rfl rfl rfl rfl (flat_cons rfl (flat_cons rfl (flat_cons (flat_kept own) rfl))) rfl rfl ?_; (conv=>whnf);(try(refine ⟨(rfl:(_:Heap)=_),?_⟩;(conv=>whnf)))
      exact ⟨.inl rfl, _, _, .refl _, rfl, Weak.covD 4 (by (conv => whnf); (repeat (refine ⟨rfl, ?_⟩; (conv => whnf))); exact trivial) rfl rfl rfl (rl_cons rfl (rl_cons rfl (rl_cons (rl_kept low) rfl))) rfl⟩
def kindV (n : Int) : Int := if n < 1 ∨ 5 < n then 0 else n
theorem countKind_sound (w : Wor) (m : Mac) (r0 : List Int) (x k : Int) (hk : kindV m.answer.kind = k) (h0 : 0 ≤ m.thread) (hr : w.counts[m.thread.toNat]? = some r0) (hx : r0[k.toNat]? = some x) :
    SoundAt Tryz.prog 122 [⟨1, 48, 8, [[I w.epoch, I w.current, I w.lock, lI w.pins, lV w.versions, lL w.listens, .sl 2 [] 1 0 w.counts.length false, lR w.limbo]], 0⟩, ⟨1, 37, 44, [encM (m)], 0⟩, ⟨1, 0, 1, (w.counts.map encCo).set m.thread.toNat [C.sl 3 [] 1 0 r0.length false], 0⟩, ⟨2, 32, 1, (r0).map encU, 0⟩] [.agg [.ref 0 [] 8 0 0, .ref 1 [] 44 0 0]] (Ce (evO m 3 10 k))
      [⟨1, 48, 8, [[I w.epoch, I w.current, I w.lock, lI w.pins, lV w.versions, lL w.listens, .sl 2 [] 1 0 w.counts.length false, lR w.limbo]], 0⟩, ⟨1, 37, 44, [encM ({ m with pc := 21 })], 0⟩, ⟨1, 0, 1, (w.counts.map encCo).set m.thread.toNat [C.sl 3 [] 1 0 r0.length false], 0⟩, ⟨2, 32, 1, (r0.set k.toNat (IntKind.u64.wrap (x + 1))).map encU, 0⟩] := by
  have e1 : 0 + m.thread.toNat = m.thread.toNat := Nat.zero_add _
  have k0 : 0 ≤ k := by rw [← hk]; unfold kindV; split <;> omega
  have k1 : k.toNat < r0.length := (List.getElem?_eq_some_iff.1 hx).1
  have hlt : m.thread.toNat < w.counts.length := (List.getElem?_eq_some_iff.1 hr).1
  have gt : ((w.counts.map encCo).set m.thread.toNat [C.sl 3 [] 1 0 r0.length false])[m.thread.toNat]? = some [C.sl 3 [] 1 0 r0.length false] := List.getElem?_set_self (by simpa using hlt)
  have gx : (r0.map encU)[0 + k.toNat]? = some (encU x) := by rw [Nat.zero_add, List.getElem?_map, hx]; rfl
  have hst : (r0.map encU).set (0 + k.toNat) [U (IntKind.u64.wrap (x + 1))] = (r0.set k.toNat (IntKind.u64.wrap (x + 1))).map encU := by rw [Nat.zero_add, List.map_set]; rfl
  have own : ∀ r ∈ (w.counts.map encCo).set m.thread.toNat [C.sl 3 [] 1 0 r0.length false], ∀ c ∈ r, noOwn c = true := set_all (enc := encCo) (fun _ => rfl) rfl _ _
  have low : ∀ r ∈ (w.counts.map encCo).set m.thread.toNat [C.sl 3 [] 1 0 r0.length false], ∀ c ∈ r, lowC 4 9 c = true := set_all (enc := encCo) (fun _ => rfl) rfl _ _
  refine of_wpX (fn := Tryz.f122) Tryz.func122 rfl (Nat.le_refl _) ?_; conv => whnf
  refine ⟨fun h1 => ?_, fun h1 => ?_⟩
  · obtain rfl : k = 0 := by rw [← hk]; unfold kindV; rw [if_pos (.inl (of_decide_eq_true h1))]
    (conv=>whnf);(try(refine ⟨(rfl:(_:Heap)=_),?_⟩;(conv=>whnf)))
    (repeat (first | (refine ⟨fun _ => ?_, fun h => absurd h (by decide)⟩; (conv=>whnf);(try(refine ⟨(rfl:(_:Heap)=_),?_⟩;(conv=>whnf)))) | (refine ⟨fun h => absurd h (by decide), fun _ => ?_⟩; (conv=>whnf);(try(refine ⟨(rfl:(_:Heap)=_),?_⟩;(conv=>whnf))))))
    refine .inl ⟨⟨false, [], [], []⟩, by kernel_rfl, ?_⟩; (conv => whnf); (refine ⟨h0, hlt, ?_⟩); (conv=>whnf);(try(refine ⟨(rfl:(_:Heap)=_),?_⟩;(conv=>whnf))); (rw [e1]); (refine ⟨_, gt, (by show 0 + 1 ≤ 1; decide), ?_⟩); (conv=>whnf);(try(refine ⟨(rfl:(_:Heap)=_),?_⟩;(conv=>whnf))); (refine ⟨k0, k1, ?_⟩); (conv=>whnf);(try(refine ⟨(rfl:(_:Heap)=_),?_⟩;(conv=>whnf))); (refine ⟨_, gx, (by show 0 + 1 ≤ 1; decide), ?_⟩); (conv=>whnf);(try(refine ⟨(rfl:(_:Heap)=_),?_⟩;(conv=>whnf))); (refine ⟨k0, k1, ?_⟩); (conv=>whnf);(try(refine ⟨(rfl:(_:Heap)=_),?_⟩;(conv=>whnf))); (refine ⟨_, gx, rfl, ?_⟩); (conv=>whnf);(try(refine ⟨(rfl:(_:Heap)=_),?_⟩;(conv=>whnf))); (rw [hst]); (refine callPartX [1] [⟨1, 48, 8, [[I w.epoch, I w.current, I w.lock, lI w.pins, lV w.versions, lL w.listens, .sl 2 [] 1 0 w.counts.length false, lR w.limbo]], 0⟩, ⟨1, 37, 44, [encM ({ m with pc := 21 })], 0⟩, ⟨1, 0, 1, (w.counts.map encCo).set m.thread.toNat [C.sl 3 [] 1 0 r0.length false], 0⟩, ⟨2, 32, 1, (r0.set ((0 : Int)).toNat (IntKind.u64.wrap (x + 1))).map encU, 0⟩, ⟨1, 154, 2, [[.ref 0 [] 8 0 0, .ref 1 [] 44 0 0]], 0⟩, ⟨1, 87, 23, [encEv noEve], 0⟩] (rx := Ce (evO { m with pc := 21 } 3 10 ((0 : Int)))) (other_sound { m with pc := 21 } 3 10 ((0 : Int))) rfl rfl rfl rfl rfl (flat_cons rfl (flat_cons rfl (flat_cons (flat_kept own) rfl))) rfl rfl ?_); (conv=>whnf);(try(refine ⟨(rfl:(_:Heap)=_),?_⟩;(conv=>whnf))); exact ⟨.inl rfl, _, _, .refl _, rfl, Weak.covD 4 (by (conv => whnf); (repeat (refine ⟨rfl, ?_⟩; (conv => whnf))); exact trivial) rfl rfl rfl (rl_cons rfl (rl_cons rfl (rl_cons (rl_kept low) rfl))) rfl⟩
  · (conv=>whnf);(try(refine ⟨(rfl:(_:Heap)=_),?_⟩;(conv=>whnf)))
    (repeat (first | (refine ⟨fun _ => ?_, fun h => absurd h (by decide)⟩; (conv=>whnf);(try(refine ⟨(rfl:(_:Heap)=_),?_⟩;(conv=>whnf)))) | (refine ⟨fun h => absurd h (by decide), fun _ => ?_⟩; (conv=>whnf);(try(refine ⟨(rfl:(_:Heap)=_),?_⟩;(conv=>whnf))))))
    refine ⟨fun h2 => ?_, fun h2 => ?_⟩
    · obtain rfl : k = 0 := by rw [← hk]; unfold kindV; rw [if_pos (.inr (of_decide_eq_true h2))]
      (conv=>whnf);(try(refine ⟨(rfl:(_:Heap)=_),?_⟩;(conv=>whnf)))
      (repeat (first | (refine ⟨fun _ => ?_, fun h => absurd h (by decide)⟩; (conv=>whnf);(try(refine ⟨(rfl:(_:Heap)=_),?_⟩;(conv=>whnf)))) | (refine ⟨fun h => absurd h (by decide), fun _ => ?_⟩; (conv=>whnf);(try(refine ⟨(rfl:(_:Heap)=_),?_⟩;(conv=>whnf))))))
      refine .inl ⟨⟨false, [], [], []⟩, by kernel_rfl, ?_⟩; (conv => whnf); (refine ⟨h0, hlt, ?_⟩); (conv=>whnf);(try(refine ⟨(rfl:(_:Heap)=_),?_⟩;(conv=>whnf))); (rw [e1]); (refine ⟨_, gt, (by show 0 + 1 ≤ 1; decide), ?_⟩); (conv=>whnf);(try(refine ⟨(rfl:(_:Heap)=_),?_⟩;(conv=>whnf))); (refine ⟨k0, k1, ?_⟩); (conv=>whnf);(try(refine ⟨(rfl:(_:Heap)=_),?_⟩;(conv=>whnf))); (refine ⟨_, gx, (by show 0 + 1 ≤ 1; decide), ?_⟩); (conv=>whnf);(try(refine ⟨(rfl:(_:Heap)=_),?_⟩;(conv=>whnf))); (refine ⟨k0, k1, ?_⟩); (conv=>whnf);(try(refine ⟨(rfl:(_:Heap)=_),?_⟩;(conv=>whnf))); (refine ⟨_, gx, rfl, ?_⟩); (conv=>whnf);(try(refine ⟨(rfl:(_:Heap)=_),?_⟩;(conv=>whnf))); (rw [hst]); (refine callPartX [1] [⟨1, 48, 8, [[I w.epoch, I w.current, I w.lock, lI w.pins, lV w.versions, lL w.listens, .sl 2 [] 1 0 w.counts.length false, lR w.limbo]], 0⟩, ⟨1, 37, 44, [encM ({ m with pc := 21 })], 0⟩, ⟨1, 0, 1, (w.counts.map encCo).set m.thread.toNat [C.sl 3 [] 1 0 r0.length false], 0⟩, ⟨2, 32, 1, (r0.set ((0 : Int)).toNat (IntKind.u64.wrap (x + 1))).map encU, 0⟩, ⟨1, 154, 2, [[.ref 0 [] 8 0 0, .ref 1 [] 44 0 0]], 0⟩, ⟨1, 87, 23, [encEv noEve], 0⟩] (rx := Ce (evO { m with pc := 21 } 3 10 ((0 : Int)))) (other_sound { m with pc := 21 } 3 10 ((0 : Int))) rfl rfl rfl rfl rfl (flat_cons rfl (flat_cons rfl (flat_cons (flat_kept own) rfl))) rfl rfl ?_); (conv=>whnf);(try(refine ⟨(rfl:(_:Heap)=_),?_⟩;(conv=>whnf))); exact ⟨.inl rfl, _, _, .refl _, rfl, Weak.covD 4 (by (conv => whnf); (repeat (refine ⟨rfl, ?_⟩; (conv => whnf))); exact trivial) rfl rfl rfl (rl_cons rfl (rl_cons rfl (rl_cons (rl_kept low) rfl))) rfl⟩
    · obtain rfl : k = m.answer.kind := by rw [← hk]; unfold kindV; rw [if_neg (fun h => h.elim (of_decide_eq_false h1) (of_decide_eq_false h2))]
      (conv=>whnf);(try(refine ⟨(rfl:(_:Heap)=_),?_⟩;(conv=>whnf)))
      (repeat (first | (refine ⟨fun _ => ?_, fun h => absurd h (by decide)⟩; (conv=>whnf);(try(refine ⟨(rfl:(_:Heap)=_),?_⟩;(conv=>whnf)))) | (refine ⟨fun h => absurd h (by decide), fun _ => ?_⟩; (conv=>whnf);(try(refine ⟨(rfl:(_:Heap)=_),?_⟩;(conv=>whnf))))))
      refine .inl ⟨⟨false, [], [], []⟩, by kernel_rfl, ?_⟩; (conv => whnf); (refine ⟨h0, hlt, ?_⟩); (conv=>whnf);(try(refine ⟨(rfl:(_:Heap)=_),?_⟩;(conv=>whnf))); (rw [e1]); (refine ⟨_, gt, (by show 0 + 1 ≤ 1; decide), ?_⟩); (conv=>whnf);(try(refine ⟨(rfl:(_:Heap)=_),?_⟩;(conv=>whnf))); (refine ⟨k0, k1, ?_⟩); (conv=>whnf);(try(refine ⟨(rfl:(_:Heap)=_),?_⟩;(conv=>whnf))); (refine ⟨_, gx, (by show 0 + 1 ≤ 1; decide), ?_⟩); (conv=>whnf);(try(refine ⟨(rfl:(_:Heap)=_),?_⟩;(conv=>whnf))); (refine ⟨k0, k1, ?_⟩); (conv=>whnf);(try(refine ⟨(rfl:(_:Heap)=_),?_⟩;(conv=>whnf))); (refine ⟨_, gx, rfl, ?_⟩); (conv=>whnf);(try(refine ⟨(rfl:(_:Heap)=_),?_⟩;(conv=>whnf))); (rw [hst]); (refine callPartX [1] [⟨1, 48, 8, [[I w.epoch, I w.current, I w.lock, lI w.pins, lV w.versions, lL w.listens, .sl 2 [] 1 0 w.counts.length false, lR w.limbo]], 0⟩, ⟨1, 37, 44, [encM ({ m with pc := 21 })], 0⟩, ⟨1, 0, 1, (w.counts.map encCo).set m.thread.toNat [C.sl 3 [] 1 0 r0.length false], 0⟩, ⟨2, 32, 1, (r0.set (m.answer.kind).toNat (IntKind.u64.wrap (x + 1))).map encU, 0⟩, ⟨1, 154, 2, [[.ref 0 [] 8 0 0, .ref 1 [] 44 0 0]], 0⟩, ⟨1, 87, 23, [encEv noEve], 0⟩] (rx := Ce (evO { m with pc := 21 } 3 10 (m.answer.kind))) (other_sound { m with pc := 21 } 3 10 (m.answer.kind)) rfl rfl rfl rfl rfl (flat_cons rfl (flat_cons rfl (flat_cons (flat_kept own) rfl))) rfl rfl ?_); (conv=>whnf);(try(refine ⟨(rfl:(_:Heap)=_),?_⟩;(conv=>whnf))); exact ⟨.inl rfl, _, _, .refl _, rfl, Weak.covD 4 (by (conv => whnf); (repeat (refine ⟨rfl, ?_⟩; (conv => whnf))); exact trivial) rfl rfl rfl (rl_cons rfl (rl_cons rfl (rl_cons (rl_kept low) rfl))) rfl⟩
end Go.Wor
namespace Go.Wor
open Go.Ab Go.Proofs Go.Hy Go.Gat Go.Nam Go.Hos Go.Con Go.Sna
set_option linter.unusedVariables false
set_option linter.unusedSimpArgs false
set_option maxRecDepth 100000
set_option maxHeartbeats 4000000
theorem run_rem {P : Program} {o : Oper} {σ : Operand → Value} {t t' : TypeId} {x y : Operand} {k : IntKind} {n m : Int} (ho : o.op = .binOp .rem t x y t') (hx : σ x = .int k n) (hy : σ y = .int k m) (hm : m ≠ 0) :
    runP P (execOp σ o) = some (.value (.int k (n.tmod m))) := by
  have hi : Op.intDiv .rem k n m = pure (.int k (n.tmod m)) := by unfold Op.intDiv; rw [if_neg hm]
  have hg : eqGuard .rem t x y (σ x) (σ y) = pure () := rfl
  have hb : binOp .rem t (σ x) (σ y) = pure (.int k (n.tmod m)) := by
    rw [hx, hy]
    simp only [binOp, hi]
    exact if_neg (by simp)
  unfold execOp
  rw [ho]
  dsimp only
  rw [hg, hb]
  rfl
theorem u64w {n : Int} (h : 0 ≤ n) (h' : n < 18446744073709551616) : IntKind.u64.wrap n = n := by
  simp only [IntKind.wrap, IntKind.signed, IntKind.bits, Bool.false_and, Bool.false_eq_true, if_false]
  omega
abbrev hlt (c : Clu) : List Int := idxB c.health c.health.length
def turnV (c : Clu) (n : Int) : Int × Int := if (hlt c).length = 0 then (0, 5) else (((hlt c)[(n % (hlt c).length).toNat]?).getD 0, 0)
theorem turn_sound (c : Clu) (n : Int) (hn : u64 n) (hl : c.health.length < 1000000000000) (hh : (hlt c).length ≤ c.health.length) : SoundAt Tryz.prog 156 [] [Cc c, U n] (.tup [I (turnV c n).1, I (turnV c n).2]) [] := by
  have ml : ((hlt c).map encI).length = (hlt c).length := List.length_map ..
  refine SoundAt.of_wpA1 (fn := Tryz.f156) Tryz.func156 rfl ?_
  conv => whnf
  refine ⟨_, _, (healthyAll_sound c hl).frame rfl _, ?_⟩; (conv=>whnf);(try(refine ⟨(rfl:(_:Heap)=_),?_⟩;(conv=>whnf)))
  rw [ml]
  refine ⟨fun h0 => ?_, fun h0 => ?_⟩
  · unfold turnV
    have h0 := of_decide_eq_true h0
    rw [if_pos (by omega)]
    exact ⟨.inl rfl, _, .refl _, rfl⟩
  · unfold turnV
    have h0 := of_decide_eq_false h0
    rw [if_neg (by omega)]
    (conv=>whnf);(try(refine ⟨(rfl:(_:Heap)=_),?_⟩;(conv=>whnf)))
    have hw : IntKind.u64.wrap ((((hlt c).map encI).length : Nat) : Int) ≠ 0 := by
      have hk := ml
      have : IntKind.u64.wrap ((((hlt c).map encI).length : Nat) : Int) = (hlt c).length := by rw [ml]; exact u64w (by omega) (by omega)
      omega
    split
    rotate_left
    · rename_i hno
      exact (hno _ (run_rem rfl rfl rfl hw)).elim
    · rename_i v e
      have e' := e.symm.trans (run_rem rfl rfl rfl hw)
      cases e'
      (conv=>whnf);(try(refine ⟨(rfl:(_:Heap)=_),?_⟩;(conv=>whnf)))
      have ew : IntKind.u64.wrap ((((hlt c).map encI).length : Nat) : Int) = (hlt c).length := by rw [ml]; exact u64w (by omega) (by omega)
      have et : n.tmod (IntKind.u64.wrap ((((hlt c).map encI).length : Nat) : Int)) = n % (hlt c).length := by rw [ew]; exact Int.tmod_eq_emod_of_nonneg hn.1
      have b0 : 0 ≤ n % ((hlt c).length : Int) := Int.emod_nonneg _ h0
      have b1 : n % ((hlt c).length : Int) < (hlt c).length := Int.emod_lt_of_pos _ (by omega)
      have hi : (n % ((hlt c).length : Int)).toNat < (hlt c).length := by omega
      have gx : ((hlt c).map encI)[(n.tmod (IntKind.u64.wrap ((((hlt c).map encI).length : Nat) : Int))).toNat]? = some (encI ((hlt c)[(n % ((hlt c).length : Int)).toNat]'hi)) := by rw [et, List.getElem?_map, List.getElem?_eq_getElem hi]; rfl
      refine ⟨by show 0 ≤ n.tmod (IntKind.u64.wrap ((((hlt c).map encI).length : Nat) : Int)); rw [et]; exact b0, _, gx, ?_⟩
      (conv=>whnf);(try(refine ⟨(rfl:(_:Heap)=_),?_⟩;(conv=>whnf)))
      rw [List.getElem?_eq_getElem hi]
      exact ⟨.inl rfl, _, .refl _, rfl⟩
end Go.Wor
namespace Go.Wor
open Go.Ab Go.Proofs Go.Hy Go.Gat Go.Nam Go.Hos Go.Con Go.Sna
set_option linter.unusedVariables false
set_option linter.unusedSimpArgs false
set_option maxRecDepth 100000
set_option maxHeartbeats 4000000
structure LnE (w : Wor) (m : Mac) (v0 : Ver) (g0 : Gr) : Prop where
  pv : 0 ≤ m.version
  lv : m.version.toNat < w.versions.length
  pg : 0 ≤ m.cluster
  lg : m.cluster.toNat < v0.groups.length
  pe : 0 ≤ m.end_
  le : m.end_.toNat < g0.ends.length
theorem AtE.ln {w : Wor} {m : Mac} {v0 : Ver} {g0 : Gr} {e0 : En} (h : AtE w m v0 g0 e0) : LnE w m v0 g0 := ⟨h.v0, (List.getElem?_eq_some_iff.1 h.at_).1, h.g0, (List.getElem?_eq_some_iff.1 h.atg).1, h.e0, (List.getElem?_eq_some_iff.1 h.ate).1⟩
theorem callPtrX {P : Program} {f : FuncId} (sel : List Nat) (Kx : Heap) {K H0 H' : Heap} {args args0 : List C} {r rx : C} (h : SoundAt P f H0 args0 r H') (hR : flatH H' = true)
    (hH : renH sel K = H0) (ha : args.map (renC sel 9) = args0) (hall : sel.all (fun id => Nat.blt id K.length) = true) (hnd : nodupB sel = true) (hfl : flatH K = true) {k : C → Heap → Prop}
    (hp : plug sel K H' = Kx) (hr : mapC (backI sel K.length) 9 r = rx) (hk : k rx Kx) : ∃ R, SoundR P f K args R ∧ ∀ r H2, R r H2 → k r H2 :=
  ⟨fun x X => x = rx ∧ X = Kx, (h.part sel hR hH ha hall hnd hfl).toR ⟨hr, hp⟩, by rintro _ _ ⟨rfl, rfl⟩; exact hk⟩
theorem groupE_sound (w : Wor) (m : Mac) (v0 : Ver) (g0 : Gr) (e0 : En) (hv : LnE w m v0 g0) : SoundAt Tryz.prog 155 [⟨1, 48, 8, [[I w.epoch, I w.current, I w.lock, lI w.pins, .sl 2 [] 5 0 w.versions.length false, lL w.listens, lCo w.counts, lR w.limbo]], 0⟩, ⟨1, 37, 44, [encM (m)], 0⟩, ⟨1, 0, 5, (w.versions.map encV).set m.version.toNat ((encS v0.snap ++ [C.sl 3 [] 2 0 v0.groups.length false, Bo v0.freed])), 0⟩, ⟨1, 0, 2, (v0.groups.map encG).set m.cluster.toNat ([U g0.ticket, C.sl 4 [] 3 0 g0.ends.length false]), 0⟩, ⟨1, 0, 3, (g0.ends.map encE).set m.end_.toNat ([U e0.head, C.sl 5 [] 1 0 e0.next.length false, I e0.active]), 0⟩, ⟨2, 3, 1, e0.next.map encI, 0⟩] [.agg [.ref 0 [] 8 0 0, .ref 1 [] 44 0 0]] (.ref 3 [] 2 m.cluster.toNat 0) [⟨1, 48, 8, [[I w.epoch, I w.current, I w.lock, lI w.pins, .sl 2 [] 5 0 w.versions.length false, lL w.listens, lCo w.counts, lR w.limbo]], 0⟩, ⟨1, 37, 44, [encM (m)], 0⟩, ⟨1, 0, 5, (w.versions.map encV).set m.version.toNat ((encS v0.snap ++ [C.sl 3 [] 2 0 v0.groups.length false, Bo v0.freed])), 0⟩, ⟨1, 0, 2, (v0.groups.map encG).set m.cluster.toNat ([U g0.ticket, C.sl 4 [] 3 0 g0.ends.length false]), 0⟩, ⟨1, 0, 3, (g0.ends.map encE).set m.end_.toNat ([U e0.head, C.sl 5 [] 1 0 e0.next.length false, I e0.active]), 0⟩, ⟨2, 3, 1, e0.next.map encI, 0⟩] := by
  have h0 := hv.pv
  have g0' := hv.pg
  have lv : m.version.toNat < w.versions.length := hv.lv
  have lg : m.cluster.toNat < v0.groups.length := hv.lg
  have lowV : ∀ r ∈ (w.versions.map encV).set m.version.toNat ((encS v0.snap ++ [C.sl 3 [] 2 0 v0.groups.length false, Bo v0.freed])), ∀ c ∈ r, lowC 6 9 c = true := set_all (enc := encV) (fun _ => rfl) rfl _ _
  have lowG : ∀ r ∈ (v0.groups.map encG).set m.cluster.toNat ([U g0.ticket, C.sl 4 [] 3 0 g0.ends.length false]), ∀ c ∈ r, lowC 6 9 c = true := set_all (enc := encG) (fun _ => rfl) rfl _ _
  have lowE : ∀ r ∈ (g0.ends.map encE).set m.end_.toNat ([U e0.head, C.sl 5 [] 1 0 e0.next.length false, I e0.active]), ∀ c ∈ r, lowC 6 9 c = true := set_all (enc := encE) (fun _ => rfl) rfl _ _
  have e1 : 0 + m.version.toNat = m.version.toNat := Nat.zero_add _
  have e2 : 0 + m.cluster.toNat = m.cluster.toNat := Nat.zero_add _
  have gv : ((w.versions.map encV).set m.version.toNat ((encS v0.snap ++ [C.sl 3 [] 2 0 v0.groups.length false, Bo v0.freed])))[m.version.toNat]? = some ((encS v0.snap ++ [C.sl 3 [] 2 0 v0.groups.length false, Bo v0.freed])) := List.getElem?_set_self (by simpa using lv)
  refine of_wpX (fn := Tryz.f155) Tryz.func155 rfl (Nat.le_refl _) ?_; conv => whnf
  refine .inl ⟨⟨false, [], [], []⟩, by kernel_rfl, ?_⟩; (conv => whnf)
  refine ⟨h0, lv, ?_⟩
  (conv=>whnf);(try(refine ⟨(rfl:(_:Heap)=_),?_⟩;(conv=>whnf)))
  rw [e1]
  refine ⟨_, gv, (by show 3 + 1 ≤ 5; decide), ?_⟩
  (conv=>whnf);(try(refine ⟨(rfl:(_:Heap)=_),?_⟩;(conv=>whnf)))
  refine ⟨g0', lg, ?_⟩
  (conv=>whnf);(try(refine ⟨(rfl:(_:Heap)=_),?_⟩;(conv=>whnf)))
  rw [e2]
  exact ⟨.inl rfl, _, _, .refl _, rfl, Weak.covD 6 (by (conv => whnf); (repeat (refine ⟨rfl, ?_⟩; (conv => whnf))); exact trivial) rfl rfl rfl (rl_cons rfl (rl_cons rfl (rl_cons (rl_kept lowV) (rl_cons (rl_kept lowG) (rl_cons (rl_kept lowE) rfl))))) rfl⟩
theorem endE_sound (w : Wor) (m : Mac) (v0 : Ver) (g0 : Gr) (e0 : En) (hv : LnE w m v0 g0) : SoundAt Tryz.prog 159 [⟨1, 48, 8, [[I w.epoch, I w.current, I w.lock, lI w.pins, .sl 2 [] 5 0 w.versions.length false, lL w.listens, lCo w.counts, lR w.limbo]], 0⟩, ⟨1, 37, 44, [encM (m)], 0⟩, ⟨1, 0, 5, (w.versions.map encV).set m.version.toNat ((encS v0.snap ++ [C.sl 3 [] 2 0 v0.groups.length false, Bo v0.freed])), 0⟩, ⟨1, 0, 2, (v0.groups.map encG).set m.cluster.toNat ([U g0.ticket, C.sl 4 [] 3 0 g0.ends.length false]), 0⟩, ⟨1, 0, 3, (g0.ends.map encE).set m.end_.toNat ([U e0.head, C.sl 5 [] 1 0 e0.next.length false, I e0.active]), 0⟩, ⟨2, 3, 1, e0.next.map encI, 0⟩] [.agg [.ref 0 [] 8 0 0, .ref 1 [] 44 0 0]] (.ref 4 [] 3 m.end_.toNat 0) [⟨1, 48, 8, [[I w.epoch, I w.current, I w.lock, lI w.pins, .sl 2 [] 5 0 w.versions.length false, lL w.listens, lCo w.counts, lR w.limbo]], 0⟩, ⟨1, 37, 44, [encM (m)], 0⟩, ⟨1, 0, 5, (w.versions.map encV).set m.version.toNat ((encS v0.snap ++ [C.sl 3 [] 2 0 v0.groups.length false, Bo v0.freed])), 0⟩, ⟨1, 0, 2, (v0.groups.map encG).set m.cluster.toNat ([U g0.ticket, C.sl 4 [] 3 0 g0.ends.length false]), 0⟩, ⟨1, 0, 3, (g0.ends.map encE).set m.end_.toNat ([U e0.head, C.sl 5 [] 1 0 e0.next.length false, I e0.active]), 0⟩, ⟨2, 3, 1, e0.next.map encI, 0⟩] := by
  have h0 := hv.pe
  have lg : m.cluster.toNat < v0.groups.length := hv.lg
  have le : m.end_.toNat < g0.ends.length := hv.le
  have ownV : ∀ r ∈ (w.versions.map encV).set m.version.toNat ((encS v0.snap ++ [C.sl 3 [] 2 0 v0.groups.length false, Bo v0.freed])), ∀ c ∈ r, noOwn c = true := set_all (enc := encV) (fun _ => rfl) rfl _ _
  have ownG : ∀ r ∈ (v0.groups.map encG).set m.cluster.toNat ([U g0.ticket, C.sl 4 [] 3 0 g0.ends.length false]), ∀ c ∈ r, noOwn c = true := set_all (enc := encG) (fun _ => rfl) rfl _ _
  have ownE : ∀ r ∈ (g0.ends.map encE).set m.end_.toNat ([U e0.head, C.sl 5 [] 1 0 e0.next.length false, I e0.active]), ∀ c ∈ r, noOwn c = true := set_all (enc := encE) (fun _ => rfl) rfl _ _
  have lowV : ∀ r ∈ (w.versions.map encV).set m.version.toNat ((encS v0.snap ++ [C.sl 3 [] 2 0 v0.groups.length false, Bo v0.freed])), ∀ c ∈ r, lowC 6 9 c = true := set_all (enc := encV) (fun _ => rfl) rfl _ _
  have lowG : ∀ r ∈ (v0.groups.map encG).set m.cluster.toNat ([U g0.ticket, C.sl 4 [] 3 0 g0.ends.length false]), ∀ c ∈ r, lowC 6 9 c = true := set_all (enc := encG) (fun _ => rfl) rfl _ _
  have lowE : ∀ r ∈ (g0.ends.map encE).set m.end_.toNat ([U e0.head, C.sl 5 [] 1 0 e0.next.length false, I e0.active]), ∀ c ∈ r, lowC 6 9 c = true := set_all (enc := encE) (fun _ => rfl) rfl _ _
  have e2 : 0 + m.end_.toNat = m.end_.toNat := Nat.zero_add _
  have gg : ((v0.groups.map encG).set m.cluster.toNat ([U g0.ticket, C.sl 4 [] 3 0 g0.ends.length false]))[m.cluster.toNat]? = some ([U g0.ticket, C.sl 4 [] 3 0 g0.ends.length false]) := List.getElem?_set_self (by simpa using lg)
  refine of_wpX (fn := Tryz.f159) Tryz.func159 rfl (Nat.le_refl _) ?_; conv => whnf
  refine .inl ⟨⟨true, [], [], [1]⟩, by kernel_rfl, ?_⟩; (conv => whnf)
  refine callPartX [0, 1, 2, 3, 4, 5] [⟨1, 48, 8, [[I w.epoch, I w.current, I w.lock, lI w.pins, .sl 2 [] 5 0 w.versions.length false, lL w.listens, lCo w.counts, lR w.limbo]], 0⟩, ⟨1, 37, 44, [encM (m)], 0⟩, ⟨1, 0, 5, (w.versions.map encV).set m.version.toNat ((encS v0.snap ++ [C.sl 3 [] 2 0 v0.groups.length false, Bo v0.freed])), 0⟩, ⟨1, 0, 2, (v0.groups.map encG).set m.cluster.toNat ([U g0.ticket, C.sl 4 [] 3 0 g0.ends.length false]), 0⟩, ⟨1, 0, 3, (g0.ends.map encE).set m.end_.toNat ([U e0.head, C.sl 5 [] 1 0 e0.next.length false, I e0.active]), 0⟩, ⟨2, 3, 1, e0.next.map encI, 0⟩, ⟨1, 154, 2, [[.ref 0 [] 8 0 0, .ref 1 [] 44 0 0]], 0⟩] (rx := .ref 3 [] 2 m.cluster.toNat 0) (groupE_sound w m v0 g0 e0 hv) (flat_cons rfl (flat_cons rfl (flat_cons (flat_kept ownV) (flat_cons (flat_kept ownG) (flat_cons (flat_kept ownE) rfl))))) (by (show renOb _ _ :: renOb _ _ :: renOb _ ⟨1, 0, 5, _, 0⟩ :: renOb _ ⟨1, 0, 2, _, 0⟩ :: renOb _ ⟨1, 0, 3, _, 0⟩ :: _ = _); (rw [ren_kept (enc := encV) (fun _ => rfl), ren_kept (enc := encG) (fun _ => rfl), ren_kept (enc := encE) (fun _ => rfl)]); rfl) rfl rfl rfl (flat_cons rfl (flat_cons rfl (flat_cons (flat_kept ownV) (flat_cons (flat_kept ownG) (flat_cons (flat_kept ownE) rfl))))) (by (show mapOb _ _ :: mapOb _ _ :: mapOb _ ⟨1, 0, 5, _, 0⟩ :: mapOb _ ⟨1, 0, 2, _, 0⟩ :: mapOb _ ⟨1, 0, 3, _, 0⟩ :: _ = _); (rw [map_kept (enc := encV) (fun _ => rfl), map_kept (enc := encG) (fun _ => rfl), map_kept (enc := encE) (fun _ => rfl)]); rfl) rfl ?_
  (conv=>whnf);(try(refine ⟨(rfl:(_:Heap)=_),?_⟩;(conv=>whnf)))
  refine ⟨_, gg, (by show 1 + 1 ≤ 2; decide), ?_⟩
  (conv=>whnf);(try(refine ⟨(rfl:(_:Heap)=_),?_⟩;(conv=>whnf)))
  refine ⟨h0, le, ?_⟩
  (conv=>whnf);(try(refine ⟨(rfl:(_:Heap)=_),?_⟩;(conv=>whnf)))
  rw [e2]
  exact ⟨.inl rfl, _, _, .refl _, rfl, Weak.covD 6 (by (conv => whnf); (repeat (refine ⟨rfl, ?_⟩; (conv => whnf))); exact trivial) rfl rfl rfl (rl_cons rfl (rl_cons rfl (rl_cons (rl_kept lowV) (rl_cons (rl_kept lowG) (rl_cons (rl_kept lowE) rfl))))) rfl⟩
theorem ownE_sound (w : Wor) (m : Mac) (v0 : Ver) (g0 : Gr) (e0 : En) (hv : LnE w m v0 g0) (a b c : Int) : SoundAt Tryz.prog 158 [⟨1, 48, 8, [[I w.epoch, I w.current, I w.lock, lI w.pins, .sl 2 [] 5 0 w.versions.length false, lL w.listens, lCo w.counts, lR w.limbo]], 0⟩, ⟨1, 37, 44, [encM (m)], 0⟩, ⟨1, 0, 5, (w.versions.map encV).set m.version.toNat ((encS v0.snap ++ [C.sl 3 [] 2 0 v0.groups.length false, Bo v0.freed])), 0⟩, ⟨1, 0, 2, (v0.groups.map encG).set m.cluster.toNat ([U g0.ticket, C.sl 4 [] 3 0 g0.ends.length false]), 0⟩, ⟨1, 0, 3, (g0.ends.map encE).set m.end_.toNat ([U e0.head, C.sl 5 [] 1 0 e0.next.length false, I e0.active]), 0⟩, ⟨2, 3, 1, e0.next.map encI, 0⟩] [.agg [.ref 0 [] 8 0 0, .ref 1 [] 44 0 0], I a, I b, I c] (Ce (evV m v0 a b c)) [⟨1, 48, 8, [[I w.epoch, I w.current, I w.lock, lI w.pins, .sl 2 [] 5 0 w.versions.length false, lL w.listens, lCo w.counts, lR w.limbo]], 0⟩, ⟨1, 37, 44, [encM (m)], 0⟩, ⟨1, 0, 5, (w.versions.map encV).set m.version.toNat ((encS v0.snap ++ [C.sl 3 [] 2 0 v0.groups.length false, Bo v0.freed])), 0⟩, ⟨1, 0, 2, (v0.groups.map encG).set m.cluster.toNat ([U g0.ticket, C.sl 4 [] 3 0 g0.ends.length false]), 0⟩, ⟨1, 0, 3, (g0.ends.map encE).set m.end_.toNat ([U e0.head, C.sl 5 [] 1 0 e0.next.length false, I e0.active]), 0⟩, ⟨2, 3, 1, e0.next.map encI, 0⟩] := by
  have h0 := hv.pv
  have lv : m.version.toNat < w.versions.length := hv.lv
  have e1 : 0 + m.version.toNat = m.version.toNat := Nat.zero_add _
  clear hv
  obtain ⟨sn, gs, fr⟩ := v0
  cases fr
  all_goals
    have ownV : ∀ b, ∀ r ∈ (w.versions.map encV).set m.version.toNat (encS sn ++ [C.sl 3 [] 2 0 gs.length false, Bo b]), ∀ c ∈ r, noOwn c = true := fun b => set_all (enc := encV) (fun _ => rfl) rfl _ _
    have ownG : ∀ r ∈ (gs.map encG).set m.cluster.toNat ([U g0.ticket, C.sl 4 [] 3 0 g0.ends.length false]), ∀ c ∈ r, noOwn c = true := set_all (enc := encG) (fun _ => rfl) rfl _ _
    have ownE : ∀ r ∈ (g0.ends.map encE).set m.end_.toNat ([U e0.head, C.sl 5 [] 1 0 e0.next.length false, I e0.active]), ∀ c ∈ r, noOwn c = true := set_all (enc := encE) (fun _ => rfl) rfl _ _
    have lowV : ∀ b, ∀ r ∈ (w.versions.map encV).set m.version.toNat (encS sn ++ [C.sl 3 [] 2 0 gs.length false, Bo b]), ∀ c ∈ r, lowC 6 9 c = true := fun b => set_all (enc := encV) (fun _ => rfl) rfl _ _
    have gv : ∀ b, ((w.versions.map encV).set m.version.toNat (encS sn ++ [C.sl 3 [] 2 0 gs.length false, Bo b]))[m.version.toNat]? = some (encS sn ++ [C.sl 3 [] 2 0 gs.length false, Bo b]) := fun b => List.getElem?_set_self (by simpa using lv)
    have lowG : ∀ r ∈ (gs.map encG).set m.cluster.toNat ([U g0.ticket, C.sl 4 [] 3 0 g0.ends.length false]), ∀ c ∈ r, lowC 6 9 c = true := set_all (enc := encG) (fun _ => rfl) rfl _ _
    have lowE : ∀ r ∈ (g0.ends.map encE).set m.end_.toNat ([U e0.head, C.sl 5 [] 1 0 e0.next.length false, I e0.active]), ∀ c ∈ r, lowC 6 9 c = true := set_all (enc := encE) (fun _ => rfl) rfl _ _
    refine of_wpX (fn := Tryz.f158) Tryz.func158 rfl (Nat.le_refl _) ?_; conv => whnf
    refine callPartX [1] [⟨1, 48, 8, [[I w.epoch, I w.current, I w.lock, lI w.pins, .sl 2 [] 5 0 w.versions.length false, lL w.listens, lCo w.counts, lR w.limbo]], 0⟩, ⟨1, 37, 44, [encM (m)], 0⟩, ⟨1, 0, 5, (w.versions.map encV).set m.version.toNat (encS sn ++ [C.sl 3 [] 2 0 gs.length false, Bo _]), 0⟩, ⟨1, 0, 2, (gs.map encG).set m.cluster.toNat ([U g0.ticket, C.sl 4 [] 3 0 g0.ends.length false]), 0⟩, ⟨1, 0, 3, (g0.ends.map encE).set m.end_.toNat ([U e0.head, C.sl 5 [] 1 0 e0.next.length false, I e0.active]), 0⟩, ⟨2, 3, 1, e0.next.map encI, 0⟩, ⟨1, 154, 2, [[.ref 0 [] 8 0 0, .ref 1 [] 44 0 0]], 0⟩, ⟨1, 87, 23, [encEv noEve], 0⟩] (rx := Ce (evO m a b c)) (other_sound m a b c) rfl rfl rfl rfl rfl (flat_cons rfl (flat_cons rfl (flat_cons (flat_kept (ownV _)) (flat_cons (flat_kept ownG) (flat_cons (flat_kept ownE) rfl))))) rfl rfl ?_
    (conv=>whnf);(try(refine ⟨(rfl:(_:Heap)=_),?_⟩;(conv=>whnf)))
    refine .inl ⟨⟨false, [6, 9, 11, 14, 17], [0, 1, 2, 6], []⟩, by kernel_rfl, ?_⟩; (conv => whnf)
    refine ⟨h0, lv, ?_⟩
    (conv=>whnf);(try(refine ⟨(rfl:(_:Heap)=_),?_⟩;(conv=>whnf)))
    rw [e1]
    refine ⟨_, gv _, (by show 4 + 1 ≤ 5; decide), ?_⟩
    (conv=>whnf);(try(refine ⟨(rfl:(_:Heap)=_),?_⟩;(conv=>whnf)))
    first | ((refine ⟨fun _ => ?_, fun h => absurd (h.symm.trans rfl : false = true) (by decide)⟩); (conv=>whnf);(try(refine ⟨(rfl:(_:Heap)=_),?_⟩;(conv=>whnf)))) | ((refine ⟨fun h => absurd (h.symm.trans rfl : true = false) (by decide), fun _ => ?_⟩); (conv=>whnf);(try(refine ⟨(rfl:(_:Heap)=_),?_⟩;(conv=>whnf))))
    repeat (refine ⟨rfl, ?_⟩; ((conv=>whnf);(try(refine ⟨(rfl:(_:Heap)=_),?_⟩;(conv=>whnf)))))
    exact ⟨.inl rfl, _, _, .refl _, rfl, Weak.covD 6 (by (conv => whnf); (repeat (refine ⟨rfl, ?_⟩; (conv => whnf))); exact trivial) rfl rfl rfl (rl_cons rfl (rl_cons rfl (rl_cons (rl_kept (lowV _)) (rl_cons (rl_kept lowG) (rl_cons (rl_kept lowE) rfl))))) rfl⟩
abbrev actE (e : En) (n : Int) : En := { e with active := IntKind.i64.wrap (e.active + n) }
theorem active_sound (w : Wor) (m : Mac) (v0 : Ver) (g0 : Gr) (e0 : En) (hv : LnE w m v0 g0) : SoundAt Tryz.prog 121 [⟨1, 48, 8, [[I w.epoch, I w.current, I w.lock, lI w.pins, .sl 2 [] 5 0 w.versions.length false, lL w.listens, lCo w.counts, lR w.limbo]], 0⟩, ⟨1, 37, 44, [encM (m)], 0⟩, ⟨1, 0, 5, (w.versions.map encV).set m.version.toNat ((encS v0.snap ++ [C.sl 3 [] 2 0 v0.groups.length false, Bo v0.freed])), 0⟩, ⟨1, 0, 2, (v0.groups.map encG).set m.cluster.toNat ([U g0.ticket, C.sl 4 [] 3 0 g0.ends.length false]), 0⟩, ⟨1, 0, 3, (g0.ends.map encE).set m.end_.toNat ([U e0.head, C.sl 5 [] 1 0 e0.next.length false, I e0.active]), 0⟩, ⟨2, 3, 1, e0.next.map encI, 0⟩] [.agg [.ref 0 [] 8 0 0, .ref 1 [] 44 0 0]] (Ce (evV m v0 3 7 (IntKind.i64.wrap (e0.active + 1))))
    [⟨1, 48, 8, [[I w.epoch, I w.current, I w.lock, lI w.pins, .sl 2 [] 5 0 w.versions.length false, lL w.listens, lCo w.counts, lR w.limbo]], 0⟩, ⟨1, 37, 44, [encM ({ m with answer := ⟨1, m.version, m.cluster, m.end_, m.slot, m.listen, 0, ⟨0, 0, 0, 0, 0, 0⟩⟩, pc := 20 })], 0⟩, ⟨1, 0, 5, (w.versions.map encV).set m.version.toNat ((encS v0.snap ++ [C.sl 3 [] 2 0 v0.groups.length false, Bo v0.freed])), 0⟩, ⟨1, 0, 2, (v0.groups.map encG).set m.cluster.toNat ([U g0.ticket, C.sl 4 [] 3 0 g0.ends.length false]), 0⟩, ⟨1, 0, 3, (g0.ends.map encE).set m.end_.toNat [U e0.head, C.sl 5 [] 1 0 e0.next.length false, I (IntKind.i64.wrap (e0.active + 1))], 0⟩, ⟨2, 3, 1, e0.next.map encI, 0⟩] := by
  have le := hv.le
  have ownV : ∀ r ∈ (w.versions.map encV).set m.version.toNat ((encS v0.snap ++ [C.sl 3 [] 2 0 v0.groups.length false, Bo v0.freed])), ∀ c ∈ r, noOwn c = true := set_all (enc := encV) (fun _ => rfl) rfl _ _
  have ownG : ∀ r ∈ (v0.groups.map encG).set m.cluster.toNat ([U g0.ticket, C.sl 4 [] 3 0 g0.ends.length false]), ∀ c ∈ r, noOwn c = true := set_all (enc := encG) (fun _ => rfl) rfl _ _
  have ownE : ∀ r ∈ (g0.ends.map encE).set m.end_.toNat ([U e0.head, C.sl 5 [] 1 0 e0.next.length false, I e0.active]), ∀ c ∈ r, noOwn c = true := set_all (enc := encE) (fun _ => rfl) rfl _ _
  have ge : ((g0.ends.map encE).set m.end_.toNat ([U e0.head, C.sl 5 [] 1 0 e0.next.length false, I e0.active]))[m.end_.toNat]? = some ([U e0.head, C.sl 5 [] 1 0 e0.next.length false, I e0.active]) := List.getElem?_set_self (by simpa using le)
  refine of_wpX (fn := Tryz.f121) Tryz.func121 rfl (Nat.le_refl _) ?_; conv => whnf
  refine callPtrX [0, 1, 2, 3, 4, 5] [⟨1, 48, 8, [[I w.epoch, I w.current, I w.lock, lI w.pins, .sl 2 [] 5 0 w.versions.length false, lL w.listens, lCo w.counts, lR w.limbo]], 0⟩, ⟨1, 37, 44, [encM (m)], 0⟩, ⟨1, 0, 5, (w.versions.map encV).set m.version.toNat ((encS v0.snap ++ [C.sl 3 [] 2 0 v0.groups.length false, Bo v0.freed])), 0⟩, ⟨1, 0, 2, (v0.groups.map encG).set m.cluster.toNat ([U g0.ticket, C.sl 4 [] 3 0 g0.ends.length false]), 0⟩, ⟨1, 0, 3, (g0.ends.map encE).set m.end_.toNat ([U e0.head, C.sl 5 [] 1 0 e0.next.length false, I e0.active]), 0⟩, ⟨2, 3, 1, e0.next.map encI, 0⟩, ⟨1, 154, 2, [[.ref 0 [] 8 0 0, .ref 1 [] 44 0 0]], 0⟩, ⟨1, 87, 23, [encEv noEve], 0⟩] (rx := .ref 4 [] 3 m.end_.toNat 0) (endE_sound w m v0 g0 e0 hv) (flat_cons rfl (flat_cons rfl (flat_cons (flat_kept ownV) (flat_cons (flat_kept ownG) (flat_cons (flat_kept ownE) rfl))))) (by (show renOb _ _ :: renOb _ _ :: renOb _ ⟨1, 0, 5, _, 0⟩ :: renOb _ ⟨1, 0, 2, _, 0⟩ :: renOb _ ⟨1, 0, 3, _, 0⟩ :: _ = _); (rw [ren_kept (enc := encV) (fun _ => rfl), ren_kept (enc := encG) (fun _ => rfl), ren_kept (enc := encE) (fun _ => rfl)]); rfl) rfl rfl rfl (flat_cons rfl (flat_cons rfl (flat_cons (flat_kept ownV) (flat_cons (flat_kept ownG) (flat_cons (flat_kept ownE) rfl))))) (by (show mapOb _ _ :: mapOb _ _ :: mapOb _ ⟨1, 0, 5, _, 0⟩ :: mapOb _ ⟨1, 0, 2, _, 0⟩ :: mapOb _ ⟨1, 0, 3, _, 0⟩ :: _ = _); (rw [map_kept (enc := encV) (fun _ => rfl), map_kept (enc := encG) (fun _ => rfl), map_kept (enc := encE) (fun _ => rfl)]); rfl) rfl ?_
  (conv=>whnf);(try(refine ⟨(rfl:(_:Heap)=_),?_⟩;(conv=>whnf)))
  refine ⟨_, ge, (by show 2 + 1 ≤ 3; decide), ?_⟩
  (conv=>whnf);(try(refine ⟨(rfl:(_:Heap)=_),?_⟩;(conv=>whnf)))
  refine ⟨_, ge, rfl, ?_⟩
  (conv=>whnf);(try(refine ⟨(rfl:(_:Heap)=_),?_⟩;(conv=>whnf)))
  rw [List.set_set]
  refine .inl ⟨⟨false, [], [], []⟩, by kernel_rfl, ?_⟩; (conv => whnf)
  have ownE2 : ∀ r ∈ (g0.ends.map encE).set m.end_.toNat [U e0.head, C.sl 5 [] 1 0 e0.next.length false, I (IntKind.i64.wrap (e0.active + 1))], ∀ c ∈ r, noOwn c = true := set_all (enc := encE) (fun _ => rfl) rfl _ _
  refine .inl ⟨⟨true, [], [], [2, 6]⟩, by kernel_rfl, ?_⟩; (conv => whnf)
  have hv2 : LnE w { m with answer := ⟨1, m.version, m.cluster, m.end_, m.slot, m.listen, 0, ⟨0, 0, 0, 0, 0, 0⟩⟩, pc := 20 } v0 g0 := ⟨hv.pv, hv.lv, hv.pg, hv.lg, hv.pe, hv.le⟩
  have ge2 : ((g0.ends.map encE).set m.end_.toNat [U e0.head, C.sl 5 [] 1 0 e0.next.length false, I (IntKind.i64.wrap (e0.active + 1))])[m.end_.toNat]? = some [U e0.head, C.sl 5 [] 1 0 e0.next.length false, I (IntKind.i64.wrap (e0.active + 1))] := List.getElem?_set_self (by simpa using le)
  have lowV : ∀ r ∈ (w.versions.map encV).set m.version.toNat ((encS v0.snap ++ [C.sl 3 [] 2 0 v0.groups.length false, Bo v0.freed])), ∀ c ∈ r, lowC 6 9 c = true := set_all (enc := encV) (fun _ => rfl) rfl _ _
  have lowG : ∀ r ∈ (v0.groups.map encG).set m.cluster.toNat ([U g0.ticket, C.sl 4 [] 3 0 g0.ends.length false]), ∀ c ∈ r, lowC 6 9 c = true := set_all (enc := encG) (fun _ => rfl) rfl _ _
  have lowE : ∀ r ∈ (g0.ends.map encE).set m.end_.toNat [U e0.head, C.sl 5 [] 1 0 e0.next.length false, I (IntKind.i64.wrap (e0.active + 1))], ∀ c ∈ r, lowC 6 9 c = true := set_all (enc := encE) (fun _ => rfl) rfl _ _
  refine callPartX [0, 1, 2, 3, 4, 5] [⟨1, 48, 8, [[I w.epoch, I w.current, I w.lock, lI w.pins, .sl 2 [] 5 0 w.versions.length false, lL w.listens, lCo w.counts, lR w.limbo]], 0⟩, ⟨1, 37, 44, [encM ({ m with answer := ⟨1, m.version, m.cluster, m.end_, m.slot, m.listen, 0, ⟨0, 0, 0, 0, 0, 0⟩⟩, pc := 20 })], 0⟩, ⟨1, 0, 5, (w.versions.map encV).set m.version.toNat ((encS v0.snap ++ [C.sl 3 [] 2 0 v0.groups.length false, Bo v0.freed])), 0⟩, ⟨1, 0, 2, (v0.groups.map encG).set m.cluster.toNat ([U g0.ticket, C.sl 4 [] 3 0 g0.ends.length false]), 0⟩, ⟨1, 0, 3, (g0.ends.map encE).set m.end_.toNat [U e0.head, C.sl 5 [] 1 0 e0.next.length false, I (IntKind.i64.wrap (e0.active + 1))], 0⟩, ⟨2, 3, 1, e0.next.map encI, 0⟩, ⟨1, 154, 2, [[.ref 0 [] 8 0 0, .ref 1 [] 44 0 0]], 0⟩, ⟨1, 87, 23, [encEv noEve], 0⟩] (rx := .ref 4 [] 3 m.end_.toNat 0) (endE_sound w _ v0 g0 (actE e0 1) hv2) (flat_cons rfl (flat_cons rfl (flat_cons (flat_kept ownV) (flat_cons (flat_kept ownG) (flat_cons (flat_kept ownE2) rfl))))) (by (show renOb _ _ :: renOb _ _ :: renOb _ ⟨1, 0, 5, _, 0⟩ :: renOb _ ⟨1, 0, 2, _, 0⟩ :: renOb _ ⟨1, 0, 3, _, 0⟩ :: _ = _); (rw [ren_kept (enc := encV) (fun _ => rfl), ren_kept (enc := encG) (fun _ => rfl), ren_kept (enc := encE) (fun _ => rfl)]); rfl) rfl rfl rfl (flat_cons rfl (flat_cons rfl (flat_cons (flat_kept ownV) (flat_cons (flat_kept ownG) (flat_cons (flat_kept ownE2) rfl))))) (by (show mapOb _ _ :: mapOb _ _ :: mapOb _ ⟨1, 0, 5, _, 0⟩ :: mapOb _ ⟨1, 0, 2, _, 0⟩ :: mapOb _ ⟨1, 0, 3, _, 0⟩ :: _ = _); (rw [map_kept (enc := encV) (fun _ => rfl), map_kept (enc := encG) (fun _ => rfl), map_kept (enc := encE) (fun _ => rfl)]); rfl) rfl ?_
  (conv=>whnf);(try(refine ⟨(rfl:(_:Heap)=_),?_⟩;(conv=>whnf)))
  refine ⟨_, ge2, (by show 2 + 1 ≤ 3; decide), ?_⟩
  (conv=>whnf);(try(refine ⟨(rfl:(_:Heap)=_),?_⟩;(conv=>whnf)))
  refine callPartX [0, 1, 2, 3, 4, 5] [⟨1, 48, 8, [[I w.epoch, I w.current, I w.lock, lI w.pins, .sl 2 [] 5 0 w.versions.length false, lL w.listens, lCo w.counts, lR w.limbo]], 0⟩, ⟨1, 37, 44, [encM ({ m with answer := ⟨1, m.version, m.cluster, m.end_, m.slot, m.listen, 0, ⟨0, 0, 0, 0, 0, 0⟩⟩, pc := 20 })], 0⟩, ⟨1, 0, 5, (w.versions.map encV).set m.version.toNat ((encS v0.snap ++ [C.sl 3 [] 2 0 v0.groups.length false, Bo v0.freed])), 0⟩, ⟨1, 0, 2, (v0.groups.map encG).set m.cluster.toNat ([U g0.ticket, C.sl 4 [] 3 0 g0.ends.length false]), 0⟩, ⟨1, 0, 3, (g0.ends.map encE).set m.end_.toNat [U e0.head, C.sl 5 [] 1 0 e0.next.length false, I (IntKind.i64.wrap (e0.active + 1))], 0⟩, ⟨2, 3, 1, e0.next.map encI, 0⟩, ⟨1, 154, 2, [[.ref 0 [] 8 0 0, .ref 1 [] 44 0 0]], 0⟩, ⟨1, 87, 23, [encEv noEve], 0⟩] (rx := Ce (evV m v0 3 7 (IntKind.i64.wrap (e0.active + 1)))) (ownE_sound w _ v0 g0 (actE e0 1) hv2 3 7 (IntKind.i64.wrap (e0.active + 1))) (flat_cons rfl (flat_cons rfl (flat_cons (flat_kept ownV) (flat_cons (flat_kept ownG) (flat_cons (flat_kept ownE2) rfl))))) (by (show renOb _ _ :: renOb _ _ :: renOb _ ⟨1, 0, 5, _, 0⟩ :: renOb _ ⟨1, 0, 2, _, 0⟩ :: renOb _ ⟨1, 0, 3, _, 0⟩ :: _ = _); (rw [ren_kept (enc := encV) (fun _ => rfl), ren_kept (enc := encG) (fun _ => rfl), ren_kept (enc := encE) (fun _ => rfl)]); rfl) rfl rfl rfl (flat_cons rfl (flat_cons rfl (flat_cons (flat_kept ownV) (flat_cons (flat_kept ownG) (flat_cons (flat_kept ownE2) rfl))))) (by (show mapOb _ _ :: mapOb _ _ :: mapOb _ ⟨1, 0, 5, _, 0⟩ :: mapOb _ ⟨1, 0, 2, _, 0⟩ :: mapOb _ ⟨1, 0, 3, _, 0⟩ :: _ = _); (rw [map_kept (enc := encV) (fun _ => rfl), map_kept (enc := encG) (fun _ => rfl), map_kept (enc := encE) (fun _ => rfl)]); rfl) rfl ?_
  (conv=>whnf);(try(refine ⟨(rfl:(_:Heap)=_),?_⟩;(conv=>whnf)))
  exact ⟨.inl rfl, _, _, .refl _, rfl, Weak.covD 6 (by (conv => whnf); (repeat (refine ⟨rfl, ?_⟩; (conv => whnf))); exact trivial) rfl rfl rfl (rl_cons rfl (rl_cons rfl (rl_cons (rl_kept lowV) (rl_cons (rl_kept lowG) (rl_cons (rl_kept lowE) rfl))))) rfl⟩
end Go.Wor
