import Derived.Test.YtdbcjcnfaajpjaaGreatRX
namespace Go.Wor
open Go.Ab Go.Proofs Go.Hy Go.Gat Go.Nam Go.Hos Go.Con Go.Sna
set_option linter.unusedVariables false
set_option linter.unusedSimpArgs false
set_option maxRecDepth 100000
set_option maxHeartbeats 4000000
theorem ownF_sound (w : Wor) (m : Mac) (v : Ver) (hv : AtV w m v) (a b c : Int) : SoundAt Tryz.prog 84 [] [Cw w, Cm m, I a, I b, I c] (Ce (evV m v a b c)) [] := by
  have h0 := hv.v0
  have hr := hv.row
  obtain ⟨sn, gs, fr⟩ := v
  cases fr
  all_goals
    refine SoundAt.of_wpA1 (fn := Tryz.f84) Tryz.func84 rfl ?_
    conv => whnf
    refine .inl ⟨⟨false, [], [], []⟩, by kernel_rfl, ?_⟩; (conv => whnf)
    (refine ⟨h0, _, hr, ?_⟩); (conv=>whnf);(try(refine ⟨(rfl:(_:Heap)=_),?_⟩;(conv=>whnf)))
    first | ((refine ⟨fun _ => ?_, fun h => absurd (h.symm.trans rfl : false = true) (by decide)⟩); (conv=>whnf);(try(refine ⟨(rfl:(_:Heap)=_),?_⟩;(conv=>whnf)))) | ((refine ⟨fun h => absurd (h.symm.trans rfl : true = false) (by decide), fun _ => ?_⟩); (conv=>whnf);(try(refine ⟨(rfl:(_:Heap)=_),?_⟩;(conv=>whnf))))
    exact ⟨.inl rfl, _, .refl _, rfl⟩
theorem fin0_sound (w : Wor) (m : Mac) (v : Ver) (g : Gr) (e : En) (sw : SmWor w) (ok : OkW w) (hl : i64 m.listen) (hpc : m.pc = 0) (hs : suitsV w m = true) (hat : AtE w m v g e) (hw : u64 m.word) (hh : u64 e.head) :
    SoundAt Tryz.prog 63 [] [Cw w, Cm m] (.tup [Cw w, Cm { m with word := e.head, pc := 1 }, Ce (evV m v 1 8 (e.head % 4294967296 - 1))]) [] := by
  have a0 := hat.v0
  have a1 := hat.toAtV.row
  have b0 := hat.g0
  have b1 : (v.groups.map encG)[m.cluster.toNat]? = some (encG g) := by rw [List.getElem?_map, hat.atg]; rfl
  have c0 := hat.e0
  have c1 : (g.ends.map encE)[m.end_.toNat]? = some (encE e) := by rw [List.getElem?_map, hat.ate]; rfl
  refine SoundAt.of_wpA1 (fn := Tryz.f63) Tryz.func63 rfl ?_
  conv => whnf
  (repeat (first | (refine ⟨fun _ => ?_, ?_⟩; rotate_left 1; (focus (intro h; first | (simp [hpc] at h; done) | (have h := of_decide_eq_true h; omega) | (have h := of_decide_eq_false h; omega))); ((conv=>whnf);(try(refine ⟨(rfl:(_:Heap)=_),?_⟩;(conv=>whnf))))) | (refine ⟨?_, fun _ => ?_⟩; (focus (intro h; first | (simp [hpc] at h; done) | (have h := of_decide_eq_true h; omega) | (have h := of_decide_eq_false h; omega))); ((conv=>whnf);(try(refine ⟨(rfl:(_:Heap)=_),?_⟩;(conv=>whnf)))))))
  refine ⟨_, _, (suits_sound w m ok hl).frame rfl _, ?_⟩; (conv=>whnf);(try(refine ⟨(rfl:(_:Heap)=_),?_⟩;(conv=>whnf)))
  refine ⟨fun _ => ?_, fun h => absurd ((hs).symm.trans h : true = false) (by decide)⟩; (conv=>whnf);(try(refine ⟨(rfl:(_:Heap)=_),?_⟩;(conv=>whnf)))
  (repeat (first | (refine ⟨fun _ => ?_, ?_⟩; rotate_left 1; (focus (intro h; first | (simp [hpc] at h; done) | (have h := of_decide_eq_true h; omega) | (have h := of_decide_eq_false h; omega))); ((conv=>whnf);(try(refine ⟨(rfl:(_:Heap)=_),?_⟩;(conv=>whnf))))) | (refine ⟨?_, fun _ => ?_⟩; (focus (intro h; first | (simp [hpc] at h; done) | (have h := of_decide_eq_true h; omega) | (have h := of_decide_eq_false h; omega))); ((conv=>whnf);(try(refine ⟨(rfl:(_:Heap)=_),?_⟩;(conv=>whnf)))))))
  (repeat (first | (refine ⟨fun _ => ?_, fun h => absurd h (by decide)⟩; (conv=>whnf);(try(refine ⟨(rfl:(_:Heap)=_),?_⟩;(conv=>whnf)))) | (refine ⟨fun h => absurd h (by decide), fun _ => ?_⟩; (conv=>whnf);(try(refine ⟨(rfl:(_:Heap)=_),?_⟩;(conv=>whnf))))))
  refine ⟨_, _, (clone_sound w sw).frame rfl _, ?_⟩; (conv=>whnf);(try(refine ⟨(rfl:(_:Heap)=_),?_⟩;(conv=>whnf)))
  refine .inl ⟨⟨false, [], [], []⟩, by kernel_rfl, ?_⟩; (conv => whnf)
  (refine ⟨a0, _, a1, ?_⟩); (conv=>whnf);(try(refine ⟨(rfl:(_:Heap)=_),?_⟩;(conv=>whnf)))
  (refine ⟨b0, _, b1, ?_⟩); (conv=>whnf);(try(refine ⟨(rfl:(_:Heap)=_),?_⟩;(conv=>whnf)))
  (refine ⟨c0, _, c1, ?_⟩); (conv=>whnf);(try(refine ⟨(rfl:(_:Heap)=_),?_⟩;(conv=>whnf)))
  refine ⟨_, _, (Slp.index_sound m.word hw).frame rfl _, ?_⟩; (conv=>whnf);(try(refine ⟨(rfl:(_:Heap)=_),?_⟩;(conv=>whnf)))
  refine .inr ⟨⟨[0, 1, 5, 6, 7], [0, 1], true⟩, by kernel_rfl, fun _ => rfl, _, ?_, fun t2 H2 h => h⟩; (conv => whnf)
  refine ⟨_, SoundAt.blind [] (Slp.index_sound e.head hh) rfl rfl rfl rfl rfl rfl rfl (fun _ => rfl) (fun _ => rfl), ?_⟩; (conv => whnf)
  refine ⟨_, SoundAt.blind [] (ownF_sound w m v hat.toAtV 1 8 (e.head % 4294967296 - 1)) rfl rfl rfl rfl rfl rfl rfl (fun _ => rfl) (fun _ => rfl), ?_⟩; (conv => whnf)
  (refine ⟨?_, trivial⟩); (conv => whnf); (repeat (refine ⟨rfl, ?_⟩; (conv => whnf)))
  (refine ⟨?_, trivial⟩); (conv => whnf); (repeat (refine ⟨rfl, ?_⟩; (conv => whnf)))
  (refine ⟨_, _, .refl _, ?_⟩); (conv => whnf)
  (repeat (first | (refine ⟨fun _ => ?_, ?_⟩; rotate_left 1; (focus (intro h; first | (simp [hpc] at h; done) | (have h := of_decide_eq_true h; omega) | (have h := of_decide_eq_false h; omega))); ((conv=>whnf);(try(refine ⟨(rfl:(_:Heap)=_),?_⟩;(conv=>whnf))))) | (refine ⟨?_, fun _ => ?_⟩; (focus (intro h; first | (simp [hpc] at h; done) | (have h := of_decide_eq_true h; omega) | (have h := of_decide_eq_false h; omega))); ((conv=>whnf);(try(refine ⟨(rfl:(_:Heap)=_),?_⟩;(conv=>whnf)))))))
  refine JumpK.go rfl ?_; conv => whnf
  rw [show IntKind.i64.wrap (m.pc + 1) = 1 from by rw [hpc]; rfl]
  refine .inl ⟨⟨false, [0, 1, 2], [5, 1, 6], []⟩, by kernel_rfl, ?_⟩; (conv => whnf)
  repeat (refine ⟨rfl, ?_⟩; ((conv=>whnf);(try(refine ⟨(rfl:(_:Heap)=_),?_⟩;(conv=>whnf)))))
  exact ⟨.inl rfl, _, .refl _, rfl⟩
abbrev nothE (m : Mac) : Eve := { noEve with thread := m.thread, access := 1, version := -1, done := true, answer := ansK 7 }
theorem fin9_sound (w : Wor) (m : Mac) (v : Ver) (g : Gr) (e : En) (sw : SmWor w) (ok : OkW w) (hl : i64 m.listen) (hpc : m.pc = 9) (hs : suitsV w m = true) (hat : AtE w m v g e) (hw : u64 m.word) (hh : u64 e.head) :
    SoundAt Tryz.prog 63 [] [Cw w, Cm m] (.tup [Cw w, Cm { m with answer := ansK 7, done := true }, Ce (nothE m)]) [] := by
  have a0 := hat.v0
  have a1 := hat.toAtV.row
  have b0 := hat.g0
  have b1 : (v.groups.map encG)[m.cluster.toNat]? = some (encG g) := by rw [List.getElem?_map, hat.atg]; rfl
  have c0 := hat.e0
  have c1 : (g.ends.map encE)[m.end_.toNat]? = some (encE e) := by rw [List.getElem?_map, hat.ate]; rfl
  refine SoundAt.of_wpA1 (fn := Tryz.f63) Tryz.func63 rfl ?_
  conv => whnf
  (repeat (first | (refine ⟨fun _ => ?_, ?_⟩; rotate_left 1; (focus (intro h; first | (simp [hpc] at h; done) | (have h := of_decide_eq_true h; omega) | (have h := of_decide_eq_false h; omega))); ((conv=>whnf);(try(refine ⟨(rfl:(_:Heap)=_),?_⟩;(conv=>whnf))))) | (refine ⟨?_, fun _ => ?_⟩; (focus (intro h; first | (simp [hpc] at h; done) | (have h := of_decide_eq_true h; omega) | (have h := of_decide_eq_false h; omega))); ((conv=>whnf);(try(refine ⟨(rfl:(_:Heap)=_),?_⟩;(conv=>whnf)))))))
  refine ⟨_, _, (suits_sound w m ok hl).frame rfl _, ?_⟩; (conv=>whnf);(try(refine ⟨(rfl:(_:Heap)=_),?_⟩;(conv=>whnf)))
  refine ⟨fun _ => ?_, fun h => absurd ((hs).symm.trans h : true = false) (by decide)⟩; (conv=>whnf);(try(refine ⟨(rfl:(_:Heap)=_),?_⟩;(conv=>whnf)))
  (repeat (first | (refine ⟨fun _ => ?_, ?_⟩; rotate_left 1; (focus (intro h; first | (simp [hpc] at h; done) | (have h := of_decide_eq_true h; omega) | (have h := of_decide_eq_false h; omega))); ((conv=>whnf);(try(refine ⟨(rfl:(_:Heap)=_),?_⟩;(conv=>whnf))))) | (refine ⟨?_, fun _ => ?_⟩; (focus (intro h; first | (simp [hpc] at h; done) | (have h := of_decide_eq_true h; omega) | (have h := of_decide_eq_false h; omega))); ((conv=>whnf);(try(refine ⟨(rfl:(_:Heap)=_),?_⟩;(conv=>whnf)))))))
  (repeat (first | (refine ⟨fun _ => ?_, fun h => absurd h (by decide)⟩; (conv=>whnf);(try(refine ⟨(rfl:(_:Heap)=_),?_⟩;(conv=>whnf)))) | (refine ⟨fun h => absurd h (by decide), fun _ => ?_⟩; (conv=>whnf);(try(refine ⟨(rfl:(_:Heap)=_),?_⟩;(conv=>whnf))))))
  refine ⟨_, _, (clone_sound w sw).frame rfl _, ?_⟩; (conv=>whnf);(try(refine ⟨(rfl:(_:Heap)=_),?_⟩;(conv=>whnf)))
  refine .inl ⟨⟨false, [], [], []⟩, by kernel_rfl, ?_⟩; (conv => whnf)
  (refine ⟨a0, _, a1, ?_⟩); (conv=>whnf);(try(refine ⟨(rfl:(_:Heap)=_),?_⟩;(conv=>whnf)))
  (refine ⟨b0, _, b1, ?_⟩); (conv=>whnf);(try(refine ⟨(rfl:(_:Heap)=_),?_⟩;(conv=>whnf)))
  (refine ⟨c0, _, c1, ?_⟩); (conv=>whnf);(try(refine ⟨(rfl:(_:Heap)=_),?_⟩;(conv=>whnf)))
  refine ⟨_, _, (Slp.index_sound m.word hw).frame rfl _, ?_⟩; (conv=>whnf);(try(refine ⟨(rfl:(_:Heap)=_),?_⟩;(conv=>whnf)))
  refine .inr ⟨⟨[0, 1, 5, 6, 7], [0, 1], true⟩, by kernel_rfl, fun _ => rfl, _, ?_, fun t2 H2 h => h⟩; (conv => whnf)
  refine ⟨_, SoundAt.blind [] (Slp.index_sound e.head hh) rfl rfl rfl rfl rfl rfl rfl (fun _ => rfl) (fun _ => rfl), ?_⟩; (conv => whnf)
  refine ⟨_, SoundAt.blind [] (ownF_sound w m v hat.toAtV 1 8 (e.head % 4294967296 - 1)) rfl rfl rfl rfl rfl rfl rfl (fun _ => rfl) (fun _ => rfl), ?_⟩; (conv => whnf)
  (refine ⟨?_, trivial⟩); (conv => whnf); (repeat (refine ⟨rfl, ?_⟩; (conv => whnf)))
  (refine ⟨?_, trivial⟩); (conv => whnf); (repeat (refine ⟨rfl, ?_⟩; (conv => whnf)))
  (refine ⟨_, _, .refl _, ?_⟩); (conv => whnf)
  (repeat (first | (refine ⟨fun _ => ?_, ?_⟩; rotate_left 1; (focus (intro h; first | (simp [hpc] at h; done) | (have h := of_decide_eq_true h; omega) | (have h := of_decide_eq_false h; omega))); ((conv=>whnf);(try(refine ⟨(rfl:(_:Heap)=_),?_⟩;(conv=>whnf))))) | (refine ⟨?_, fun _ => ?_⟩; (focus (intro h; first | (simp [hpc] at h; done) | (have h := of_decide_eq_true h; omega) | (have h := of_decide_eq_false h; omega))); ((conv=>whnf);(try(refine ⟨(rfl:(_:Heap)=_),?_⟩;(conv=>whnf)))))))
  refine JumpK.go rfl ?_; conv => whnf
  refine .inl ⟨⟨false, [0, 1, 2], [5, 1, 6], []⟩, by kernel_rfl, ?_⟩; (conv => whnf)
  repeat (refine ⟨rfl, ?_⟩; ((conv=>whnf);(try(refine ⟨(rfl:(_:Heap)=_),?_⟩;(conv=>whnf)))))
  exact ⟨.inl rfl, _, .refl _, rfl⟩
end Go.Wor
namespace Go.Wor
open Go.Ab Go.Proofs Go.Hy Go.Gat Go.Nam Go.Hos Go.Con Go.Sna
set_option linter.unusedVariables false
set_option linter.unusedSimpArgs false
set_option maxRecDepth 100000
set_option maxHeartbeats 4000000
theorem fin3_sound (w : Wor) (m : Mac) (v0 : Ver) (g0 : Gr) (e0 : En) (sw : SmWor w) (ok : OkW w) (hl : i64 m.listen) (hpc : m.pc = 3) (hs : suitsV w m = true) (hat : AtE w m v0 g0 e0) (hne : e0.next ≠ []) (hw : u64 m.word) (hh : u64 e0.head) {tk hd ac : Int} (htk : tk = g0.ticket) (hhd : hd = e0.head) (hac : ac = IntKind.i64.wrap (e0.active - 1)) :
    SoundAt Tryz.prog 63 [] [Cw w, Cm m] (.tup [Cw (turnW w m v0 g0 e0 tk hd ac), Cm { m with pc := 4 }, Ce (evV m v0 3 7 ac)]) [] := by
  have lv := hat.ln.lv
  have lg := hat.ln.lg
  have le := hat.ln.le
  have smv := sw.versions.2 v0 (List.mem_of_getElem? hat.at_)
  have hp : PathV w.versions m.version.toNat v0 m.cluster.toNat g0 m.end_.toNat e0 := ⟨⟨⟨smv.2 g0 (List.mem_of_getElem? hat.atg), hat.ate, hne⟩, smv, hat.atg⟩, sw.versions, hat.at_⟩
  have ownV : ∀ i, ∀ r ∈ (w.versions.map encV).set m.version.toNat ((encS v0.snap ++ [C.sl (i) [] 2 0 v0.groups.length false, Bo v0.freed])), ∀ c ∈ r, noOwn c = true := fun i => set_all (enc := encV) (fun _ => rfl) rfl _ _
  have ownG : ∀ i t, ∀ r ∈ (v0.groups.map encG).set m.cluster.toNat ([U (t), C.sl (i) [] 3 0 g0.ends.length false]), ∀ c ∈ r, noOwn c = true := fun i t => set_all (enc := encG) (fun _ => rfl) rfl _ _
  have ownE : ∀ i a b, ∀ r ∈ (g0.ends.map encE).set m.end_.toNat ([U (a), C.sl (i) [] 1 0 e0.next.length false, I (b)]), ∀ c ∈ r, noOwn c = true := fun i a b => set_all (enc := encE) (fun _ => rfl) rfl _ _
  have gv : ((w.versions.map encV).set m.version.toNat ((encS v0.snap ++ [C.sl (6) [] 2 0 v0.groups.length false, Bo v0.freed])))[m.version.toNat]? = some ((encS v0.snap ++ [C.sl (6) [] 2 0 v0.groups.length false, Bo v0.freed])) := List.getElem?_set_self (by simpa using lv)
  have gg : ((v0.groups.map encG).set m.cluster.toNat ([U (tk), C.sl (7) [] 3 0 g0.ends.length false]))[m.cluster.toNat]? = some ([U (tk), C.sl (7) [] 3 0 g0.ends.length false]) := List.getElem?_set_self (by simpa using lg)
  have ge : ((g0.ends.map encE).set m.end_.toNat ([U (hd), C.sl (8) [] 1 0 e0.next.length false, I (ac)]))[m.end_.toNat]? = some ([U (hd), C.sl (8) [] 1 0 e0.next.length false, I (ac)]) := List.getElem?_set_self (by simpa using le)
  have estE : (((g0.ends.map encE).set m.end_.toNat ([U (hd), C.sl (8) [] 1 0 e0.next.length false, I (ac)])).set m.end_.toNat [U hd, C.lst 0 1 (e0.next.map encI), I ac]) = (g0.ends.set m.end_.toNat (turnE e0 hd ac)).map encE := by rw [List.set_set]; exact map_setS encE _ _ (turnE e0 hd ac) _ rfl
  have estG : (((v0.groups.map encG).set m.cluster.toNat ([U (tk), C.sl (7) [] 3 0 g0.ends.length false])).set m.cluster.toNat [U tk, C.lst 0 3 (((g0.ends.set m.end_.toNat (turnE e0 hd ac)).map encE))]) = (v0.groups.set m.cluster.toNat (turnG m g0 e0 tk hd ac)).map encG := by rw [List.set_set]; exact map_setS encG _ _ (turnG m g0 e0 tk hd ac) _ rfl
  have estV : (((w.versions.map encV).set m.version.toNat ((encS v0.snap ++ [C.sl (6) [] 2 0 v0.groups.length false, Bo v0.freed]))).set m.version.toNat (encS v0.snap ++ [C.lst 0 2 (((v0.groups.set m.cluster.toNat (turnG m g0 e0 tk hd ac)).map encG)), Bo v0.freed])) = (w.versions.set m.version.toNat (turnV1 m v0 g0 e0 tk hd ac)).map encV := by rw [List.set_set]; exact map_setS encV _ _ (turnV1 m v0 g0 e0 tk hd ac) _ rfl
  have eshE : ∀ r ∈ (((g0.ends.map encE).set m.end_.toNat ([U (hd), C.sl (8) [] 1 0 e0.next.length false, I (ac)])).set m.end_.toNat [U hd, C.lst 0 1 (e0.next.map encI), I ac]), ∀ c ∈ r, shutC c = true ∧ noOwn c = true := by
    rw [estE]
    exact shut_map (enc := encE) (fun _ => rfl) _
  have eshG : ∀ r ∈ (((v0.groups.map encG).set m.cluster.toNat ([U (tk), C.sl (7) [] 3 0 g0.ends.length false])).set m.cluster.toNat [U tk, C.lst 0 3 (((g0.ends.map encE).set m.end_.toNat ([U (hd), C.sl (8) [] 1 0 e0.next.length false, I (ac)])).set m.end_.toNat [U hd, C.lst 0 1 (e0.next.map encI), I ac])]), ∀ c ∈ r, shutC c = true ∧ noOwn c = true := by
    rw [estE, estG]
    exact shut_map (enc := encG) (fun _ => rfl) _
  have eshV : ∀ r ∈ (((w.versions.map encV).set m.version.toNat ((encS v0.snap ++ [C.sl (6) [] 2 0 v0.groups.length false, Bo v0.freed]))).set m.version.toNat (encS v0.snap ++ [C.lst 0 2 (((v0.groups.map encG).set m.cluster.toNat ([U (tk), C.sl (7) [] 3 0 g0.ends.length false])).set m.cluster.toNat [U tk, C.lst 0 3 (((g0.ends.map encE).set m.end_.toNat ([U (hd), C.sl (8) [] 1 0 e0.next.length false, I (ac)])).set m.end_.toNat [U hd, C.lst 0 1 (e0.next.map encI), I ac])]), Bo v0.freed])), ∀ c ∈ r, shutC c = true ∧ noOwn c = true := by
    rw [estE, estG, estV]
    exact shut_map (enc := encV) (fun _ => rfl) _
  have a0 := hat.v0
  have b0 := hat.g0
  have c0 := hat.e0
  have e1 : 0 + m.version.toNat = m.version.toNat := Nat.zero_add _
  have e2 : 0 + m.cluster.toNat = m.cluster.toNat := Nat.zero_add _
  have e3 : 0 + m.end_.toNat = m.end_.toNat := Nat.zero_add _
  have gg0 : ((v0.groups.map encG).set m.cluster.toNat ([U (g0.ticket), C.sl (7) [] 3 0 g0.ends.length false]))[m.cluster.toNat]? = some ([U (g0.ticket), C.sl (7) [] 3 0 g0.ends.length false]) := List.getElem?_set_self (by simpa using lg)
  have ge0 : ((g0.ends.map encE).set m.end_.toNat ([U (e0.head), C.sl (8) [] 1 0 e0.next.length false, I (e0.active)]))[m.end_.toNat]? = some ([U (e0.head), C.sl (8) [] 1 0 e0.next.length false, I (e0.active)]) := List.getElem?_set_self (by simpa using le)
  refine SoundAt.of_wpA1 (fn := Tryz.f63) Tryz.func63 rfl ?_
  conv => whnf
  (repeat (first | (refine ⟨fun _ => ?_, ?_⟩; rotate_left 1; (focus (intro h; first | (simp [hpc] at h; done) | (have h := of_decide_eq_true h; omega) | (have h := of_decide_eq_false h; omega))); ((conv=>whnf);(try(refine ⟨(rfl:(_:Heap)=_),?_⟩;(conv=>whnf))))) | (refine ⟨?_, fun _ => ?_⟩; (focus (intro h; first | (simp [hpc] at h; done) | (have h := of_decide_eq_true h; omega) | (have h := of_decide_eq_false h; omega))); ((conv=>whnf);(try(refine ⟨(rfl:(_:Heap)=_),?_⟩;(conv=>whnf)))))))
  refine ⟨_, _, (suits_sound w m ok hl).frame rfl _, ?_⟩; (conv=>whnf);(try(refine ⟨(rfl:(_:Heap)=_),?_⟩;(conv=>whnf)))
  refine ⟨fun _ => ?_, fun h => absurd ((hs).symm.trans h : true = false) (by decide)⟩; (conv=>whnf);(try(refine ⟨(rfl:(_:Heap)=_),?_⟩;(conv=>whnf)))
  (repeat (first | (refine ⟨fun _ => ?_, ?_⟩; rotate_left 1; (focus (intro h; first | (simp [hpc] at h; done) | (have h := of_decide_eq_true h; omega) | (have h := of_decide_eq_false h; omega))); ((conv=>whnf);(try(refine ⟨(rfl:(_:Heap)=_),?_⟩;(conv=>whnf))))) | (refine ⟨?_, fun _ => ?_⟩; (focus (intro h; first | (simp [hpc] at h; done) | (have h := of_decide_eq_true h; omega) | (have h := of_decide_eq_false h; omega))); ((conv=>whnf);(try(refine ⟨(rfl:(_:Heap)=_),?_⟩;(conv=>whnf)))))))
  (repeat (first | (refine ⟨fun _ => ?_, fun h => absurd h (by decide)⟩; (conv=>whnf);(try(refine ⟨(rfl:(_:Heap)=_),?_⟩;(conv=>whnf)))) | (refine ⟨fun h => absurd h (by decide), fun _ => ?_⟩; (conv=>whnf);(try(refine ⟨(rfl:(_:Heap)=_),?_⟩;(conv=>whnf))))))
  refine callPartX [] [⟨1, 48, 8, [encW w], 0⟩, ⟨1, 37, 44, [encM m], 0⟩, ⟨1, 48, 8, [zeW], 0⟩, ⟨1, 37, 44, [zeM], 0⟩, ⟨1, 87, 23, [encEv noEve], 0⟩, ⟨1, 0, 5, (w.versions.map encV).set m.version.toNat ((encS v0.snap ++ [C.sl (6) [] 2 0 v0.groups.length false, Bo v0.freed])), 0⟩, ⟨1, 0, 2, (v0.groups.map encG).set m.cluster.toNat ([U (g0.ticket), C.sl (7) [] 3 0 g0.ends.length false]), 0⟩, ⟨1, 0, 3, (g0.ends.map encE).set m.end_.toNat ([U (e0.head), C.sl (8) [] 1 0 e0.next.length false, I (e0.active)]), 0⟩, ⟨2, 3, 1, e0.next.map encI, 0⟩] (rx := .agg [I w.epoch, I w.current, I w.lock, lI w.pins, .sl 5 [] 5 0 w.versions.length false, lL w.listens, lCo w.counts, lR w.limbo]) (cloneE_sound w sw w.versions rfl hp) (flat_cons (flat_kept (ownV 1)) (flat_cons (flat_kept (ownG 2 _)) (flat_cons (flat_kept (ownE 3 _ _)) rfl))) rfl rfl rfl rfl rfl (by show _ :: _ :: _ :: _ :: _ :: mapOb _ ⟨1, 0, 5, _, 0⟩ :: mapOb _ ⟨1, 0, 2, _, 0⟩ :: mapOb _ ⟨1, 0, 3, _, 0⟩ :: _ = _; rw [map_kept (enc := encV) (fun _ => rfl), map_kept (enc := encG) (fun _ => rfl), map_kept (enc := encE) (fun _ => rfl)]; rfl) rfl ?_
  (conv=>whnf);(try(refine ⟨(rfl:(_:Heap)=_),?_⟩;(conv=>whnf)))
  refine .inl ⟨⟨false, [], [], []⟩, by kernel_rfl, ?_⟩; (conv => whnf)
  refine ⟨a0, lv, ?_⟩
  (conv=>whnf);(try(refine ⟨(rfl:(_:Heap)=_),?_⟩;(conv=>whnf)))
  rw [e1]
  refine ⟨_, gv, (by show 3 + 1 ≤ 5; decide), ?_⟩
  (conv=>whnf);(try(refine ⟨(rfl:(_:Heap)=_),?_⟩;(conv=>whnf)))
  refine ⟨b0, lg, ?_⟩
  (conv=>whnf);(try(refine ⟨(rfl:(_:Heap)=_),?_⟩;(conv=>whnf)))
  rw [e2]
  refine ⟨_, gg0, (by show 1 + 1 ≤ 2; decide), ?_⟩
  (conv=>whnf);(try(refine ⟨(rfl:(_:Heap)=_),?_⟩;(conv=>whnf)))
  refine ⟨c0, le, ?_⟩
  (conv=>whnf);(try(refine ⟨(rfl:(_:Heap)=_),?_⟩;(conv=>whnf)))
  rw [e3]
  refine ⟨_, _, (Slp.index_sound m.word hw).frame rfl _, ?_⟩; (conv=>whnf);(try(refine ⟨(rfl:(_:Heap)=_),?_⟩;(conv=>whnf)))
  refine .inr ⟨⟨[0, 1, 5, 6, 7], [0, 1, 7], true⟩, by kernel_rfl, fun _ => (flat_cons rfl (flat_cons rfl (flat_cons rfl (flat_cons rfl (flat_cons rfl (flat_cons (flat_kept (ownV 6)) (flat_cons (flat_kept (ownG 7 _)) (flat_cons (flat_kept (ownE 8 _ _)) rfl)))))))), _, ?_, fun t2 H2 h => h⟩
  conv => whnf
  refine ⟨_, ge0, (by show 0 + 1 ≤ 3; decide), ?_⟩
  conv => whnf
  refine ⟨_, SoundAt.blind [] (Slp.index_sound e0.head hh) rfl rfl rfl rfl rfl rfl rfl (fun _ => rfl) (fun _ => rfl), ?_⟩; (conv => whnf)
  refine ⟨_, SoundAt.blind [] (ownF_sound w m v0 hat.toAtV 1 8 (e0.head % 4294967296 - 1)) rfl rfl rfl rfl rfl rfl rfl (fun _ => rfl) (fun _ => rfl), ?_⟩; (conv => whnf)
  (refine ⟨?_, trivial⟩); (conv => whnf); (refine ⟨(flat_cons rfl (flat_cons rfl (flat_cons rfl (flat_cons rfl (flat_cons rfl (flat_cons (flat_kept (ownV 6)) (flat_cons (flat_kept (ownG 7 _)) (flat_cons (flat_kept (ownE 8 _ _)) rfl)))))))), ?_⟩); (conv => whnf); (repeat (refine ⟨rfl, ?_⟩; (conv => whnf)))
  (refine ⟨?_, trivial⟩); (conv => whnf); (refine ⟨(flat_cons rfl (flat_cons rfl (flat_cons rfl (flat_cons rfl (flat_cons rfl (flat_cons (flat_kept (ownV 6)) (flat_cons (flat_kept (ownG 7 _)) (flat_cons (flat_kept (ownE 8 _ _)) rfl)))))))), ?_⟩); (conv => whnf); (repeat (refine ⟨rfl, ?_⟩; (conv => whnf)))
  (refine ⟨_, _, .refl _, ?_⟩); (conv => whnf)
  (repeat (first | (refine ⟨fun _ => ?_, ?_⟩; rotate_left 1; (focus (intro h; first | (simp [hpc] at h; done) | (have h := of_decide_eq_true h; omega) | (have h := of_decide_eq_false h; omega))); ((conv=>whnf);(try(refine ⟨(rfl:(_:Heap)=_),?_⟩;(conv=>whnf))))) | (refine ⟨?_, fun _ => ?_⟩; (focus (intro h; first | (simp [hpc] at h; done) | (have h := of_decide_eq_true h; omega) | (have h := of_decide_eq_false h; omega))); ((conv=>whnf);(try(refine ⟨(rfl:(_:Heap)=_),?_⟩;(conv=>whnf)))))))
  refine ⟨_, ge0, (by show 2 + 1 ≤ 3; decide), ?_⟩
  (conv=>whnf);(try(refine ⟨(rfl:(_:Heap)=_),?_⟩;(conv=>whnf)))
  refine ⟨_, ge0, rfl, ?_⟩
  (conv=>whnf);(try(refine ⟨(rfl:(_:Heap)=_),?_⟩;(conv=>whnf)))
  rw [List.set_set]
  subst htk hhd hac
  refine .inl ⟨⟨false, [3], [7], []⟩, by kernel_rfl, ?_⟩; (conv => whnf)
  refine ⟨_, ge, (by show 2 + 1 ≤ 3; decide), ?_⟩
  (conv=>whnf);(try(refine ⟨(rfl:(_:Heap)=_),?_⟩;(conv=>whnf)))
  (repeat (refine ⟨rfl, ?_⟩; ((conv=>whnf);(try(refine ⟨(rfl:(_:Heap)=_),?_⟩;(conv=>whnf))))))
  refine JumpK.go rfl ?_; conv => whnf
  rw [show IntKind.i64.wrap (m.pc + 1) = 4 from by rw [hpc]; rfl]
  refine .inl ⟨⟨false, [0, 1, 2], [9, 1, 10], []⟩, by kernel_rfl, ?_⟩; (conv => whnf)
  repeat (refine ⟨rfl, ?_⟩; ((conv=>whnf);(try(refine ⟨(rfl:(_:Heap)=_),?_⟩;(conv=>whnf)))))
  refine ⟨.inl rfl, _, (((Weak.freezeC 7 m.end_.toNat 1 rfl ge rfl rfl (.inr rfl) (by simp) (by simp) (shut_map (enc := encI) (fun _ => rfl) _) (ownE 8 _ _)).trans (Weak.freezeC 6 m.cluster.toNat 1 rfl gg rfl rfl (.inl rfl) (by simp) (by simp) eshE (ownG 7 _))).trans (Weak.freezeC 5 m.version.toNat 3 rfl gv rfl rfl (.inl rfl) (by simp) (by simp) eshG (ownV 6))).trans (Weak.freezeC 2 0 4 rfl rfl rfl rfl (.inl rfl) (by simp) (by simp) eshV (one_noOwn rfl)), ?_⟩
  show _ = some (C.tup [C.agg [I w.epoch, I w.current, I w.lock, lI w.pins, C.lst 0 5 ((w.versions.set m.version.toNat (turnV1 m v0 g0 e0 g0.ticket e0.head (IntKind.i64.wrap (e0.active - 1)))).map encV), lL w.listens, lCo w.counts, lR w.limbo], Cm { m with pc := 4 }, Ce (evV m v0 3 7 (IntKind.i64.wrap (e0.active - 1)))])
  rw [← estV, ← estG, ← estE]
  rfl
end Go.Wor
namespace Go.Wor
open Go.Ab Go.Proofs Go.Hy Go.Gat Go.Nam Go.Hos Go.Con Go.Sna
set_option linter.unusedVariables false
set_option linter.unusedSimpArgs false
set_option maxRecDepth 100000
set_option maxHeartbeats 4000000
theorem fin2_sound (w : Wor) (m : Mac) (v0 : Ver) (g0 : Gr) (e0 : En) (sw : SmWor w) (ok : OkW w) (hl : i64 m.listen) (hpc : m.pc = 2) (hs : suitsV w m = true) (hat : AtE w m v0 g0 e0) (hne : e0.next ≠ []) (hw : u64 m.word) (hh : u64 e0.head) (heq : e0.head = m.word) (s0 : -1 ≤ m.slot) (s1 : m.slot ≤ 2147483646) {tk hd ac : Int} (htk : tk = g0.ticket) (hhd : hd = Slp.nextT m.word m.slot) (hac : ac = e0.active) :
    SoundAt Tryz.prog 63 [] [Cw w, Cm m] (.tup [Cw (turnW w m v0 g0 e0 tk hd ac), Cm { m with pc := 3 }, Ce { evV m v0 4 8 m.slot with point := true }]) [] := by
  have lv := hat.ln.lv
  have lg := hat.ln.lg
  have le := hat.ln.le
  have smv := sw.versions.2 v0 (List.mem_of_getElem? hat.at_)
  have hp : PathV w.versions m.version.toNat v0 m.cluster.toNat g0 m.end_.toNat e0 := ⟨⟨⟨smv.2 g0 (List.mem_of_getElem? hat.atg), hat.ate, hne⟩, smv, hat.atg⟩, sw.versions, hat.at_⟩
  have ownV : ∀ i, ∀ r ∈ (w.versions.map encV).set m.version.toNat ((encS v0.snap ++ [C.sl (i) [] 2 0 v0.groups.length false, Bo v0.freed])), ∀ c ∈ r, noOwn c = true := fun i => set_all (enc := encV) (fun _ => rfl) rfl _ _
  have ownG : ∀ i t, ∀ r ∈ (v0.groups.map encG).set m.cluster.toNat ([U (t), C.sl (i) [] 3 0 g0.ends.length false]), ∀ c ∈ r, noOwn c = true := fun i t => set_all (enc := encG) (fun _ => rfl) rfl _ _
  have ownE : ∀ i a b, ∀ r ∈ (g0.ends.map encE).set m.end_.toNat ([U (a), C.sl (i) [] 1 0 e0.next.length false, I (b)]), ∀ c ∈ r, noOwn c = true := fun i a b => set_all (enc := encE) (fun _ => rfl) rfl _ _
  have gv : ((w.versions.map encV).set m.version.toNat ((encS v0.snap ++ [C.sl (6) [] 2 0 v0.groups.length false, Bo v0.freed])))[m.version.toNat]? = some ((encS v0.snap ++ [C.sl (6) [] 2 0 v0.groups.length false, Bo v0.freed])) := List.getElem?_set_self (by simpa using lv)
  have gg : ((v0.groups.map encG).set m.cluster.toNat ([U (tk), C.sl (7) [] 3 0 g0.ends.length false]))[m.cluster.toNat]? = some ([U (tk), C.sl (7) [] 3 0 g0.ends.length false]) := List.getElem?_set_self (by simpa using lg)
  have ge : ((g0.ends.map encE).set m.end_.toNat ([U (hd), C.sl (8) [] 1 0 e0.next.length false, I (ac)]))[m.end_.toNat]? = some ([U (hd), C.sl (8) [] 1 0 e0.next.length false, I (ac)]) := List.getElem?_set_self (by simpa using le)
  have estE : (((g0.ends.map encE).set m.end_.toNat ([U (hd), C.sl (8) [] 1 0 e0.next.length false, I (ac)])).set m.end_.toNat [U hd, C.lst 0 1 (e0.next.map encI), I ac]) = (g0.ends.set m.end_.toNat (turnE e0 hd ac)).map encE := by rw [List.set_set]; exact map_setS encE _ _ (turnE e0 hd ac) _ rfl
  have estG : (((v0.groups.map encG).set m.cluster.toNat ([U (tk), C.sl (7) [] 3 0 g0.ends.length false])).set m.cluster.toNat [U tk, C.lst 0 3 (((g0.ends.set m.end_.toNat (turnE e0 hd ac)).map encE))]) = (v0.groups.set m.cluster.toNat (turnG m g0 e0 tk hd ac)).map encG := by rw [List.set_set]; exact map_setS encG _ _ (turnG m g0 e0 tk hd ac) _ rfl
  have estV : (((w.versions.map encV).set m.version.toNat ((encS v0.snap ++ [C.sl (6) [] 2 0 v0.groups.length false, Bo v0.freed]))).set m.version.toNat (encS v0.snap ++ [C.lst 0 2 (((v0.groups.set m.cluster.toNat (turnG m g0 e0 tk hd ac)).map encG)), Bo v0.freed])) = (w.versions.set m.version.toNat (turnV1 m v0 g0 e0 tk hd ac)).map encV := by rw [List.set_set]; exact map_setS encV _ _ (turnV1 m v0 g0 e0 tk hd ac) _ rfl
  have eshE : ∀ r ∈ (((g0.ends.map encE).set m.end_.toNat ([U (hd), C.sl (8) [] 1 0 e0.next.length false, I (ac)])).set m.end_.toNat [U hd, C.lst 0 1 (e0.next.map encI), I ac]), ∀ c ∈ r, shutC c = true ∧ noOwn c = true := by
    rw [estE]
    exact shut_map (enc := encE) (fun _ => rfl) _
  have eshG : ∀ r ∈ (((v0.groups.map encG).set m.cluster.toNat ([U (tk), C.sl (7) [] 3 0 g0.ends.length false])).set m.cluster.toNat [U tk, C.lst 0 3 (((g0.ends.map encE).set m.end_.toNat ([U (hd), C.sl (8) [] 1 0 e0.next.length false, I (ac)])).set m.end_.toNat [U hd, C.lst 0 1 (e0.next.map encI), I ac])]), ∀ c ∈ r, shutC c = true ∧ noOwn c = true := by
    rw [estE, estG]
    exact shut_map (enc := encG) (fun _ => rfl) _
  have eshV : ∀ r ∈ (((w.versions.map encV).set m.version.toNat ((encS v0.snap ++ [C.sl (6) [] 2 0 v0.groups.length false, Bo v0.freed]))).set m.version.toNat (encS v0.snap ++ [C.lst 0 2 (((v0.groups.map encG).set m.cluster.toNat ([U (tk), C.sl (7) [] 3 0 g0.ends.length false])).set m.cluster.toNat [U tk, C.lst 0 3 (((g0.ends.map encE).set m.end_.toNat ([U (hd), C.sl (8) [] 1 0 e0.next.length false, I (ac)])).set m.end_.toNat [U hd, C.lst 0 1 (e0.next.map encI), I ac])]), Bo v0.freed])), ∀ c ∈ r, shutC c = true ∧ noOwn c = true := by
    rw [estE, estG, estV]
    exact shut_map (enc := encV) (fun _ => rfl) _
  have a0 := hat.v0
  have b0 := hat.g0
  have c0 := hat.e0
  have e1 : 0 + m.version.toNat = m.version.toNat := Nat.zero_add _
  have e2 : 0 + m.cluster.toNat = m.cluster.toNat := Nat.zero_add _
  have e3 : 0 + m.end_.toNat = m.end_.toNat := Nat.zero_add _
  have gg0 : ((v0.groups.map encG).set m.cluster.toNat ([U (g0.ticket), C.sl (7) [] 3 0 g0.ends.length false]))[m.cluster.toNat]? = some ([U (g0.ticket), C.sl (7) [] 3 0 g0.ends.length false]) := List.getElem?_set_self (by simpa using lg)
  have ge0 : ((g0.ends.map encE).set m.end_.toNat ([U (e0.head), C.sl (8) [] 1 0 e0.next.length false, I (e0.active)]))[m.end_.toNat]? = some ([U (e0.head), C.sl (8) [] 1 0 e0.next.length false, I (e0.active)]) := List.getElem?_set_self (by simpa using le)
  refine SoundAt.of_wpA1 (fn := Tryz.f63) Tryz.func63 rfl ?_
  conv => whnf
  (repeat (first | (refine ⟨fun _ => ?_, ?_⟩; rotate_left 1; (focus (intro h; first | (simp [hpc] at h; done) | (have h := of_decide_eq_true h; omega) | (have h := of_decide_eq_false h; omega))); ((conv=>whnf);(try(refine ⟨(rfl:(_:Heap)=_),?_⟩;(conv=>whnf))))) | (refine ⟨?_, fun _ => ?_⟩; (focus (intro h; first | (simp [hpc] at h; done) | (have h := of_decide_eq_true h; omega) | (have h := of_decide_eq_false h; omega))); ((conv=>whnf);(try(refine ⟨(rfl:(_:Heap)=_),?_⟩;(conv=>whnf)))))))
  refine ⟨_, _, (suits_sound w m ok hl).frame rfl _, ?_⟩; (conv=>whnf);(try(refine ⟨(rfl:(_:Heap)=_),?_⟩;(conv=>whnf)))
  refine ⟨fun _ => ?_, fun h => absurd ((hs).symm.trans h : true = false) (by decide)⟩; (conv=>whnf);(try(refine ⟨(rfl:(_:Heap)=_),?_⟩;(conv=>whnf)))
  (repeat (first | (refine ⟨fun _ => ?_, ?_⟩; rotate_left 1; (focus (intro h; first | (simp [hpc] at h; done) | (have h := of_decide_eq_true h; omega) | (have h := of_decide_eq_false h; omega))); ((conv=>whnf);(try(refine ⟨(rfl:(_:Heap)=_),?_⟩;(conv=>whnf))))) | (refine ⟨?_, fun _ => ?_⟩; (focus (intro h; first | (simp [hpc] at h; done) | (have h := of_decide_eq_true h; omega) | (have h := of_decide_eq_false h; omega))); ((conv=>whnf);(try(refine ⟨(rfl:(_:Heap)=_),?_⟩;(conv=>whnf)))))))
  (repeat (first | (refine ⟨fun _ => ?_, fun h => absurd h (by decide)⟩; (conv=>whnf);(try(refine ⟨(rfl:(_:Heap)=_),?_⟩;(conv=>whnf)))) | (refine ⟨fun h => absurd h (by decide), fun _ => ?_⟩; (conv=>whnf);(try(refine ⟨(rfl:(_:Heap)=_),?_⟩;(conv=>whnf))))))
  refine callPartX [] [⟨1, 48, 8, [encW w], 0⟩, ⟨1, 37, 44, [encM m], 0⟩, ⟨1, 48, 8, [zeW], 0⟩, ⟨1, 37, 44, [zeM], 0⟩, ⟨1, 87, 23, [encEv noEve], 0⟩, ⟨1, 0, 5, (w.versions.map encV).set m.version.toNat ((encS v0.snap ++ [C.sl (6) [] 2 0 v0.groups.length false, Bo v0.freed])), 0⟩, ⟨1, 0, 2, (v0.groups.map encG).set m.cluster.toNat ([U (g0.ticket), C.sl (7) [] 3 0 g0.ends.length false]), 0⟩, ⟨1, 0, 3, (g0.ends.map encE).set m.end_.toNat ([U (e0.head), C.sl (8) [] 1 0 e0.next.length false, I (e0.active)]), 0⟩, ⟨2, 3, 1, e0.next.map encI, 0⟩] (rx := .agg [I w.epoch, I w.current, I w.lock, lI w.pins, .sl 5 [] 5 0 w.versions.length false, lL w.listens, lCo w.counts, lR w.limbo]) (cloneE_sound w sw w.versions rfl hp) (flat_cons (flat_kept (ownV 1)) (flat_cons (flat_kept (ownG 2 _)) (flat_cons (flat_kept (ownE 3 _ _)) rfl))) rfl rfl rfl rfl rfl (by show _ :: _ :: _ :: _ :: _ :: mapOb _ ⟨1, 0, 5, _, 0⟩ :: mapOb _ ⟨1, 0, 2, _, 0⟩ :: mapOb _ ⟨1, 0, 3, _, 0⟩ :: _ = _; rw [map_kept (enc := encV) (fun _ => rfl), map_kept (enc := encG) (fun _ => rfl), map_kept (enc := encE) (fun _ => rfl)]; rfl) rfl ?_
  (conv=>whnf);(try(refine ⟨(rfl:(_:Heap)=_),?_⟩;(conv=>whnf)))
  refine .inl ⟨⟨false, [], [], []⟩, by kernel_rfl, ?_⟩; (conv => whnf)
  refine ⟨a0, lv, ?_⟩
  (conv=>whnf);(try(refine ⟨(rfl:(_:Heap)=_),?_⟩;(conv=>whnf)))
  rw [e1]
  refine ⟨_, gv, (by show 3 + 1 ≤ 5; decide), ?_⟩
  (conv=>whnf);(try(refine ⟨(rfl:(_:Heap)=_),?_⟩;(conv=>whnf)))
  refine ⟨b0, lg, ?_⟩
  (conv=>whnf);(try(refine ⟨(rfl:(_:Heap)=_),?_⟩;(conv=>whnf)))
  rw [e2]
  refine ⟨_, gg0, (by show 1 + 1 ≤ 2; decide), ?_⟩
  (conv=>whnf);(try(refine ⟨(rfl:(_:Heap)=_),?_⟩;(conv=>whnf)))
  refine ⟨c0, le, ?_⟩
  (conv=>whnf);(try(refine ⟨(rfl:(_:Heap)=_),?_⟩;(conv=>whnf)))
  rw [e3]
  refine ⟨_, _, (Slp.index_sound m.word hw).frame rfl _, ?_⟩; (conv=>whnf);(try(refine ⟨(rfl:(_:Heap)=_),?_⟩;(conv=>whnf)))
  refine .inr ⟨⟨[0, 1, 5, 6, 7], [0, 1, 7], true⟩, by kernel_rfl, fun _ => (flat_cons rfl (flat_cons rfl (flat_cons rfl (flat_cons rfl (flat_cons rfl (flat_cons (flat_kept (ownV 6)) (flat_cons (flat_kept (ownG 7 _)) (flat_cons (flat_kept (ownE 8 _ _)) rfl)))))))), _, ?_, fun t2 H2 h => h⟩
  conv => whnf
  refine ⟨_, ge0, (by show 0 + 1 ≤ 3; decide), ?_⟩
  conv => whnf
  refine ⟨_, SoundAt.blind [] (Slp.index_sound e0.head hh) rfl rfl rfl rfl rfl rfl rfl (fun _ => rfl) (fun _ => rfl), ?_⟩; (conv => whnf)
  refine ⟨_, SoundAt.blind [] (ownF_sound w m v0 hat.toAtV 1 8 (e0.head % 4294967296 - 1)) rfl rfl rfl rfl rfl rfl rfl (fun _ => rfl) (fun _ => rfl), ?_⟩; (conv => whnf)
  (refine ⟨?_, trivial⟩); (conv => whnf); (refine ⟨(flat_cons rfl (flat_cons rfl (flat_cons rfl (flat_cons rfl (flat_cons rfl (flat_cons (flat_kept (ownV 6)) (flat_cons (flat_kept (ownG 7 _)) (flat_cons (flat_kept (ownE 8 _ _)) rfl)))))))), ?_⟩); (conv => whnf); (repeat (refine ⟨rfl, ?_⟩; (conv => whnf)))
  (refine ⟨?_, trivial⟩); (conv => whnf); (refine ⟨(flat_cons rfl (flat_cons rfl (flat_cons rfl (flat_cons rfl (flat_cons rfl (flat_cons (flat_kept (ownV 6)) (flat_cons (flat_kept (ownG 7 _)) (flat_cons (flat_kept (ownE 8 _ _)) rfl)))))))), ?_⟩); (conv => whnf); (repeat (refine ⟨rfl, ?_⟩; (conv => whnf)))
  (refine ⟨_, _, .refl _, ?_⟩); (conv => whnf)
  (repeat (first | (refine ⟨fun _ => ?_, ?_⟩; rotate_left 1; (focus (intro h; first | (simp [hpc] at h; done) | (have h := of_decide_eq_true h; omega) | (have h := of_decide_eq_false h; omega))); ((conv=>whnf);(try(refine ⟨(rfl:(_:Heap)=_),?_⟩;(conv=>whnf))))) | (refine ⟨?_, fun _ => ?_⟩; (focus (intro h; first | (simp [hpc] at h; done) | (have h := of_decide_eq_true h; omega) | (have h := of_decide_eq_false h; omega))); ((conv=>whnf);(try(refine ⟨(rfl:(_:Heap)=_),?_⟩;(conv=>whnf)))))))
  refine .inl ⟨⟨false, [], [], []⟩, by kernel_rfl, ?_⟩; (conv => whnf)
  refine ⟨_, ge0, (by show 0 + 1 ≤ 3; decide), ?_⟩
  (conv=>whnf);(try(refine ⟨(rfl:(_:Heap)=_),?_⟩;(conv=>whnf)))
  refine ⟨fun h => absurd h (by simp [heq]), fun _ => ?_⟩
  (conv=>whnf);(try(refine ⟨(rfl:(_:Heap)=_),?_⟩;(conv=>whnf)))
  refine ⟨_, _, (Slp.next_sound m.word m.slot hw s0 s1).frame rfl _, ?_⟩; (conv=>whnf);(try(refine ⟨(rfl:(_:Heap)=_),?_⟩;(conv=>whnf)))
  refine ⟨_, ge0, rfl, ?_⟩
  (conv=>whnf);(try(refine ⟨(rfl:(_:Heap)=_),?_⟩;(conv=>whnf)))
  rw [List.set_set]
  subst htk hhd hac
  refine .inl ⟨⟨false, [1], [1], []⟩, by kernel_rfl, ?_⟩; (conv => whnf)
  (repeat (refine ⟨rfl, ?_⟩; ((conv=>whnf);(try(refine ⟨(rfl:(_:Heap)=_),?_⟩;(conv=>whnf))))))
  refine JumpK.go rfl ?_; conv => whnf
  rw [show IntKind.i64.wrap (m.pc + 1) = 3 from by rw [hpc]; rfl]
  refine .inl ⟨⟨false, [0, 1, 2], [9, 1, 10], []⟩, by kernel_rfl, ?_⟩; (conv => whnf)
  repeat (refine ⟨rfl, ?_⟩; ((conv=>whnf);(try(refine ⟨(rfl:(_:Heap)=_),?_⟩;(conv=>whnf)))))
  refine ⟨.inl rfl, _, (((Weak.freezeC 7 m.end_.toNat 1 rfl ge rfl rfl (.inr rfl) (by simp) (by simp) (shut_map (enc := encI) (fun _ => rfl) _) (ownE 8 _ _)).trans (Weak.freezeC 6 m.cluster.toNat 1 rfl gg rfl rfl (.inl rfl) (by simp) (by simp) eshE (ownG 7 _))).trans (Weak.freezeC 5 m.version.toNat 3 rfl gv rfl rfl (.inl rfl) (by simp) (by simp) eshG (ownV 6))).trans (Weak.freezeC 2 0 4 rfl rfl rfl rfl (.inl rfl) (by simp) (by simp) eshV (one_noOwn rfl)), ?_⟩
  show _ = some (C.tup [C.agg [I w.epoch, I w.current, I w.lock, lI w.pins, C.lst 0 5 ((w.versions.set m.version.toNat (turnV1 m v0 g0 e0 g0.ticket (Slp.nextT m.word m.slot) e0.active)).map encV), lL w.listens, lCo w.counts, lR w.limbo], Cm { m with pc := 3 }, Ce { evV m v0 4 8 m.slot with point := true }])
  rw [← estV, ← estG, ← estE]
  rfl
end Go.Wor
namespace Go.Wor
open Go.Ab Go.Proofs Go.Hy Go.Gat Go.Nam Go.Hos Go.Con Go.Sna
set_option linter.unusedVariables false
set_option linter.unusedSimpArgs false
set_option maxRecDepth 100000
set_option maxHeartbeats 4000000
abbrev linkE (m : Mac) (e0 : En) : En := { e0 with next := (e0.next.set m.slot.toNat (m.word % 4294967296 - 1)) }
theorem fin1_sound (w : Wor) (m : Mac) (v0 : Ver) (g0 : Gr) (e0 : En) (sw : SmWor w) (ok : OkW w) (hl : i64 m.listen) (hpc : m.pc = 1) (hs : suitsV w m = true) (hat : AtE w m v0 g0 e0) (hne : e0.next ≠ []) (hw : u64 m.word) (hh : u64 e0.head) (s0 : 0 ≤ m.slot) (s1 : m.slot.toNat < e0.next.length) {tk hd ac : Int} (htk : tk = g0.ticket) (hhd : hd = e0.head) (hac : ac = e0.active) :
    SoundAt Tryz.prog 63 [] [Cw w, Cm m] (.tup [Cw (turnW w m v0 g0 (linkE m e0) tk hd ac), Cm { m with pc := 2 }, Ce (evV m v0 2 9 (m.word % 4294967296 - 1))]) [] := by
  have estE1 : (((g0.ends.map encE).set m.end_.toNat ([U (e0.head), C.sl (8) [] 1 0 e0.next.length false, I (e0.active)])).set m.end_.toNat [U e0.head, C.lst 0 1 ((e0.next.set m.slot.toNat (m.word % 4294967296 - 1)).map encI), I e0.active]) = (g0.ends.set m.end_.toNat (turnE (linkE m e0) e0.head e0.active)).map encE := by rw [List.set_set]; exact map_setS encE _ _ (turnE (linkE m e0) e0.head e0.active) _ rfl
  have estG1 : (((v0.groups.map encG).set m.cluster.toNat ([U (g0.ticket), C.sl (7) [] 3 0 g0.ends.length false])).set m.cluster.toNat [U g0.ticket, C.lst 0 3 (((g0.ends.set m.end_.toNat (turnE (linkE m e0) e0.head e0.active)).map encE))]) = (v0.groups.set m.cluster.toNat (turnG m g0 (linkE m e0) g0.ticket e0.head e0.active)).map encG := by rw [List.set_set]; exact map_setS encG _ _ (turnG m g0 (linkE m e0) g0.ticket e0.head e0.active) _ rfl
  have estV1 : (((w.versions.map encV).set m.version.toNat ((encS v0.snap ++ [C.sl (6) [] 2 0 v0.groups.length false, Bo v0.freed]))).set m.version.toNat (encS v0.snap ++ [C.lst 0 2 (((v0.groups.set m.cluster.toNat (turnG m g0 (linkE m e0) g0.ticket e0.head e0.active)).map encG)), Bo v0.freed])) = (w.versions.set m.version.toNat (turnV1 m v0 g0 (linkE m e0) g0.ticket e0.head e0.active)).map encV := by rw [List.set_set]; exact map_setS encV _ _ (turnV1 m v0 g0 (linkE m e0) g0.ticket e0.head e0.active) _ rfl
  have eshE1 : ∀ r ∈ (((g0.ends.map encE).set m.end_.toNat ([U (e0.head), C.sl (8) [] 1 0 e0.next.length false, I (e0.active)])).set m.end_.toNat [U e0.head, C.lst 0 1 ((e0.next.set m.slot.toNat (m.word % 4294967296 - 1)).map encI), I e0.active]), ∀ c ∈ r, shutC c = true ∧ noOwn c = true := by
    rw [estE1]
    exact shut_map (enc := encE) (fun _ => rfl) _
  have eshG1 : ∀ r ∈ (((v0.groups.map encG).set m.cluster.toNat ([U (g0.ticket), C.sl (7) [] 3 0 g0.ends.length false])).set m.cluster.toNat [U g0.ticket, C.lst 0 3 (((g0.ends.map encE).set m.end_.toNat ([U (e0.head), C.sl (8) [] 1 0 e0.next.length false, I (e0.active)])).set m.end_.toNat [U e0.head, C.lst 0 1 ((e0.next.set m.slot.toNat (m.word % 4294967296 - 1)).map encI), I e0.active])]), ∀ c ∈ r, shutC c = true ∧ noOwn c = true := by
    rw [estE1, estG1]
    exact shut_map (enc := encG) (fun _ => rfl) _
  have eshV1 : ∀ r ∈ (((w.versions.map encV).set m.version.toNat ((encS v0.snap ++ [C.sl (6) [] 2 0 v0.groups.length false, Bo v0.freed]))).set m.version.toNat (encS v0.snap ++ [C.lst 0 2 (((v0.groups.map encG).set m.cluster.toNat ([U (g0.ticket), C.sl (7) [] 3 0 g0.ends.length false])).set m.cluster.toNat [U g0.ticket, C.lst 0 3 (((g0.ends.map encE).set m.end_.toNat ([U (e0.head), C.sl (8) [] 1 0 e0.next.length false, I (e0.active)])).set m.end_.toNat [U e0.head, C.lst 0 1 ((e0.next.set m.slot.toNat (m.word % 4294967296 - 1)).map encI), I e0.active])]), Bo v0.freed])), ∀ c ∈ r, shutC c = true ∧ noOwn c = true := by
    rw [estE1, estG1, estV1]
    exact shut_map (enc := encV) (fun _ => rfl) _
  have gn : (e0.next.map Hy.encI)[m.slot.toNat]? = some (Hy.encI (e0.next[m.slot.toNat]'s1)) := by rw [List.getElem?_map, List.getElem?_eq_getElem s1]; rfl
  have hst : (e0.next.map Hy.encI).set m.slot.toNat [I (m.word % 4294967296 - 1)] = (e0.next.set m.slot.toNat (m.word % 4294967296 - 1)).map Hy.encI := by rw [List.map_set]; rfl
  have e4 : 0 + m.slot.toNat = m.slot.toNat := Nat.zero_add _
  have lv := hat.ln.lv
  have lg := hat.ln.lg
  have le := hat.ln.le
  have smv := sw.versions.2 v0 (List.mem_of_getElem? hat.at_)
  have hp : PathV w.versions m.version.toNat v0 m.cluster.toNat g0 m.end_.toNat e0 := ⟨⟨⟨smv.2 g0 (List.mem_of_getElem? hat.atg), hat.ate, hne⟩, smv, hat.atg⟩, sw.versions, hat.at_⟩
  have ownV : ∀ i, ∀ r ∈ (w.versions.map encV).set m.version.toNat ((encS v0.snap ++ [C.sl (i) [] 2 0 v0.groups.length false, Bo v0.freed])), ∀ c ∈ r, noOwn c = true := fun i => set_all (enc := encV) (fun _ => rfl) rfl _ _
  have ownG : ∀ i t, ∀ r ∈ (v0.groups.map encG).set m.cluster.toNat ([U (t), C.sl (i) [] 3 0 g0.ends.length false]), ∀ c ∈ r, noOwn c = true := fun i t => set_all (enc := encG) (fun _ => rfl) rfl _ _
  have ownE : ∀ i a b, ∀ r ∈ (g0.ends.map encE).set m.end_.toNat ([U (a), C.sl (i) [] 1 0 e0.next.length false, I (b)]), ∀ c ∈ r, noOwn c = true := fun i a b => set_all (enc := encE) (fun _ => rfl) rfl _ _
  have gv : ((w.versions.map encV).set m.version.toNat ((encS v0.snap ++ [C.sl (6) [] 2 0 v0.groups.length false, Bo v0.freed])))[m.version.toNat]? = some ((encS v0.snap ++ [C.sl (6) [] 2 0 v0.groups.length false, Bo v0.freed])) := List.getElem?_set_self (by simpa using lv)
  have gg : ((v0.groups.map encG).set m.cluster.toNat ([U (tk), C.sl (7) [] 3 0 g0.ends.length false]))[m.cluster.toNat]? = some ([U (tk), C.sl (7) [] 3 0 g0.ends.length false]) := List.getElem?_set_self (by simpa using lg)
  have ge : ((g0.ends.map encE).set m.end_.toNat ([U (hd), C.sl (8) [] 1 0 e0.next.length false, I (ac)]))[m.end_.toNat]? = some ([U (hd), C.sl (8) [] 1 0 e0.next.length false, I (ac)]) := List.getElem?_set_self (by simpa using le)
  have estE : (((g0.ends.map encE).set m.end_.toNat ([U (hd), C.sl (8) [] 1 0 e0.next.length false, I (ac)])).set m.end_.toNat [U hd, C.lst 0 1 (e0.next.map encI), I ac]) = (g0.ends.set m.end_.toNat (turnE e0 hd ac)).map encE := by rw [List.set_set]; exact map_setS encE _ _ (turnE e0 hd ac) _ rfl
  have estG : (((v0.groups.map encG).set m.cluster.toNat ([U (tk), C.sl (7) [] 3 0 g0.ends.length false])).set m.cluster.toNat [U tk, C.lst 0 3 (((g0.ends.set m.end_.toNat (turnE e0 hd ac)).map encE))]) = (v0.groups.set m.cluster.toNat (turnG m g0 e0 tk hd ac)).map encG := by rw [List.set_set]; exact map_setS encG _ _ (turnG m g0 e0 tk hd ac) _ rfl
  have estV : (((w.versions.map encV).set m.version.toNat ((encS v0.snap ++ [C.sl (6) [] 2 0 v0.groups.length false, Bo v0.freed]))).set m.version.toNat (encS v0.snap ++ [C.lst 0 2 (((v0.groups.set m.cluster.toNat (turnG m g0 e0 tk hd ac)).map encG)), Bo v0.freed])) = (w.versions.set m.version.toNat (turnV1 m v0 g0 e0 tk hd ac)).map encV := by rw [List.set_set]; exact map_setS encV _ _ (turnV1 m v0 g0 e0 tk hd ac) _ rfl
  have eshE : ∀ r ∈ (((g0.ends.map encE).set m.end_.toNat ([U (hd), C.sl (8) [] 1 0 e0.next.length false, I (ac)])).set m.end_.toNat [U hd, C.lst 0 1 (e0.next.map encI), I ac]), ∀ c ∈ r, shutC c = true ∧ noOwn c = true := by
    rw [estE]
    exact shut_map (enc := encE) (fun _ => rfl) _
  have eshG : ∀ r ∈ (((v0.groups.map encG).set m.cluster.toNat ([U (tk), C.sl (7) [] 3 0 g0.ends.length false])).set m.cluster.toNat [U tk, C.lst 0 3 (((g0.ends.map encE).set m.end_.toNat ([U (hd), C.sl (8) [] 1 0 e0.next.length false, I (ac)])).set m.end_.toNat [U hd, C.lst 0 1 (e0.next.map encI), I ac])]), ∀ c ∈ r, shutC c = true ∧ noOwn c = true := by
    rw [estE, estG]
    exact shut_map (enc := encG) (fun _ => rfl) _
  have eshV : ∀ r ∈ (((w.versions.map encV).set m.version.toNat ((encS v0.snap ++ [C.sl (6) [] 2 0 v0.groups.length false, Bo v0.freed]))).set m.version.toNat (encS v0.snap ++ [C.lst 0 2 (((v0.groups.map encG).set m.cluster.toNat ([U (tk), C.sl (7) [] 3 0 g0.ends.length false])).set m.cluster.toNat [U tk, C.lst 0 3 (((g0.ends.map encE).set m.end_.toNat ([U (hd), C.sl (8) [] 1 0 e0.next.length false, I (ac)])).set m.end_.toNat [U hd, C.lst 0 1 (e0.next.map encI), I ac])]), Bo v0.freed])), ∀ c ∈ r, shutC c = true ∧ noOwn c = true := by
    rw [estE, estG, estV]
    exact shut_map (enc := encV) (fun _ => rfl) _
  have a0 := hat.v0
  have b0 := hat.g0
  have c0 := hat.e0
  have e1 : 0 + m.version.toNat = m.version.toNat := Nat.zero_add _
  have e2 : 0 + m.cluster.toNat = m.cluster.toNat := Nat.zero_add _
  have e3 : 0 + m.end_.toNat = m.end_.toNat := Nat.zero_add _
  have gg0 : ((v0.groups.map encG).set m.cluster.toNat ([U (g0.ticket), C.sl (7) [] 3 0 g0.ends.length false]))[m.cluster.toNat]? = some ([U (g0.ticket), C.sl (7) [] 3 0 g0.ends.length false]) := List.getElem?_set_self (by simpa using lg)
  have ge0 : ((g0.ends.map encE).set m.end_.toNat ([U (e0.head), C.sl (8) [] 1 0 e0.next.length false, I (e0.active)]))[m.end_.toNat]? = some ([U (e0.head), C.sl (8) [] 1 0 e0.next.length false, I (e0.active)]) := List.getElem?_set_self (by simpa using le)
  refine SoundAt.of_wpA1 (fn := Tryz.f63) Tryz.func63 rfl ?_
  conv => whnf
  (repeat (first | (refine ⟨fun _ => ?_, ?_⟩; rotate_left 1; (focus (intro h; first | (simp [hpc] at h; done) | (have h := of_decide_eq_true h; omega) | (have h := of_decide_eq_false h; omega))); ((conv=>whnf);(try(refine ⟨(rfl:(_:Heap)=_),?_⟩;(conv=>whnf))))) | (refine ⟨?_, fun _ => ?_⟩; (focus (intro h; first | (simp [hpc] at h; done) | (have h := of_decide_eq_true h; omega) | (have h := of_decide_eq_false h; omega))); ((conv=>whnf);(try(refine ⟨(rfl:(_:Heap)=_),?_⟩;(conv=>whnf)))))))
  refine ⟨_, _, (suits_sound w m ok hl).frame rfl _, ?_⟩; (conv=>whnf);(try(refine ⟨(rfl:(_:Heap)=_),?_⟩;(conv=>whnf)))
  refine ⟨fun _ => ?_, fun h => absurd ((hs).symm.trans h : true = false) (by decide)⟩; (conv=>whnf);(try(refine ⟨(rfl:(_:Heap)=_),?_⟩;(conv=>whnf)))
  (repeat (first | (refine ⟨fun _ => ?_, ?_⟩; rotate_left 1; (focus (intro h; first | (simp [hpc] at h; done) | (have h := of_decide_eq_true h; omega) | (have h := of_decide_eq_false h; omega))); ((conv=>whnf);(try(refine ⟨(rfl:(_:Heap)=_),?_⟩;(conv=>whnf))))) | (refine ⟨?_, fun _ => ?_⟩; (focus (intro h; first | (simp [hpc] at h; done) | (have h := of_decide_eq_true h; omega) | (have h := of_decide_eq_false h; omega))); ((conv=>whnf);(try(refine ⟨(rfl:(_:Heap)=_),?_⟩;(conv=>whnf)))))))
  (repeat (first | (refine ⟨fun _ => ?_, fun h => absurd h (by decide)⟩; (conv=>whnf);(try(refine ⟨(rfl:(_:Heap)=_),?_⟩;(conv=>whnf)))) | (refine ⟨fun h => absurd h (by decide), fun _ => ?_⟩; (conv=>whnf);(try(refine ⟨(rfl:(_:Heap)=_),?_⟩;(conv=>whnf))))))
  refine callPartX [] [⟨1, 48, 8, [encW w], 0⟩, ⟨1, 37, 44, [encM m], 0⟩, ⟨1, 48, 8, [zeW], 0⟩, ⟨1, 37, 44, [zeM], 0⟩, ⟨1, 87, 23, [encEv noEve], 0⟩, ⟨1, 0, 5, (w.versions.map encV).set m.version.toNat ((encS v0.snap ++ [C.sl (6) [] 2 0 v0.groups.length false, Bo v0.freed])), 0⟩, ⟨1, 0, 2, (v0.groups.map encG).set m.cluster.toNat ([U (g0.ticket), C.sl (7) [] 3 0 g0.ends.length false]), 0⟩, ⟨1, 0, 3, (g0.ends.map encE).set m.end_.toNat ([U (e0.head), C.sl (8) [] 1 0 e0.next.length false, I (e0.active)]), 0⟩, ⟨2, 3, 1, e0.next.map encI, 0⟩] (rx := .agg [I w.epoch, I w.current, I w.lock, lI w.pins, .sl 5 [] 5 0 w.versions.length false, lL w.listens, lCo w.counts, lR w.limbo]) (cloneE_sound w sw w.versions rfl hp) (flat_cons (flat_kept (ownV 1)) (flat_cons (flat_kept (ownG 2 _)) (flat_cons (flat_kept (ownE 3 _ _)) rfl))) rfl rfl rfl rfl rfl (by show _ :: _ :: _ :: _ :: _ :: mapOb _ ⟨1, 0, 5, _, 0⟩ :: mapOb _ ⟨1, 0, 2, _, 0⟩ :: mapOb _ ⟨1, 0, 3, _, 0⟩ :: _ = _; rw [map_kept (enc := encV) (fun _ => rfl), map_kept (enc := encG) (fun _ => rfl), map_kept (enc := encE) (fun _ => rfl)]; rfl) rfl ?_
  (conv=>whnf);(try(refine ⟨(rfl:(_:Heap)=_),?_⟩;(conv=>whnf)))
  refine .inl ⟨⟨false, [], [], []⟩, by kernel_rfl, ?_⟩; (conv => whnf)
  refine ⟨a0, lv, ?_⟩
  (conv=>whnf);(try(refine ⟨(rfl:(_:Heap)=_),?_⟩;(conv=>whnf)))
  rw [e1]
  refine ⟨_, gv, (by show 3 + 1 ≤ 5; decide), ?_⟩
  (conv=>whnf);(try(refine ⟨(rfl:(_:Heap)=_),?_⟩;(conv=>whnf)))
  refine ⟨b0, lg, ?_⟩
  (conv=>whnf);(try(refine ⟨(rfl:(_:Heap)=_),?_⟩;(conv=>whnf)))
  rw [e2]
  refine ⟨_, gg0, (by show 1 + 1 ≤ 2; decide), ?_⟩
  (conv=>whnf);(try(refine ⟨(rfl:(_:Heap)=_),?_⟩;(conv=>whnf)))
  refine ⟨c0, le, ?_⟩
  (conv=>whnf);(try(refine ⟨(rfl:(_:Heap)=_),?_⟩;(conv=>whnf)))
  rw [e3]
  refine ⟨_, _, (Slp.index_sound m.word hw).frame rfl _, ?_⟩; (conv=>whnf);(try(refine ⟨(rfl:(_:Heap)=_),?_⟩;(conv=>whnf)))
  refine .inr ⟨⟨[0, 1, 5, 6, 7], [0, 1, 7], true⟩, by kernel_rfl, fun _ => (flat_cons rfl (flat_cons rfl (flat_cons rfl (flat_cons rfl (flat_cons rfl (flat_cons (flat_kept (ownV 6)) (flat_cons (flat_kept (ownG 7 _)) (flat_cons (flat_kept (ownE 8 _ _)) rfl)))))))), _, ?_, fun t2 H2 h => h⟩
  conv => whnf
  refine ⟨_, ge0, (by show 0 + 1 ≤ 3; decide), ?_⟩
  conv => whnf
  refine ⟨_, SoundAt.blind [] (Slp.index_sound e0.head hh) rfl rfl rfl rfl rfl rfl rfl (fun _ => rfl) (fun _ => rfl), ?_⟩; (conv => whnf)
  refine ⟨_, SoundAt.blind [] (ownF_sound w m v0 hat.toAtV 1 8 (e0.head % 4294967296 - 1)) rfl rfl rfl rfl rfl rfl rfl (fun _ => rfl) (fun _ => rfl), ?_⟩; (conv => whnf)
  (refine ⟨?_, trivial⟩); (conv => whnf); (refine ⟨(flat_cons rfl (flat_cons rfl (flat_cons rfl (flat_cons rfl (flat_cons rfl (flat_cons (flat_kept (ownV 6)) (flat_cons (flat_kept (ownG 7 _)) (flat_cons (flat_kept (ownE 8 _ _)) rfl)))))))), ?_⟩); (conv => whnf); (repeat (refine ⟨rfl, ?_⟩; (conv => whnf)))
  (refine ⟨?_, trivial⟩); (conv => whnf); (refine ⟨(flat_cons rfl (flat_cons rfl (flat_cons rfl (flat_cons rfl (flat_cons rfl (flat_cons (flat_kept (ownV 6)) (flat_cons (flat_kept (ownG 7 _)) (flat_cons (flat_kept (ownE 8 _ _)) rfl)))))))), ?_⟩); (conv => whnf); (repeat (refine ⟨rfl, ?_⟩; (conv => whnf)))
  (refine ⟨_, _, .refl _, ?_⟩); (conv => whnf)
  (repeat (first | (refine ⟨fun _ => ?_, ?_⟩; rotate_left 1; (focus (intro h; first | (simp [hpc] at h; done) | (have h := of_decide_eq_true h; omega) | (have h := of_decide_eq_false h; omega))); ((conv=>whnf);(try(refine ⟨(rfl:(_:Heap)=_),?_⟩;(conv=>whnf))))) | (refine ⟨?_, fun _ => ?_⟩; (focus (intro h; first | (simp [hpc] at h; done) | (have h := of_decide_eq_true h; omega) | (have h := of_decide_eq_false h; omega))); ((conv=>whnf);(try(refine ⟨(rfl:(_:Heap)=_),?_⟩;(conv=>whnf)))))))
  subst htk hhd hac
  refine .inl ⟨⟨false, [], [], []⟩, by kernel_rfl, ?_⟩; (conv => whnf)
  refine ⟨_, ge0, (by show 1 + 1 ≤ 3; decide), ?_⟩
  (conv=>whnf);(try(refine ⟨(rfl:(_:Heap)=_),?_⟩;(conv=>whnf)))
  refine ⟨s0, s1, ?_⟩
  (conv=>whnf);(try(refine ⟨(rfl:(_:Heap)=_),?_⟩;(conv=>whnf)))
  rw [e4]
  refine ⟨_, gn, rfl, ?_⟩
  (conv=>whnf);(try(refine ⟨(rfl:(_:Heap)=_),?_⟩;(conv=>whnf)))
  rw [hst]
  refine JumpK.go rfl ?_; conv => whnf
  rw [show IntKind.i64.wrap (m.pc + 1) = 2 from by rw [hpc]; rfl]
  refine .inl ⟨⟨false, [0, 1, 2], [9, 1, 10], []⟩, by kernel_rfl, ?_⟩; (conv => whnf)
  repeat (refine ⟨rfl, ?_⟩; ((conv=>whnf);(try(refine ⟨(rfl:(_:Heap)=_),?_⟩;(conv=>whnf)))))
  refine ⟨.inl rfl, _, (((Weak.freezeC 7 m.end_.toNat 1 rfl ge rfl rfl (.inr rfl) (by simp) (by simp) (shut_map (enc := encI) (fun _ => rfl) _) (ownE 8 _ _)).trans (Weak.freezeC 6 m.cluster.toNat 1 rfl gg rfl rfl (.inl rfl) (by simp) (by simp) eshE1 (ownG 7 _))).trans (Weak.freezeC 5 m.version.toNat 3 rfl gv rfl rfl (.inl rfl) (by simp) (by simp) eshG1 (ownV 6))).trans (Weak.freezeC 2 0 4 rfl rfl rfl rfl (.inl rfl) (by simp) (by simp) eshV1 (one_noOwn rfl)), ?_⟩
  show _ = some (C.tup [C.agg [I w.epoch, I w.current, I w.lock, lI w.pins, C.lst 0 5 ((w.versions.set m.version.toNat (turnV1 m v0 g0 (linkE m e0) g0.ticket e0.head e0.active)).map encV), lL w.listens, lCo w.counts, lR w.limbo], Cm { m with pc := 2 }, Ce (evV m v0 2 9 (m.word % 4294967296 - 1))])
  rw [← estV1, ← estG1, ← estE1]
  rfl
end Go.Wor
namespace Go.Wor
open Go.Ab Go.Proofs Go.Hy Go.Gat Go.Nam Go.Hos Go.Con Go.Sna
set_option linter.unusedVariables false
set_option linter.unusedSimpArgs false
set_option maxRecDepth 100000
set_option maxHeartbeats 4000000
abbrev fin4A (m : Mac) : Ans := ⟨6, m.version, m.cluster, m.end_, m.slot, m.listen, 0, ⟨0, 0, 0, 0, 0, 0⟩⟩
abbrev fin4E (m : Mac) (x : Lis) : Eve := { noEve with thread := m.thread, access := 3, cell := 5, version := -1, value := IntKind.i64.wrap (x.active - 1), done := true, answer := fin4A m }
abbrev leftL (x : Lis) : Lis := { x with active := IntKind.i64.wrap (x.active - 1) }
theorem fin4_sound (w : Wor) (m : Mac) (v : Ver) (g : Gr) (e : En) (x : Lis) (sw : SmWor w) (ok : OkW w) (hl : i64 m.listen) (hpc : m.pc = 4) (hs : suitsV w m = true) (hat : AtE w m v g e) (hw : u64 m.word) (hh : u64 e.head) (hli : 0 ≤ m.listen) (hx : w.listens[m.listen.toNat]? = some x) :
    SoundAt Tryz.prog 63 [] [Cw w, Cm m] (.tup [Cw { w with listens := w.listens.set m.listen.toNat (leftL x) }, Cm { m with answer := fin4A m, done := true }, Ce (fin4E m x)]) [] := by
  have a0 := hat.v0
  have a1 := hat.toAtV.row
  have b0 := hat.g0
  have b1 : (v.groups.map encG)[m.cluster.toNat]? = some (encG g) := by rw [List.getElem?_map, hat.atg]; rfl
  have c0 := hat.e0
  have c1 : (g.ends.map encE)[m.end_.toNat]? = some (encE e) := by rw [List.getElem?_map, hat.ate]; rfl
  have hn : ¬ m.listen < 0 := by omega
  have lt : m.listen.toNat < w.listens.length := (List.getElem?_eq_some_iff.1 hx).1
  have gl : (w.listens.map encL)[m.listen.toNat]? = some (encL x) := by rw [List.getElem?_map, hx]; rfl
  have hst : (w.listens.map encL).set m.listen.toNat [Tx x.name, Bo x.drain, I (IntKind.i64.wrap (x.active - 1)), Bo x.closed] = (w.listens.set m.listen.toNat (leftL x)).map encL := by rw [List.map_set]; rfl
  have gl2 : ((w.listens.set m.listen.toNat (leftL x)).map encL)[m.listen.toNat]? = some (encL (leftL x)) := by rw [List.getElem?_map, List.getElem?_set_self lt]; rfl
  have e1 : 0 + m.listen.toNat = m.listen.toNat := Nat.zero_add _
  obtain ⟨y, l, hy⟩ : ∃ y l, w.listens = y :: l := by
    cases h : w.listens with
    | nil => rw [h] at lt; simp at lt
    | cons y l => exact ⟨y, l, rfl⟩
  refine SoundAt.of_wpA1 (fn := Tryz.f63) Tryz.func63 rfl ?_
  conv => whnf
  (repeat (first | (refine ⟨fun _ => ?_, ?_⟩; rotate_left 1; (focus (intro h; first | (simp [hpc] at h; done) | (have h := of_decide_eq_true h; omega) | (have h := of_decide_eq_false h; omega))); ((conv=>whnf);(try(refine ⟨(rfl:(_:Heap)=_),?_⟩;(conv=>whnf))))) | (refine ⟨?_, fun _ => ?_⟩; (focus (intro h; first | (simp [hpc] at h; done) | (have h := of_decide_eq_true h; omega) | (have h := of_decide_eq_false h; omega))); ((conv=>whnf);(try(refine ⟨(rfl:(_:Heap)=_),?_⟩;(conv=>whnf)))))))
  refine ⟨_, _, (suits_sound w m ok hl).frame rfl _, ?_⟩; (conv=>whnf);(try(refine ⟨(rfl:(_:Heap)=_),?_⟩;(conv=>whnf)))
  refine ⟨fun _ => ?_, fun h => absurd ((hs).symm.trans h : true = false) (by decide)⟩; (conv=>whnf);(try(refine ⟨(rfl:(_:Heap)=_),?_⟩;(conv=>whnf)))
  (repeat (first | (refine ⟨fun _ => ?_, ?_⟩; rotate_left 1; (focus (intro h; first | (simp [hpc] at h; done) | (have h := of_decide_eq_true h; omega) | (have h := of_decide_eq_false h; omega))); ((conv=>whnf);(try(refine ⟨(rfl:(_:Heap)=_),?_⟩;(conv=>whnf))))) | (refine ⟨?_, fun _ => ?_⟩; (focus (intro h; first | (simp [hpc] at h; done) | (have h := of_decide_eq_true h; omega) | (have h := of_decide_eq_false h; omega))); ((conv=>whnf);(try(refine ⟨(rfl:(_:Heap)=_),?_⟩;(conv=>whnf)))))))
  (repeat (first | (refine ⟨fun _ => ?_, fun h => absurd h (by decide)⟩; (conv=>whnf);(try(refine ⟨(rfl:(_:Heap)=_),?_⟩;(conv=>whnf)))) | (refine ⟨fun h => absurd h (by decide), fun _ => ?_⟩; (conv=>whnf);(try(refine ⟨(rfl:(_:Heap)=_),?_⟩;(conv=>whnf))))))
  refine callPart [] (cloneL_sound w sw y l hy) rfl rfl rfl rfl rfl rfl ?_; (conv=>whnf);(try(refine ⟨(rfl:(_:Heap)=_),?_⟩;(conv=>whnf)))
  refine .inl ⟨⟨false, [], [], []⟩, by kernel_rfl, ?_⟩; (conv => whnf)
  (refine ⟨a0, _, a1, ?_⟩); (conv=>whnf);(try(refine ⟨(rfl:(_:Heap)=_),?_⟩;(conv=>whnf)))
  (refine ⟨b0, _, b1, ?_⟩); (conv=>whnf);(try(refine ⟨(rfl:(_:Heap)=_),?_⟩;(conv=>whnf)))
  (refine ⟨c0, _, c1, ?_⟩); (conv=>whnf);(try(refine ⟨(rfl:(_:Heap)=_),?_⟩;(conv=>whnf)))
  refine ⟨_, _, (Slp.index_sound m.word hw).frame rfl _, ?_⟩; (conv=>whnf);(try(refine ⟨(rfl:(_:Heap)=_),?_⟩;(conv=>whnf)))
  refine .inr ⟨⟨[0, 1, 5, 6, 7], [0, 1], true⟩, by kernel_rfl, fun _ => rfl, _, ?_, fun t2 H2 h => h⟩; (conv => whnf)
  refine ⟨_, SoundAt.blind [] (Slp.index_sound e.head hh) rfl rfl rfl rfl rfl rfl rfl (fun _ => rfl) (fun _ => rfl), ?_⟩; (conv => whnf)
  refine ⟨_, SoundAt.blind [] (ownF_sound w m v hat.toAtV 1 8 (e.head % 4294967296 - 1)) rfl rfl rfl rfl rfl rfl rfl (fun _ => rfl) (fun _ => rfl), ?_⟩; (conv => whnf)
  (refine ⟨?_, trivial⟩); (conv => whnf); (repeat (refine ⟨rfl, ?_⟩; (conv => whnf)))
  (refine ⟨?_, trivial⟩); (conv => whnf); (repeat (refine ⟨rfl, ?_⟩; (conv => whnf)))
  (refine ⟨_, _, .refl _, ?_⟩); (conv => whnf)
  (repeat (first | (refine ⟨fun _ => ?_, ?_⟩; rotate_left 1; (focus (intro h; first | (simp [hpc] at h; done) | (have h := of_decide_eq_true h; omega) | (have h := of_decide_eq_false h; omega))); ((conv=>whnf);(try(refine ⟨(rfl:(_:Heap)=_),?_⟩;(conv=>whnf))))) | (refine ⟨?_, fun _ => ?_⟩; (focus (intro h; first | (simp [hpc] at h; done) | (have h := of_decide_eq_true h; omega) | (have h := of_decide_eq_false h; omega))); ((conv=>whnf);(try(refine ⟨(rfl:(_:Heap)=_),?_⟩;(conv=>whnf)))))))
  refine ⟨hli, lt, ?_⟩
  (conv=>whnf);(try(refine ⟨(rfl:(_:Heap)=_),?_⟩;(conv=>whnf)))
  rw [e1]
  refine ⟨_, gl, (by show 2 + 1 ≤ 4; decide), ?_⟩
  (conv=>whnf);(try(refine ⟨(rfl:(_:Heap)=_),?_⟩;(conv=>whnf)))
  refine ⟨_, gl, rfl, ?_⟩
  (conv=>whnf);(try(refine ⟨(rfl:(_:Heap)=_),?_⟩;(conv=>whnf)))
  rw [hst]
  refine .inl ⟨⟨false, [], [], []⟩, by kernel_rfl, ?_⟩; (conv => whnf)
  refine ⟨_, gl2, (by show 2 + 1 ≤ 4; decide), ?_⟩
  (conv=>whnf);(try(refine ⟨(rfl:(_:Heap)=_),?_⟩;(conv=>whnf)))
  refine JumpK.go rfl ?_; conv => whnf
  refine .inl ⟨⟨false, [0, 1, 2], [6, 1, 7], []⟩, by kernel_rfl, ?_⟩; (conv => whnf)
  repeat (refine ⟨rfl, ?_⟩; ((conv=>whnf);(try(refine ⟨(rfl:(_:Heap)=_),?_⟩;(conv=>whnf)))))
  exact ⟨.inl rfl, _, Weak.freezeC 2 0 5 rfl rfl rfl rfl (.inr rfl) (by simp) (by simp) (shut_map (enc := encL) (fun _ => rfl) _) (one_noOwn rfl), rfl⟩
end Go.Wor
