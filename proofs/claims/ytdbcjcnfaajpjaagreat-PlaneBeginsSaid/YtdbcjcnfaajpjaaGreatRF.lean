import Derived.Test.YtdbcjcnfaajpjaaGreatRE
namespace Go.Sna
open Go.Ab Go.Proofs Go.Hy Go.Gat Go.Nam Go.Hos Go.Con
set_option linter.unusedVariables false
set_option linter.unusedSimpArgs false
set_option maxRecDepth 8000
set_option maxHeartbeats 2000000
theorem lis1_sound (s x : Str) : SoundAt Tryz.prog 178 [⟨1, 9, 1, [[Tx s]], 0⟩] [Tx x, .ref 0 [] 1 0 0] (Bo (x == s)) [⟨1, 9, 1, [[Tx s]], 0⟩] := by
  refine SoundAt.of_wpA (fn := Tryz.f178) Tryz.func178 rfl ?_
  conv => whnf
  refine ⟨fun h => ?_, fun h => ?_⟩ <;> rw [h]
  · conv => whnf
    exact ⟨.inl rfl, _, .refl _, rfl, rfl⟩
  · conv => whnf
    exact ⟨.inl rfl, _, .refl _, rfl, rfl⟩
theorem clu1_sound (s : Str) (x : Clu) : SoundAt Tryz.prog 180 [⟨1, 9, 1, [[Tx s]], 0⟩, ⟨1, 82, 4, [encC x], 0⟩] [Cc x, .ref 0 [] 1 0 0] (Bo (x.name == s)) [⟨1, 9, 1, [[Tx s]], 0⟩, ⟨1, 82, 4, [encC x], 0⟩] := by
  refine SoundAt.of_wpA (fn := Tryz.f180) Tryz.func180 rfl ?_
  conv => whnf
  refine ⟨fun h => ?_, fun h => ?_⟩ <;> rw [h]
  · conv => whnf
    exact ⟨.inl rfl, _, Weak.keep [3] 2 _ _ rfl rfl rfl rfl, rfl, rfl⟩
  · conv => whnf
    exact ⟨.inl rfl, _, Weak.keep [3] 2 _ _ rfl rfl rfl rfl, rfl, rfl⟩
theorem placeT_sound (l : List Str) (s : Str) (hl : l.length < 4611686018427387904) : SoundAt Tryz.prog 177 [⟨1, 9, 1, [[Tx s]], 0⟩] [lT l, .fn 178 [] [.ref 0 [] 1 0 0]] (I (idxT l s)) [⟨1, 9, 1, [[Tx s]], 0⟩] := by
  have hlm : (l.map encT).length = l.length := List.length_map ..
  refine SoundAt.of_wpA (fn := Tryz.f177) Tryz.func177 rfl ?_
  conv => whnf
  rw [hlm]
  refine Loops.seq l.length (fun k => [lT l, .fn 178 [] [.ref 0 [] 1 0 0], .junk, .junk, I 0, .junk, .junk, lT l, I l.length, I k, .junk, .junk, .junk, .junk, .junk, .junk, .junk, .junk, .junk]) (fun k => [⟨1, 9, 1, [[Tx s]], 0⟩]) (fun k => ∀ j, (h : j < l.length) → j < k → (l[j] == s) = false) ?_ (by simp) (fun k hk hr => ?_) (fun hr => ?_)
  · exact Weak.cov (by (conv => whnf); (repeat (refine ⟨rfl, ?_⟩; (conv => whnf))); exact trivial)
  · have hg : (l.map encT)[k]? = some (encT l[k]) := by rw [List.getElem?_map, List.getElem?_eq_getElem hk]; rfl
    conv => whnf
    (refine ⟨fun _ => ?_, fun h => absurd h (by simp; omega)⟩); (conv=>whnf);(try(refine ⟨(rfl:(_:Heap)=_),?_⟩;(conv=>whnf)))
    (refine ⟨by omega, _, by rw [toNat_cast]; exact hg, ?_⟩); (conv=>whnf);(try(refine ⟨(rfl:(_:Heap)=_),?_⟩;(conv=>whnf)))
    refine ⟨_, _, lis1_sound s l[k], ?_⟩
    (conv=>whnf);(try(refine ⟨(rfl:(_:Heap)=_),?_⟩;(conv=>whnf)))
    refine ⟨fun h2 => ?_, fun h2 => ?_⟩
    · (conv=>whnf);(try(refine ⟨(rfl:(_:Heap)=_),?_⟩;(conv=>whnf)))
      (refine .inr ⟨by simp, ?_⟩); (conv => whnf)
      have e : idxT l s = k := by
        unfold idxT
        have : l.findIdx? (fun x => x == s) = some k := by
          rw [List.findIdx?_eq_some_iff_getElem]
          exact ⟨hk, h2, fun j hj => by simp only [hr j (by omega) hj]; decide⟩
        rw [this]
      rw [e]
      exact ⟨.inl rfl, _, .refl _, rfl, rfl⟩
    · (conv=>whnf);(try(refine ⟨(rfl:(_:Heap)=_),?_⟩;(conv=>whnf)))
      refine .inl ⟨rfl, ?_, fun j hj hjk => ?_⟩
      · rw [i64_nat (by omega)]
        exact Weak.cov (by (conv => whnf); (repeat (refine ⟨rfl, ?_⟩; (conv => whnf))); exact trivial)
      · by_cases e : j = k
        · subst e; exact h2
        · exact hr j hj (by omega)
  · (conv => whnf); (refine ⟨fun h => absurd h (by simp), fun _ => ?_⟩); (conv=>whnf);(try(refine ⟨(rfl:(_:Heap)=_),?_⟩;(conv=>whnf))); (refine ⟨by simp, ?_⟩); (conv => whnf)
    have e : idxT l s = -1 := by
      unfold idxT
      have : l.findIdx? (fun x => x == s) = none := by
        rw [List.findIdx?_eq_none_iff]
        intro x hx
        obtain ⟨j, hj, rfl⟩ := List.mem_iff_getElem.1 hx
        exact hr j hj hj
      rw [this]
    rw [e]
    exact ⟨.inl rfl, _, .refl _, rfl, rfl⟩
theorem listener_sound (l : List Str) (s : Str) (hl : l.length < 4611686018427387904) : SoundAt Tryz.prog 165 [] [lT l, Tx s] (I (idxT l s)) [] := by
  refine SoundAt.of_wpA1 (fn := Tryz.f165) Tryz.func165 rfl ?_
  conv => whnf
  refine ⟨_, _, placeT_sound l s hl, ?_⟩
  (conv=>whnf);(try(refine ⟨(rfl:(_:Heap)=_),?_⟩;(conv=>whnf)))
  exact ⟨.inl rfl, _, .refl _, rfl⟩
theorem placeC_sound (l : List Clu) (s : Str) (hl : l.length < 4611686018427387904) : SoundAt Tryz.prog 179 [⟨1, 9, 1, [[Tx s]], 0⟩] [lC l, .fn 180 [] [.ref 0 [] 1 0 0]] (I (idxN l s)) [⟨1, 9, 1, [[Tx s]], 0⟩] := by
  have hlm : (l.map encC).length = l.length := List.length_map ..
  refine SoundAt.of_wpA (fn := Tryz.f179) Tryz.func179 rfl ?_
  conv => whnf
  rw [hlm]
  refine Loops.seq l.length (fun k => [lC l, .fn 180 [] [.ref 0 [] 1 0 0], .junk, .junk, I 0, .junk, .junk, lC l, I l.length, I k, .junk, .junk, .junk, .junk, .junk, .junk, .junk, .junk, .junk]) (fun k => [⟨1, 9, 1, [[Tx s]], 0⟩]) (fun k => ∀ j, (h : j < l.length) → j < k → (l[j].name == s) = false) ?_ (by simp) (fun k hk hr => ?_) (fun hr => ?_)
  · exact Weak.cov (by (conv => whnf); (repeat (refine ⟨rfl, ?_⟩; (conv => whnf))); exact trivial)
  · have hg : (l.map encC)[k]? = some (encC l[k]) := by rw [List.getElem?_map, List.getElem?_eq_getElem hk]; rfl
    conv => whnf
    (refine ⟨fun _ => ?_, fun h => absurd h (by simp; omega)⟩); (conv=>whnf);(try(refine ⟨(rfl:(_:Heap)=_),?_⟩;(conv=>whnf)))
    (refine ⟨by omega, _, by rw [toNat_cast]; exact hg, ?_⟩); (conv=>whnf);(try(refine ⟨(rfl:(_:Heap)=_),?_⟩;(conv=>whnf)))
    refine ⟨_, _, clu1_sound s l[k], ?_⟩
    (conv=>whnf);(try(refine ⟨(rfl:(_:Heap)=_),?_⟩;(conv=>whnf)))
    refine ⟨fun h2 => ?_, fun h2 => ?_⟩
    · (conv=>whnf);(try(refine ⟨(rfl:(_:Heap)=_),?_⟩;(conv=>whnf)))
      (refine .inr ⟨by simp, ?_⟩); (conv => whnf)
      have e : idxN l s = k := by
        unfold idxN
        have : l.findIdx? (fun x => x.name == s) = some k := by
          rw [List.findIdx?_eq_some_iff_getElem]
          exact ⟨hk, h2, fun j hj => by simp only [hr j (by omega) hj]; decide⟩
        rw [this]
      rw [e]
      exact ⟨.inl rfl, _, Weak.keep [4] 1 _ _ rfl rfl rfl rfl, rfl, rfl⟩
    · (conv=>whnf);(try(refine ⟨(rfl:(_:Heap)=_),?_⟩;(conv=>whnf)))
      refine .inl ⟨rfl, ?_, fun j hj hjk => ?_⟩
      · rw [i64_nat (by omega)]
        exact Weak.covD 1 (by (conv => whnf); (repeat (refine ⟨rfl, ?_⟩; (conv => whnf))); exact trivial) rfl rfl rfl rfl rfl
      · by_cases e : j = k
        · subst e; exact h2
        · exact hr j hj (by omega)
  · (conv => whnf); (refine ⟨fun h => absurd h (by simp), fun _ => ?_⟩); (conv=>whnf);(try(refine ⟨(rfl:(_:Heap)=_),?_⟩;(conv=>whnf))); (refine ⟨by simp, ?_⟩); (conv => whnf)
    have e : idxN l s = -1 := by
      unfold idxN
      have : l.findIdx? (fun x => x.name == s) = none := by
        rw [List.findIdx?_eq_none_iff]
        intro x hx
        obtain ⟨j, hj, rfl⟩ := List.mem_iff_getElem.1 hx
        exact hr j hj hj
      rw [this]
    rw [e]
    exact ⟨.inl rfl, _, .refl _, rfl, rfl⟩
theorem cluster_sound (l : List Clu) (s : Str) (hl : l.length < 4611686018427387904) : SoundAt Tryz.prog 166 [] [lC l, Tx s] (I (idxN l s)) [] := by
  refine SoundAt.of_wpA1 (fn := Tryz.f166) Tryz.func166 rfl ?_
  conv => whnf
  refine ⟨_, _, placeC_sound l s hl, ?_⟩
  (conv=>whnf);(try(refine ⟨(rfl:(_:Heap)=_),?_⟩;(conv=>whnf)))
  exact ⟨.inl rfl, _, .refl _, rfl⟩
def idxB (h : List Bool) : Nat → List Int
  | 0 => []
  | k + 1 => if h[k]? = some true then idxB h k ++ [(k : Int)] else idxB h k
theorem idxB_len (h : List Bool) : ∀ k, (idxB h k).length ≤ k
  | 0 => Nat.le_refl _
  | k + 1 => by
    have := idxB_len h k
    simp only [idxB]
    split
    · simp; omega
    · omega
theorem healthy_sound (X0 X1 : Ob) (c : Clu) : SoundAt Tryz.prog 185 [X0, X1] [Cc c] (.fn 191 [] [.ref 2 [] 4 0 0]) [X0, X1, ⟨1, 82, 4, [encC c], 0⟩] := by
  refine SoundAt.of_wpA (fn := Tryz.f185) Tryz.func185 rfl ?_
  conv => whnf
  exact ⟨.inl rfl, _, .refl _, rfl, rfl⟩
theorem healthy1_sound (l : Nat) (c : Clu) (hl : c.health.length < 4611686018427387904) (X0 : Ob) (X : Nat → Ob) (Y : Nat → List Ob)
    (hy : ∀ k, c.health[k]? = some true → YieldS Tryz.prog l (X0 :: X k :: ⟨1, 82, 4, [encC c], 0⟩ :: Y k) [I k] (Bo true) (X0 :: X (k + 1) :: ⟨1, 82, 4, [encC c], 0⟩ :: Y (k + 1))) (hn : ∀ k, c.health[k]? = some false → X (k + 1) = X k ∧ Y (k + 1) = Y k) :
    SoundAt Tryz.prog 191 (X0 :: X 0 :: ⟨1, 82, 4, [encC c], 0⟩ :: Y 0) [.v (.func (.yield l) #[] #[]), .ref 2 [] 4 0 0] (.tup []) (X0 :: X c.health.length :: ⟨1, 82, 4, [encC c], 0⟩ :: Y c.health.length) := by
  have mh : (c.health.map encB).length = c.health.length := List.length_map ..
  refine SoundAt.of_wpA (fn := Tryz.f191) Tryz.func191 rfl ?_
  conv => whnf
  rw [mh]
  refine Loops.seq c.health.length (fun k => [.v (.func (.yield l) #[] #[]), .ref 2 [] 4 0 0, .junk, .junk, .junk, .junk, lB c.health, I c.health.length, I k, .junk, .junk, .junk, .junk, .junk, .junk, .junk, .junk, .junk, .junk, .junk, .junk]) (fun k => X0 :: X k :: ⟨1, 82, 4, [encC c], 0⟩ :: Y k) (fun k => True) ?_ trivial (fun k hk hr => ?_) (fun hr => ?_)
  · exact Weak.cov (by (conv => whnf); (repeat (refine ⟨rfl, ?_⟩; (conv => whnf))); exact trivial)
  · have hg : (c.health.map encB)[k]? = some (encB c.health[k]) := by rw [List.getElem?_map, List.getElem?_eq_getElem hk]; rfl
    conv => whnf
    (refine ⟨fun _ => ?_, fun h => absurd h (by simp; omega)⟩); (conv=>whnf);(try(refine ⟨(rfl:(_:Heap)=_),?_⟩;(conv=>whnf)))
    (refine ⟨by omega, _, by rw [toNat_cast]; exact hg, ?_⟩); (conv=>whnf);(try(refine ⟨(rfl:(_:Heap)=_),?_⟩;(conv=>whnf)))
    refine ⟨fun h2 => ?_, fun h2 => ?_⟩
    · (conv=>whnf);(try(refine ⟨(rfl:(_:Heap)=_),?_⟩;(conv=>whnf)))
      refine ⟨_, _, hy k (by rw [List.getElem?_eq_getElem hk, h2]), ?_⟩
      (conv=>whnf);(try(refine ⟨(rfl:(_:Heap)=_),?_⟩;(conv=>whnf)))
      (repeat (first | (refine ⟨fun _ => ?_, fun h => absurd h (by decide)⟩; (conv=>whnf);(try(refine ⟨(rfl:(_:Heap)=_),?_⟩;(conv=>whnf)))) | (refine ⟨fun h => absurd h (by decide), fun _ => ?_⟩; (conv=>whnf);(try(refine ⟨(rfl:(_:Heap)=_),?_⟩;(conv=>whnf))))))
      refine .inl ⟨rfl, ?_, trivial⟩
      rw [i64_nat (by omega)]
      exact Weak.cov (by (conv => whnf); (repeat (refine ⟨rfl, ?_⟩; (conv => whnf))); exact trivial)
    · obtain ⟨e1, e2⟩ := hn k (by rw [List.getElem?_eq_getElem hk, h2])
      (conv=>whnf);(try(refine ⟨(rfl:(_:Heap)=_),?_⟩;(conv=>whnf)))
      refine .inl ⟨rfl, ?_, trivial⟩
      rw [i64_nat (by omega), e1, e2]
      exact Weak.cov (by (conv => whnf); (repeat (refine ⟨rfl, ?_⟩; (conv => whnf))); exact trivial)
  · (conv => whnf); (refine ⟨fun h => absurd h (by simp), fun _ => ?_⟩); (conv=>whnf);(try(refine ⟨(rfl:(_:Heap)=_),?_⟩;(conv=>whnf))); (refine ⟨by simp, ?_⟩); (conv => whnf)
    exact ⟨.inr rfl, _, .refl _, rfl, rfl⟩
theorem healthyAll_sound (c : Clu) (hl : c.health.length < 1000000000000) : SoundAt Tryz.prog 174 [] [Cc c] (lI (idxB c.health c.health.length)) [] := by
  refine SoundAt.of_wpA1 (fn := Tryz.f174) Tryz.func174 rfl ?_
  conv => whnf
  refine ⟨_, _, healthy_sound _ _ c, ?_⟩
  conv => whnf
  refine ⟨_, Weak.growH 1 0 3 1 rfl rfl (.inl rfl) rfl rfl, ?_⟩
  have hlen := idxB_len c.health c.health.length
  refine ⟨.normal, _, [⟨1, 82, 4, [encC c], 0⟩, ⟨1, 40, 1, [[.gl 3 1 ((idxB c.health c.health.length).map encI)]], 0⟩, ⟨1, 82, 4, [encC c], 0⟩, ⟨4, 3, 1, (idxB c.health c.health.length).map encI, 0⟩],
    fun l r h1 h2 h3 h4 h5 => ⟨_, _, r, healthy1_sound l c (by omega) _ (fun k => ⟨1, 40, 1, [[.gl 3 1 ((idxB c.health k).map encI)]], 0⟩) (fun k => [⟨4, 3, 1, (idxB c.health k).map encI, 0⟩, obR l r _]) (fun k hk => ?_) (fun k hk => ?_),
    rfl, by rw [h1]; decide, rfl, Nat.zero_le _, by rw [h2]; trivial, Weak.low 4 _ _ rfl rfl rfl⟩, ?_⟩
  · refine YieldS.of_wpA (id := 4) rfl h1 h2 h3 h4 h5 rfl rfl rfl ?_
    conv => whnf
    refine ⟨rfl, rfl, ?_⟩
    conv => whnf
    have hkl := (List.getElem?_eq_some_iff.1 hk).1
    have := idxB_len c.health k
    refine ⟨rfl, .inr rfl, by simp [maxLen]; omega, by show _ * 8 ≤ _; simp; omega, ?_⟩
    conv => whnf
    have e : (idxB c.health (k + 1)).map encI = (idxB c.health k).map encI ++ [[I k]] := by simp only [idxB]; rw [if_pos hk]; simp [encI]
    rw [e]
    exact ⟨_, _, .refl _, rfl, .inl ⟨rfl, rfl, rfl⟩⟩
  · have e : idxB c.health (k + 1) = idxB c.health k := by simp only [idxB]; rw [if_neg (by rw [hk]; simp)]
    exact ⟨by simp only [e], by simp only [e]⟩
  · conv => whnf
    exact ⟨.inl rfl, _, .refl _, rfl⟩
end Go.Sna
namespace Go.Sna
open Go.Ab Go.Proofs Go.Hy Go.Gat Go.Nam Go.Hos Go.Con
set_option linter.unusedVariables false
set_option linter.unusedSimpArgs false
set_option maxRecDepth 8000
set_option maxHeartbeats 2000000
theorem rowsLow_all {n : Nat} {H : Heap} (h : ∀ ob ∈ H, rowsLow n [ob] = true) : rowsLow n H = true := by
  unfold rowsLow
  rw [List.all_eq_true]
  intro ob hob
  have := h ob hob
  unfold rowsLow at this
  simpa using this
abbrev Cu (r : Rul) : C := .agg (encU4 r)
def fitsV (r : Rul) (n : Int) (h p : Str) : Bool := r.listen == n && matchV r.host h && underV p r.path
def SmallU (r : Rul) : Prop := r.host.length < 1000000000000 ∧ r.path.length < 1000000000000
theorem fits_sound (r : Rul) (n : Int) (h p : Str) (hr : SmallU r) (hh : h.length < 1000000000000) (hp : p.length < 1000000000000) : SoundAt Tryz.prog 194 [] [Cu r, I n, Tx h, Tx p] (Bo (fitsV r n h p)) [] := by
  have ⟨r1, r2⟩ := hr
  refine SoundAt.of_wpA1 (fn := Tryz.f194) Tryz.func194 rfl ?_
  conv => whnf
  refine ⟨fun h1 => ?_, fun h1 => ?_⟩
  · (conv=>whnf);(try(refine ⟨(rfl:(_:Heap)=_),?_⟩;(conv=>whnf)))
    refine ⟨_, _, (match_sound r.host h (by omega) (by omega)).frame rfl _, ?_⟩; (conv=>whnf);(try(refine ⟨(rfl:(_:Heap)=_),?_⟩;(conv=>whnf)))
    refine ⟨fun h2 => ?_, fun h2 => ?_⟩
    · (conv=>whnf);(try(refine ⟨(rfl:(_:Heap)=_),?_⟩;(conv=>whnf)))
      refine ⟨_, _, (under_sound p r.path (by omega) (by omega)).frame rfl _, ?_⟩; (conv=>whnf);(try(refine ⟨(rfl:(_:Heap)=_),?_⟩;(conv=>whnf)))
      refine ⟨fun h3 => ?_, fun h3 => ?_⟩
      · (conv=>whnf);(try(refine ⟨(rfl:(_:Heap)=_),?_⟩;(conv=>whnf)))
        (exact ⟨.inl rfl, _, .refl _, congrArg (fun b => some (C.v (Value.bool b))) (by simp at h1; simp [fitsV, h1, h2, h3])⟩)
      · (conv=>whnf);(try(refine ⟨(rfl:(_:Heap)=_),?_⟩;(conv=>whnf)))
        (exact ⟨.inl rfl, _, .refl _, congrArg (fun b => some (C.v (Value.bool b))) (by simp [fitsV, h2, h3])⟩)
    · (conv=>whnf);(try(refine ⟨(rfl:(_:Heap)=_),?_⟩;(conv=>whnf)))
      (exact ⟨.inl rfl, _, .refl _, congrArg (fun b => some (C.v (Value.bool b))) (by simp [fitsV, h2])⟩)
  · (conv=>whnf);(try(refine ⟨(rfl:(_:Heap)=_),?_⟩;(conv=>whnf)))
    (exact ⟨.inl rfl, _, .refl _, congrArg (fun b => some (C.v (Value.bool b))) (by simp at h1; simp [fitsV, h1])⟩)
def bst (l : List Rul) (n : Int) (h p : Str) : Nat → Int
  | 0 => -1
  | k + 1 => match l[k]? with
    | none => bst l n h p k
    | some r => if fitsV r n h p then (match l[(bst l n h p k).toNat]? with
        | none => (k : Int)
        | some b => if bst l n h p k < 0 ∨ betterV r.host r.path b.host b.path = true then (k : Int) else bst l n h p k) else bst l n h p k
theorem bst_lt (l : List Rul) (n : Int) (h p : Str) : ∀ k, bst l n h p k = -1 ∨ (0 ≤ bst l n h p k ∧ bst l n h p k < k ∧ (bst l n h p k).toNat < l.length)
  | 0 => .inl rfl
  | k + 1 => by
    have ih := bst_lt l n h p k
    simp only [bst]
    cases hk : l[k]? with
    | none => simp only; omega
    | some r =>
      have := (List.getElem?_eq_some_iff.1 hk).1
      simp only
      split
      · split
        · omega
        · split <;> omega
      · omega
def bestV (l : List Rul) (n : Int) (h p : Str) : Int × Int := if bst l n h p l.length < 0 then (0, 5) else (bst l n h p l.length, 0)
theorem fitting_sound (l : List Rul) (n : Int) (h p : Str) (X0 X1 : Ob) : SoundAt Tryz.prog 189 [X0, X1] [lRul l, I n, Tx h, Tx p] (.fn 193 [] [.ref 2 [] 1 0 0, .ref 3 [] 1 0 0, .ref 4 [] 1 0 0, .ref 5 [] 1 0 0]) [X0, X1, ⟨1, 66, 1, [[lRul l]], 0⟩, ⟨1, 3, 1, [[I n]], 0⟩, ⟨1, 9, 1, [[Tx h]], 0⟩, ⟨1, 9, 1, [[Tx p]], 0⟩] := by
  refine SoundAt.of_wpA (fn := Tryz.f189) Tryz.func189 rfl ?_
  conv => whnf
  exact ⟨.inl rfl, _, .refl _, rfl, rfl⟩
theorem fitting1_sound (y : Nat) (l : List Rul) (n : Int) (h p : Str) (hl : l.length < 4611686018427387904) (hs : ∀ r ∈ l, SmallU r) (hh : h.length < 1000000000000) (hp : p.length < 1000000000000) (X : Nat → Ob) (Y : Ob) (hX : ∀ k, rowsLow 7 [X k] = true) (hY : rowsLow 7 [Y] = true)
    (hy : ∀ k r, l[k]? = some r → fitsV r n h p = true → YieldS Tryz.prog y [⟨1, 66, 1, [[lRul l]], 0⟩, X k, ⟨1, 66, 1, [[lRul l]], 0⟩, ⟨1, 3, 1, [[I n]], 0⟩, ⟨1, 9, 1, [[Tx h]], 0⟩, ⟨1, 9, 1, [[Tx p]], 0⟩, Y, ⟨1, 105, 4, [encU4 r], 0⟩] [I k, Cu r] (Bo true) [⟨1, 66, 1, [[lRul l]], 0⟩, X (k + 1), ⟨1, 66, 1, [[lRul l]], 0⟩, ⟨1, 3, 1, [[I n]], 0⟩, ⟨1, 9, 1, [[Tx h]], 0⟩, ⟨1, 9, 1, [[Tx p]], 0⟩, Y, ⟨1, 105, 4, [encU4 r], 0⟩]) (hn : ∀ k r, l[k]? = some r → fitsV r n h p = false → X (k + 1) = X k) :
    SoundAt Tryz.prog 193 [⟨1, 66, 1, [[lRul l]], 0⟩, X 0, ⟨1, 66, 1, [[lRul l]], 0⟩, ⟨1, 3, 1, [[I n]], 0⟩, ⟨1, 9, 1, [[Tx h]], 0⟩, ⟨1, 9, 1, [[Tx p]], 0⟩, Y] [.v (.func (.yield y) #[] #[]), .ref 2 [] 1 0 0, .ref 3 [] 1 0 0, .ref 4 [] 1 0 0, .ref 5 [] 1 0 0] (.tup []) [⟨1, 66, 1, [[lRul l]], 0⟩, X l.length, ⟨1, 66, 1, [[lRul l]], 0⟩, ⟨1, 3, 1, [[I n]], 0⟩, ⟨1, 9, 1, [[Tx h]], 0⟩, ⟨1, 9, 1, [[Tx p]], 0⟩, Y] := by
  have mh : (l.map encU4).length = l.length := List.length_map ..
  refine SoundAt.of_wpA (fn := Tryz.f193) Tryz.func193 rfl ?_
  conv => whnf
  rw [mh]
  refine Loops.seq l.length (fun k => [.v (.func (.yield y) #[] #[]), .ref 2 [] 1 0 0, .ref 3 [] 1 0 0, .ref 4 [] 1 0 0, .ref 5 [] 1 0 0, .junk, .junk, .junk, lRul l, I l.length, I k, .junk, .junk, .junk, .junk, .junk, .junk, .junk, .junk, .junk, .junk, .junk, .junk, .junk, .junk, .junk, .junk, .junk]) (fun k => [⟨1, 66, 1, [[lRul l]], 0⟩, X k, ⟨1, 66, 1, [[lRul l]], 0⟩, ⟨1, 3, 1, [[I n]], 0⟩, ⟨1, 9, 1, [[Tx h]], 0⟩, ⟨1, 9, 1, [[Tx p]], 0⟩, Y]) (fun k => True) ?_ trivial (fun k hk hr => ?_) (fun hr => ?_)
  · exact Weak.cov (by (conv => whnf); (repeat (refine ⟨rfl, ?_⟩; (conv => whnf))); exact trivial)
  · obtain ⟨r, hx⟩ : ∃ r, r = l[k] := ⟨_, rfl⟩
    have hg : (l.map encU4)[k]? = some (encU4 r) := by rw [List.getElem?_map, List.getElem?_eq_getElem hk, hx]; rfl
    have hk' : l[k]? = some r := by rw [List.getElem?_eq_getElem hk, hx]
    conv => whnf
    (refine ⟨fun _ => ?_, fun h => absurd h (by simp; omega)⟩); (conv=>whnf);(try(refine ⟨(rfl:(_:Heap)=_),?_⟩;(conv=>whnf)))
    (refine ⟨by omega, _, by rw [toNat_cast]; exact hg, ?_⟩); (conv=>whnf);(try(refine ⟨(rfl:(_:Heap)=_),?_⟩;(conv=>whnf)))
    refine ⟨_, _, (fits_sound r n h p (hs r (by rw [hx]; exact List.getElem_mem hk)) hh hp).frame rfl _, ?_⟩; (conv=>whnf);(try(refine ⟨(rfl:(_:Heap)=_),?_⟩;(conv=>whnf)))
    refine ⟨fun h2 => ?_, fun h2 => ?_⟩
    · (conv=>whnf);(try(refine ⟨(rfl:(_:Heap)=_),?_⟩;(conv=>whnf)))
      refine ⟨_, _, hy k r hk' h2, ?_⟩
      (conv=>whnf);(try(refine ⟨(rfl:(_:Heap)=_),?_⟩;(conv=>whnf)))
      (repeat (first | (refine ⟨fun _ => ?_, fun h => absurd h (by decide)⟩; (conv=>whnf);(try(refine ⟨(rfl:(_:Heap)=_),?_⟩;(conv=>whnf)))) | (refine ⟨fun h => absurd h (by decide), fun _ => ?_⟩; (conv=>whnf);(try(refine ⟨(rfl:(_:Heap)=_),?_⟩;(conv=>whnf))))))
      refine .inl ⟨rfl, ?_, trivial⟩
      rw [i64_nat (by omega)]
      exact Weak.covD 7 (by (conv => whnf); (repeat (refine ⟨rfl, ?_⟩; (conv => whnf))); exact trivial) rfl rfl rfl (rowsLow_all (by intro ob hob; simp at hob; rcases hob with rfl | rfl | rfl | rfl | rfl | rfl | rfl <;> first | exact hX _ | exact hY | rfl)) rfl
    · have e1 := hn k r hk' h2
      (conv=>whnf);(try(refine ⟨(rfl:(_:Heap)=_),?_⟩;(conv=>whnf)))
      refine .inl ⟨rfl, ?_, trivial⟩
      rw [i64_nat (by omega), e1]
      exact Weak.covD 7 (by (conv => whnf); (repeat (refine ⟨rfl, ?_⟩; (conv => whnf))); exact trivial) rfl rfl rfl (rowsLow_all (by intro ob hob; simp at hob; rcases hob with rfl | rfl | rfl | rfl | rfl | rfl | rfl <;> first | exact hX _ | exact hY | rfl)) rfl
  · (conv => whnf); (refine ⟨fun h => absurd h (by simp), fun _ => ?_⟩); (conv=>whnf);(try(refine ⟨(rfl:(_:Heap)=_),?_⟩;(conv=>whnf))); (refine ⟨by simp, ?_⟩); (conv => whnf)
    exact ⟨.inr rfl, _, .refl _, rfl, rfl⟩
theorem best_sound (l : List Rul) (n : Int) (h p : Str) (hl : l.length < 1000000000000) (hs : ∀ r ∈ l, SmallU r) (hh : h.length < 1000000000000) (hp : p.length < 1000000000000) : SoundAt Tryz.prog 184 [] [lRul l, I n, Tx h, Tx p] (t2 (bestV l n h p)) [] := by
  refine SoundAt.of_wpA1 (fn := Tryz.f184) Tryz.func184 rfl ?_
  conv => whnf
  refine ⟨_, _, fitting_sound l n h p _ _, ?_⟩
  conv => whnf
  refine ⟨_, .refl _, ?_⟩
  refine ⟨.normal, _, [⟨1, 66, 1, [[lRul l]], 0⟩, ⟨1, 3, 1, [[I (bst l n h p l.length)]], 0⟩, ⟨1, 66, 1, [[lRul l]], 0⟩, ⟨1, 3, 1, [[I n]], 0⟩, ⟨1, 9, 1, [[Tx h]], 0⟩, ⟨1, 9, 1, [[Tx p]], 0⟩], fun y r h1 h2 h3 h4 h5 => ⟨_, _, r, fitting1_sound y l n h p (by omega) hs hh hp (fun k => ⟨1, 3, 1, [[I (bst l n h p k)]], 0⟩) (obR y r _) (fun k => rfl) rfl (fun k r hk hf => ?_) (fun k r hk hf => ?_),
    rfl, by rw [h1]; decide, rfl, Nat.zero_le _, by rw [h2]; trivial, Weak.low 6 _ _ rfl rfl rfl⟩, ?_⟩
  · refine YieldS.of_wpA (id := 6) rfl h1 h2 h3 h4 h5 rfl rfl rfl ?_
    conv => whnf
    refine ⟨rfl, rfl, ?_⟩
    conv => whnf
    refine .inl ⟨⟨false, [], [], []⟩, by kernel_rfl, ?_⟩; (conv => whnf)
    have hk0 := (List.getElem?_eq_some_iff.1 hk).1
    have hsr := hs r (List.mem_of_getElem? hk)
    have hb := bst_lt l n h p k
    refine ⟨fun hb1 => ?_, fun hb1 => ?_⟩
    · have e : bst l n h p (k + 1) = k := by
        simp only [bst, hk, if_pos hf]
        have hb1 : bst l n h p k < 0 := by simpa using hb1
        split
        · rfl
        · rw [if_pos (.inl hb1)]
      rw [e]
      (conv=>whnf);(try(refine ⟨(rfl:(_:Heap)=_),?_⟩;(conv=>whnf)))
      (repeat (first | (refine ⟨fun _ => ?_, fun h => absurd h (by decide)⟩; (conv=>whnf);(try(refine ⟨(rfl:(_:Heap)=_),?_⟩;(conv=>whnf)))) | (refine ⟨fun h => absurd h (by decide), fun _ => ?_⟩; (conv=>whnf);(try(refine ⟨(rfl:(_:Heap)=_),?_⟩;(conv=>whnf))))))
      exact ⟨_, _, Weak.low 8 _ _ rfl rfl rfl, rfl, .inl ⟨rfl, rfl, rfl⟩⟩
    · have hb1 : 0 ≤ bst l n h p k := by simpa using hb1
      obtain ⟨b, hgb⟩ : ∃ b, l[(bst l n h p k).toNat]? = some b := ⟨_, List.getElem?_eq_getElem (by omega)⟩
      have hgb' : (l.map encU4)[(bst l n h p k).toNat]? = some (encU4 b) := by rw [List.getElem?_map, hgb]; rfl
      have hsb := hs b (List.mem_of_getElem? hgb)
      (conv=>whnf);(try(refine ⟨(rfl:(_:Heap)=_),?_⟩;(conv=>whnf)))
      refine ⟨hb1, _, hgb', ?_⟩
      (conv=>whnf);(try(refine ⟨(rfl:(_:Heap)=_),?_⟩;(conv=>whnf)))
      refine ⟨hb1, _, hgb', ?_⟩
      (conv=>whnf);(try(refine ⟨(rfl:(_:Heap)=_),?_⟩;(conv=>whnf)))
      refine ⟨_, _, (better_sound r.host r.path b.host b.path (by have := hsr.1; omega) (by have := hsb.1; omega)).frame rfl _, ?_⟩; (conv=>whnf);(try(refine ⟨(rfl:(_:Heap)=_),?_⟩;(conv=>whnf)))
      refine ⟨fun hb2 => ?_, fun hb2 => ?_⟩
      · have e : bst l n h p (k + 1) = k := by
          simp only [bst, hk, if_pos hf, hgb]
          rw [if_pos (.inr hb2)]
        rw [e]
        (conv=>whnf);(try(refine ⟨(rfl:(_:Heap)=_),?_⟩;(conv=>whnf)))
        exact ⟨_, _, Weak.low 8 _ _ rfl rfl rfl, rfl, .inl ⟨rfl, rfl, rfl⟩⟩
      · have e : bst l n h p (k + 1) = bst l n h p k := by
          simp only [bst, hk, if_pos hf, hgb]
          rw [if_neg (by simp [hb2]; exact hb1)]
        rw [e]
        (conv=>whnf);(try(refine ⟨(rfl:(_:Heap)=_),?_⟩;(conv=>whnf)))
        exact ⟨_, _, Weak.low 8 _ _ rfl rfl rfl, rfl, .inl ⟨rfl, rfl, rfl⟩⟩
  · simp only [bst, hk, hf]
    rfl
  · conv => whnf
    refine ⟨fun h1 => ?_, fun h1 => ?_⟩
    · have e : bestV l n h p = (0, 5) := by unfold bestV; rw [if_pos (by simpa using h1)]
      rw [e]
      (conv=>whnf);(try(refine ⟨(rfl:(_:Heap)=_),?_⟩;(conv=>whnf)))
      exact ⟨.inl rfl, _, .refl _, rfl⟩
    · have e : bestV l n h p = (bst l n h p l.length, 0) := by unfold bestV; rw [if_neg (by simpa using h1)]
      rw [e]
      (conv=>whnf);(try(refine ⟨(rfl:(_:Heap)=_),?_⟩;(conv=>whnf)))
      exact ⟨.inl rfl, _, .refl _, rfl⟩
end Go.Sna
namespace Go.Sna
open Go.Ab Go.Proofs Go.Hy Go.Gat Go.Nam Go.Hos Go.Con
set_option linter.unusedVariables false
set_option linter.unusedSimpArgs false
set_option maxRecDepth 8000
set_option maxHeartbeats 2000000
def ruleV (c : Cfg) (r : Rou) : Rul := ⟨idxT c.listens r.listen, r.host, r.path, idxN c.clusters r.cluster⟩
def buildV (c : Cfg) : Sna × Int × Int := if (checkV c).1 ≠ 0 then (⟨[], [], []⟩, checkV c) else (⟨c.listens, c.routes.map (ruleV c), c.clusters⟩, 0, 0)
abbrev Cs (s : Sna) : C := .agg (encS s)
abbrev t3 (r : Sna × Int × Int) : C := .tup [Cs r.1, I r.2.1, I r.2.2]
structure SmallS (s : Sna) : Prop where
  listens : s.listens.length < 1000000000000
  rules : s.rules.length < 1000000000000 ∧ ∀ r ∈ s.rules, SmallU r
def foundV (s : Sna) (n h p : Str) : Int × Int :=
  if idxT s.listens n < 0 then (0, 3) else if (bestV s.rules (idxT s.listens n) h p).2 ≠ 0 then (0, (bestV s.rules (idxT s.listens n) h p).2)
  else match s.rules[(bestV s.rules (idxT s.listens n) h p).1.toNat]? with
    | some r => (r.cluster, 0)
    | none => (0, 0)
theorem find_sound (s : Sna) (n h p : Str) (hs : SmallS s) (hh : h.length < 1000000000000) (hp : p.length < 1000000000000) : SoundAt Tryz.prog 172 [] [Cs s, Tx n, Tx h, Tx p] (t2 (foundV s n h p)) [] := by
  have hl := hs.listens
  have hr := hs.rules.1
  refine SoundAt.of_wpA1 (fn := Tryz.f172) Tryz.func172 rfl ?_
  conv => whnf
  refine ⟨_, _, (listener_sound s.listens n (by omega)).frame rfl _, ?_⟩; (conv=>whnf);(try(refine ⟨(rfl:(_:Heap)=_),?_⟩;(conv=>whnf)))
  refine ⟨fun h1 => ?_, fun h1 => ?_⟩
  · have e : foundV s n h p = (0, 3) := by unfold foundV; rw [if_pos (by simpa using h1)]
    rw [e]
    (conv=>whnf);(try(refine ⟨(rfl:(_:Heap)=_),?_⟩;(conv=>whnf)))
    exact ⟨.inl rfl, _, .refl _, rfl⟩
  have e := (if_neg (by simpa using h1) : (if idxT s.listens n < 0 then ((0 : Int), (3 : Int)) else if (bestV s.rules (idxT s.listens n) h p).2 ≠ 0 then (0, (bestV s.rules (idxT s.listens n) h p).2)
  else match s.rules[(bestV s.rules (idxT s.listens n) h p).1.toNat]? with
    | some r => (r.cluster, 0)
    | none => (0, 0)) = _)
  have e : foundV s n h p = _ := e
  (conv=>whnf);(try(refine ⟨(rfl:(_:Heap)=_),?_⟩;(conv=>whnf)))
  refine ⟨_, _, (best_sound s.rules (idxT s.listens n) h p hr hs.rules.2 hh hp).frame rfl _, ?_⟩; (conv=>whnf);(try(refine ⟨(rfl:(_:Heap)=_),?_⟩;(conv=>whnf)))
  refine ⟨fun h2 => ?_, fun h2 => ?_⟩
  · rw [if_pos (by simpa using h2)] at e
    rw [e]
    (conv=>whnf);(try(refine ⟨(rfl:(_:Heap)=_),?_⟩;(conv=>whnf)))
    exact ⟨.inl rfl, _, .refl _, rfl⟩
  · rw [if_neg (by simpa using h2)] at e
    have h2 : (bestV s.rules (idxT s.listens n) h p).2 = 0 := by simpa using h2
    have hb := bst_lt s.rules (idxT s.listens n) h p s.rules.length
    have hb2 : 0 ≤ (bestV s.rules (idxT s.listens n) h p).1 ∧ (bestV s.rules (idxT s.listens n) h p).1.toNat < s.rules.length := by
      unfold bestV at h2 ⊢
      split at h2
      · cases h2
      · rename_i h3
        rw [if_neg h3]
        simp only
        omega
    have hg : (s.rules.map encU4)[(bestV s.rules (idxT s.listens n) h p).1.toNat]? = some (encU4 (s.rules[(bestV s.rules (idxT s.listens n) h p).1.toNat]'hb2.2)) := by rw [List.getElem?_map, List.getElem?_eq_getElem hb2.2]; rfl
    rw [List.getElem?_eq_getElem hb2.2] at e
    rw [e]
    (conv=>whnf);(try(refine ⟨(rfl:(_:Heap)=_),?_⟩;(conv=>whnf)))
    refine ⟨hb2.1, _, hg, ?_⟩
    (conv=>whnf);(try(refine ⟨(rfl:(_:Heap)=_),?_⟩;(conv=>whnf)))
    exact ⟨.inl rfl, _, .refl _, rfl⟩
end Go.Sna
namespace Go.Sna
open Go.Ab Go.Proofs Go.Hy Go.Gat Go.Nam Go.Hos Go.Con
set_option linter.unusedVariables false
set_option linter.unusedSimpArgs false
set_option maxRecDepth 8000
set_option maxHeartbeats 2000000
def betR (a b : Rul) : Bool := betterV a.host a.path b.host b.path
def BestOk (l : List Rul) (n : Int) (h p : Str) (k : Nat) : Prop :=
  (bst l n h p k = -1 ∧ ∀ j r, j < k → l[j]? = some r → fitsV r n h p = false) ∨
  (∃ i b, bst l n h p k = (i : Nat) ∧ i < k ∧ l[i]? = some b ∧ fitsV b n h p = true ∧ (∀ j r, j < k → l[j]? = some r → fitsV r n h p = true → betR r b = false) ∧ (∀ j r, j < i → l[j]? = some r → fitsV r n h p = true → betR b r = true))
def beatV (l : List Rul) (b : Rul) (n : Int) (h p : Str) : Bool := l.any fun r => fitsV r n h p && betR r b
end Go.Sna
