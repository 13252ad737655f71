import Derived.Test.YtdbcjcnfaajpjaaGreatRD
import Derived.Test.YtdbcjcnfaajpjaaGreatRC
import Derived.Test.YtdbcjcnfaajpjaaGreatRJ
import Derived.Test.YtdbcjcnfaajpjaaGreatProg
namespace Go.Gat
open Go.Ab Go.Proofs Go.Hy
set_option linter.unusedVariables false
set_option maxRecDepth 8000
abbrev Li (l : Lis) : C := .agg (encL l)
abbrev tB (r : Lis × Bool) : C := .tup [Li r.1, Bo r.2]
abbrev tE (r : Lis × Int) : C := .tup [Li r.1, I r.2]
def openV (l : Lis) : Bool := !l.drain && decide (l.active < 9223372036854775807)
def endsV (l : Lis) : Bool := l.drain && (l.active == 0) && !l.closed
def enterV (l : Lis) : Lis × Bool := if openV l then (⟨l.name, l.drain, l.active + 1, l.closed⟩, true) else (l, false)
def leaveV (l : Lis) : Lis × Int := if l.active < 1 then (⟨[], false, 0, false⟩, 5) else (⟨l.name, l.drain, l.active - 1, l.closed⟩, 0)
def drainV (l : Lis) : Lis := ⟨l.name, true, l.active, l.closed⟩
def closeV (l : Lis) : Lis × Bool := (⟨l.name, l.drain, l.active, l.closed || endsV l⟩, endsV l)
def isV (l : Lis) : Bool := nameV l.name && decide (0 ≤ l.active) && (l.drain || !l.closed)
theorem is_sound (l : Lis) (hl : l.ok) : SoundAt Tryz.prog 40 [] [Li l] (Bo (isV l)) [] := by
  refine SoundAt.of_wpA1 (fn := Tryz.f40) Tryz.func40 rfl ?_
  conv => whnf
  refine ⟨_, _, (name_sound l.name (by have := hl.1; unfold reachBytes at this; omega)).frame rfl _, ?_⟩; (conv=>whnf);(try(refine ⟨(rfl:(_:Heap)=_),?_⟩;(conv=>whnf)))
  (repeat' (first | (refine ⟨fun _ => ?_, fun _ => ?_⟩ <;> (conv => whnf)) | fail))
  all_goals (exact ⟨.inl rfl, _, .refl _, congrArg (fun b => some (C.v (Value.bool b))) (by simp_all [isV] <;> (intros; omega))⟩)
end Go.Gat
namespace Go.Gat
open Go.Ab Go.Proofs Go.Hy
set_option linter.unusedVariables false
set_option maxRecDepth 8000
theorem same_name (s : Str) (l : Lis) : SoundAt Tryz.prog 58 [⟨1, 9, 1, [[Tx s]], 0⟩] [Li l, .ref 0 [] 1 0 0] (Bo (l.name == s)) [⟨1, 9, 1, [[Tx s]], 0⟩] := by
  refine SoundAt.of_wpA (fn := Tryz.f58) Tryz.func58 rfl ?_
  conv => whnf
  refine ⟨fun h => ?_, fun h => ?_⟩ <;> rw [h]
  · conv => whnf
    exact ⟨.inl rfl, _, Weak.keep [3] 1 _ _ rfl rfl rfl rfl, rfl, rfl⟩
  · conv => whnf
    exact ⟨.inl rfl, _, Weak.keep [3] 1 _ _ rfl rfl rfl rfl, rfl, rfl⟩
theorem idxL_sound {H : Heap} {f : FuncId} {caps : List C} {l : List Lis} (p : Lis → Bool) (hcb : callable Tryz.prog f = true) (hp : ∀ r, SoundAt Tryz.prog f H ([Li r] ++ caps) (Bo (p r)) H) (hl : l.length < 4611686018427387904) :
    SoundAt Tryz.prog 57 H [lL l, .fn f [] caps] (I (match l.findIdx? p with | some i => (i : Int) | none => -1)) H := by
  refine SoundAt.of_wpA (fn := Tryz.f57) Tryz.func57 rfl ?_
  conv => whnf
  refine Loops.inv (fun n t1 H1 => ∃ k, k + n = l.length ∧ H1 = H ∧ (∀ j, j < k → ∀ r, l[j]? = some r → p r = false) ∧
     t1 = [lL l, .fn f [] caps, .junk, .junk, I 0, .junk, .junk, I (l.map encL).length, I k, .junk, .junk, .junk, .junk, .junk, .junk, .junk, .junk, .junk, .junk]) l.length ?_ ?_
  · exact ⟨_, _, Weak.mask [0, 1, 4, 7, 8] _ _, 0, by simp, rfl, by simp, rfl⟩
  rintro n _ _ ⟨k, hk, rfl, hno, rfl⟩
  conv => whnf
  refine ⟨fun h => ?_, fun h => ?_⟩
  · conv => whnf
    have hlt : k < l.length := by simpa using h
    refine ⟨by omega, encL l[k], by simp [hlt], ?_⟩
    conv => whnf
    rw [hcb]
    refine ⟨_, _, hp _, ?_⟩
    conv => whnf
    refine ⟨fun h2 => ?_, fun h2 => ?_⟩
    · conv => whnf
      refine .inr ⟨by simp, ?_⟩
      conv => whnf
      refine ⟨.inl rfl, _, .refl _, rfl, ?_⟩
      have : l.findIdx? p = some k := by
        rw [List.findIdx?_eq_some_iff_getElem]
        refine ⟨hlt, h2, fun j hj => ?_⟩
        simp [hno j hj _ (List.getElem?_eq_getElem (by omega))]
      rw [this]
      rfl
    · conv => whnf
      refine .inl ⟨rfl, n - 1, _, _, by omega, Weak.mask [0, 1, 4, 7, 8] _ _, k + 1, by omega, rfl, ?_, ?_⟩
      · intro j hj r hr
        by_cases hjk : j = k
        · subst hjk
          rw [List.getElem?_eq_getElem hlt] at hr
          cases hr
          exact h2
        · exact hno j (by omega) r hr
      · rw [i64_nat (by omega)]; rfl
  · conv => whnf
    refine .inr ⟨by simp, ?_⟩
    conv => whnf
    refine ⟨.inl rfl, _, .refl _, rfl, ?_⟩
    have : l.findIdx? p = none := by
      rw [List.findIdx?_eq_none_iff]
      intro x hx
      obtain ⟨j, hj⟩ := List.mem_iff_getElem?.1 hx
      have hjl := (List.getElem?_eq_some_iff.1 hj).1
      have : ¬ k < l.length := by simpa using h
      exact hno j (by omega) x hj
    rw [this]
    rfl
def placeV (l : List Lis) (s : Str) : Int := match l.findIdx? (fun r => r.name == s) with | some i => (i : Int) | none => -1
theorem place_sound (l : List Lis) (s : Str) (hl : l.length < 4611686018427387904) : SoundAt Tryz.prog 41 [] [lL l, Tx s] (I (placeV l s)) [] := by
  refine SoundAt.of_wpA1 (fn := Tryz.f41) Tryz.func41 rfl ?_
  conv => whnf
  refine ⟨_, _, idxL_sound (fun r => r.name == s) rfl (fun r => same_name s r) hl, ?_⟩
  conv => whnf
  exact ⟨.inl rfl, _, .refl _, rfl⟩
end Go.Gat
namespace Go.Lim
open Go.Ab Go.Proofs Go.Hy
set_option linter.unusedVariables false
set_option maxRecDepth 4000
theorem f60_sound (v : Int) (r : Ret) : SoundAt Tryz.prog 71 [⟨1, 3, 1, [[I v]], 0⟩] [.agg (encR r), .ref 0 [] 1 0 0] (Bo (r.version == v)) [⟨1, 3, 1, [[I v]], 0⟩] := by
  refine SoundAt.of_wpA (fn := Tryz.f71) Tryz.func71 rfl ?_
  conv => whnf
  refine ⟨fun h => ?_, fun h => ?_⟩ <;> rw [h]
  · conv => whnf
    exact ⟨.inl rfl, _, Weak.keep [3] 1 _ _ rfl rfl rfl rfl, rfl, rfl⟩
  · conv => whnf
    exact ⟨.inl rfl, _, Weak.keep [3] 1 _ _ rfl rfl rfl rfl, rfl, rfl⟩
theorem idx_sound {H : Heap} {f : FuncId} {caps : List C} {l : List Ret} (p : Ret → Bool) (hcb : callable Tryz.prog f = true) (hp : ∀ r, SoundAt Tryz.prog f H ([.agg (encR r)] ++ caps) (Bo (p r)) H) (hl : l.length < 4611686018427387904) :
    SoundAt Tryz.prog 104 H [lR l, .fn f [] caps] (I (match l.findIdx? p with | some i => (i : Int) | none => -1)) H := by
  refine SoundAt.of_wpA (fn := Tryz.f104) Tryz.func104 rfl ?_
  conv => whnf
  refine Loops.inv (fun n t1 H1 => ∃ k, k + n = l.length ∧ H1 = H ∧ (∀ j, j < k → ∀ r, l[j]? = some r → p r = false) ∧
     t1 = [lR l, .fn f [] caps, .junk, .junk, I 0, .junk, .junk, I (l.map encR).length, I k, .junk, .junk, .junk, .junk, .junk, .junk, .junk, .junk, .junk, .junk]) l.length ?_ ?_
  · exact ⟨_, _, Weak.mask [0, 1, 4, 7, 8] _ _, 0, by simp, rfl, by simp, rfl⟩
  rintro n _ _ ⟨k, hk, rfl, hno, rfl⟩
  conv => whnf
  refine ⟨fun h => ?_, fun h => ?_⟩
  · conv => whnf
    have hlt : k < l.length := by simpa using h
    refine ⟨by omega, encR l[k], by simp [hlt], ?_⟩
    conv => whnf
    rw [hcb]
    refine ⟨_, _, hp _, ?_⟩
    conv => whnf
    refine ⟨fun h2 => ?_, fun h2 => ?_⟩
    · conv => whnf
      refine .inr ⟨by simp, ?_⟩
      conv => whnf
      refine ⟨.inl rfl, _, .refl _, rfl, ?_⟩
      have : l.findIdx? p = some k := by
        rw [List.findIdx?_eq_some_iff_getElem]
        refine ⟨hlt, h2, fun j hj => ?_⟩
        simp [hno j hj _ (List.getElem?_eq_getElem (by omega))]
      rw [this]
      rfl
    · conv => whnf
      refine .inl ⟨rfl, n - 1, _, _, by omega, Weak.mask [0, 1, 4, 7, 8] _ _, k + 1, by omega, rfl, ?_, ?_⟩
      · intro j hj r hr
        by_cases hjk : j = k
        · subst hjk
          rw [List.getElem?_eq_getElem hlt] at hr
          cases hr
          exact h2
        · exact hno j (by omega) r hr
      · rw [i64_nat (by omega)]; rfl
  · conv => whnf
    refine .inr ⟨by simp, ?_⟩
    conv => whnf
    refine ⟨.inl rfl, _, .refl _, rfl, ?_⟩
    have : l.findIdx? p = none := by
      rw [List.findIdx?_eq_none_iff]
      intro x hx
      obtain ⟨j, hj⟩ := List.mem_iff_getElem?.1 hx
      have hjl := (List.getElem?_eq_some_iff.1 hj).1
      have : ¬ k < l.length := by simpa using h
      exact hno j (by omega) x hj
    rw [this]
    rfl
theorem con_sound {H : Heap} {f : FuncId} {caps : List C} {l : List Ret} (p : Ret → Bool) (hcb : callable Tryz.prog f = true) (hp : ∀ r, SoundAt Tryz.prog f H ([.agg (encR r)] ++ caps) (Bo (p r)) H) (hl : l.length < 4611686018427387904) :
    SoundAt Tryz.prog 70 H [lR l, .fn f [] caps] (Bo (l.any p)) H := by
  refine SoundAt.of_wpA (fn := Tryz.f70) Tryz.func70 rfl ?_
  conv => whnf
  refine ⟨_, _, idx_sound p hcb hp hl, ?_⟩
  conv => whnf
  have e : (match l.findIdx? p with | some i => (i : Int) | none => -1) ≥ 0 ↔ l.any p = true := by
    cases h : l.findIdx? p with
    | none =>
      rw [List.findIdx?_eq_none_iff] at h
      simp
      intro x hx
      simp [h x hx]
    | some i =>
      rw [List.findIdx?_eq_some_iff_getElem] at h
      obtain ⟨h1, h2, _⟩ := h
      simp
      exact ⟨_, List.getElem_mem h1, h2⟩
  refine ⟨fun h => ?_, fun h => ?_⟩
  · conv => whnf
    refine ⟨.inl rfl, _, .refl _, rfl, ?_⟩
    rw [e.1 (by simpa using h)]
    rfl
  · conv => whnf
    refine ⟨.inl rfl, _, .refl _, rfl, ?_⟩
    have : l.any p = false := by
      rw [Bool.eq_false_iff]
      intro h2
      have := e.2 h2
      simp at h
      omega
    rw [this]
    rfl
def hasV (l : List Ret) (v : Int) : Bool := l.any (·.version == v)
theorem has_sound {l : List Ret} {v : Int} (hl : l.length < 4611686018427387904) : SoundAt Tryz.prog 52 [] [lR l, I v] (Bo (hasV l v)) [] := by
  refine SoundAt.of_wpA0 (fn := Tryz.f52) Tryz.func52 rfl ?_ rfl
  conv => whnf
  refine ⟨_, _, con_sound (fun r => r.version == v) rfl (fun r => f60_sound v r) hl, ?_⟩
  conv => whnf
  refine ⟨fun h => ?_, fun h => ?_⟩
  · conv => whnf
    refine ⟨.inl rfl, _, .refl _, ?_⟩
    unfold hasV
    rw [h]
    rfl
  · conv => whnf
    refine ⟨.inl rfl, _, .refl _, ?_⟩
    unfold hasV
    rw [h]
    rfl
end Go.Lim
namespace Go.Lim
open Go.Ab Go.Proofs Go.Hy
set_option linter.unusedVariables false
set_option maxRecDepth 4000
def okV (l : List Ret) (i : Nat) (r : Ret) : Bool := !(decide (r.version < 0)) && !(decide (r.at_ < 0)) && !(hasV (l.take i) r.version)
def isV (l : List Ret) : Bool := decide (∀ i, (h : i < l.length) → okV l i l[i] = true)
theorem isV_false {l : List Ret} {k : Nat} (hk : k < l.length) (h : okV l k l[k] = false) : isV l = false := by
  unfold isV
  rw [decide_eq_false_iff_not]
  intro h2
  rw [h2 k hk] at h
  cases h
theorem is_sound {l : List Ret} (hl : l.length < 4611686018427387904) : SoundAt Tryz.prog 38 [] [lR l] (Bo (isV l)) [] := by
  refine SoundAt.of_wpA0 (fn := Tryz.f38) Tryz.func38 rfl ?_ rfl
  conv => whnf
  refine Loops.inv (fun n t1 H1 => ∃ k, k + n = l.length ∧ H1 = [] ∧ (∀ j, j < k → (h : j < l.length) → okV l j l[j] = true) ∧
     t1 = [lR l, .junk, Bo false, .junk, .junk, lR l, I (l.map encR).length, I k, .junk, .junk, .junk, .junk, .junk, .junk, .junk, .junk, .junk, .junk, .junk, .junk, .junk, .junk, .junk, .junk, .junk, .junk, .junk, .junk, .junk]) l.length ?_ ?_
  · exact ⟨_, _, Weak.mask [0, 2, 5, 6, 7] _ _, 0, by simp, rfl, by simp, rfl⟩
  rintro n _ _ ⟨k, hk, rfl, hno, rfl⟩
  conv => whnf
  refine ⟨fun h => ?_, fun h => ?_⟩
  · conv => whnf
    have hlt : k < l.length := by simpa using h
    refine ⟨by omega, encR l[k], by simp [hlt], ?_⟩
    conv => whnf
    have no : okV l k l[k] = false → isV l = false := isV_false hlt
    refine .inl ⟨⟨false, [], [], []⟩, by kernel_rfl, ?_⟩; (conv => whnf)
    (conv=>whnf);(try(refine ⟨(rfl:(_:Heap)=_),?_⟩;(conv=>whnf)))
    refine ⟨fun h1 => ?_, fun h1 => ?_⟩
    · (conv=>whnf);(try(refine ⟨(rfl:(_:Heap)=_),?_⟩;(conv=>whnf)))
      refine .inr ⟨by simp, ?_⟩
      conv => whnf
      exact ⟨.inl rfl, _, .refl _, by rw [no (by simp [okV, h1])]; rfl⟩
    · (conv=>whnf);(try(refine ⟨(rfl:(_:Heap)=_),?_⟩;(conv=>whnf)))
      refine ⟨fun h2 => ?_, fun h2 => ?_⟩
      · (conv=>whnf);(try(refine ⟨(rfl:(_:Heap)=_),?_⟩;(conv=>whnf)))
        refine .inr ⟨by simp, ?_⟩
        conv => whnf
        exact ⟨.inl rfl, _, .refl _, by rw [no (by simp [okV, h2])]; rfl⟩
      · (conv=>whnf);(try(refine ⟨(rfl:(_:Heap)=_),?_⟩;(conv=>whnf)))
        refine ⟨.inr rfl, ?_⟩
        conv => whnf
        refine ⟨by omega, by omega, by simp; omega, ?_⟩
        (conv=>whnf);(try(refine ⟨(rfl:(_:Heap)=_),?_⟩;(conv=>whnf)))
        have e : ((l.map encR).drop 0).take ((k : Int).toNat - 0) = (l.take k).map encR := by simp [List.map_take]
        rw [e]
        refine ⟨_, _, (has_sound (l := l.take k) (v := l[k].version) (by simp; omega)).frame rfl _, ?_⟩
        conv => whnf
        refine ⟨fun h3 => ?_, fun h3 => ?_⟩
        · (conv=>whnf);(try(refine ⟨(rfl:(_:Heap)=_),?_⟩;(conv=>whnf)))
          refine .inr ⟨by simp, ?_⟩
          conv => whnf
          exact ⟨.inl rfl, _, .refl _, by rw [no (by simp [okV, h3])]; rfl⟩
        · (conv=>whnf);(try(refine ⟨(rfl:(_:Heap)=_),?_⟩;(conv=>whnf)))
          refine .inl ⟨rfl, n - 1, _, _, by omega, Weak.keep [0, 2, 5, 6, 7] 0 _ _ rfl rfl rfl rfl, k + 1, by omega, rfl, ?_, ?_⟩
          · intro j hj hjl
            by_cases hjk : j = k
            · subst hjk
              simp [okV, h1, h2, h3]
            · exact hno j (by omega) hjl
          · rw [i64_nat (by omega)]; rfl
  · conv => whnf
    refine .inr ⟨by simp, ?_⟩
    conv => whnf
    refine ⟨.inl rfl, _, .refl _, ?_⟩
    have : isV l = true := by
      unfold isV
      rw [decide_eq_true_iff]
      intro i hi
      have : ¬ k < l.length := by simpa using h
      exact hno i (by omega) hi
    rw [this]
    rfl
end Go.Lim
namespace Go.Lim
open Go.Ab Go.Proofs Go.Hy
set_option linter.unusedVariables false
set_option maxRecDepth 4000
def safeV (a now : Int) : Bool := decide (a ≤ 9223372036854775805) && decide (a + 2 ≤ now)
def dueQ (l : List Ret) (now : Int) (i : Nat) : Bool := match l[i]? with
  | some r => !r.gone && safeV r.at_ now
  | none => false
def dueV (l : List Ret) (now : Int) : List Nat := (List.range l.length).filter (dueQ l now)
def encN (i : Nat) : List C := [I i]
end Go.Lim
