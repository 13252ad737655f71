/- Strings, by the list of their bytes. -/
import Derived.Test.YtbndjpkncgfpiaaAbM
import Derived.ChangeKeysEq
import Derived.Laws.BytesArg
namespace Go.Ab
set_option linter.unusedVariables false

/-- A string of these bytes. -/
abbrev bs (l : List UInt8) : ByteArray := ⟨⟨l⟩⟩

theorem bs_data (s : ByteArray) : bs s.data.toList = s := by obtain ⟨⟨l⟩⟩ := s; rfl
theorem bs_toList (l : List UInt8) : (bs l).toList = l := by rw [ByteArray.toList_eq]
theorem bs_size (l : List UInt8) : (bs l).size = l.length := rfl
theorem bs_get (l : List UInt8) (n : Nat) : (bs l)[n]? = l[n]? := by
  have h : (bs l)[n]? = (bs l).data[n]? := by
    by_cases hn : n < l.length
    · rw [getElem?_pos (bs l) n hn, getElem?_pos (bs l).data n hn]; rfl
    · rw [getElem?_neg (bs l) n hn, getElem?_neg (bs l).data n hn]
  rw [h]
  simp
theorem bs_extract (l : List UInt8) (a b : Nat) : (bs l).extract a b = bs ((l.take b).drop a) := by
  apply ByteArray.ext
  rw [ByteArray.data_extract]
  apply Array.toList_inj.1
  simp [List.drop_take]
theorem bs_append (l m : List UInt8) : bs l ++ bs m = bs (l ++ m) := by
  apply ByteArray.ext
  simp

section
variable {P : Program} {o : Oper} {ρ : Operand → C} {H : Heap}

theorem val_v {E : Env} {x : Value} {y : Value} (h : L E (.v x) y) : y = x := by cases h; rfl

theorem OpV0.strIndex (t : TypeId) (x y : Operand) (ho : o.op = .index t x y) (ht : P.underlying t = some .string) {l : List UInt8} (hx : ρ x = .v (.string (bs l))) {k : IntKind} {n : Int} (hy : ρ y = .v (.int k n)) (h0 : 0 ≤ n)
    {c : UInt8} (hc : l[n.toNat]? = some c) : OpV0 P o ρ H (.v (.int .u8 c.toNat)) H := fun w E σ hh hl K hk => by
  have h1 := val_v (hx ▸ hl x (by simp [ho, Op.operands]))
  have h2 := val_v (hy ▸ hl y (by simp [ho, Op.operands]))
  have hr : (execOp σ o).run P w = .ok (.value (.int .u8 c.toNat)) w := by
    unfold execOp
    simp [ho, Instr.index, asIntOf, h1, h2, run_underlying ht, h0, bs_get, hc]
  rw [hr]
  exact hk _ w E hh (.v _ rfl) (Grow0.refl w E H)

theorem OpV0.strLen (cl : Call) (ho : o.op = .call cl) (hcl : cl.callee = .builtin .len) (x : Operand) (hx : cl.args = #[x]) {t : TypeId} (ht : cl.argTypes = #[t]) (hu : P.underlying t = some .string)
    {l : List UInt8} (hl0 : ρ x = .v (.string (bs l))) : OpV0 P o ρ H (.v (.int .i64 l.length)) H := fun w E σ hh hl K hk => by
  have h1 := val_v (hl0 ▸ hl x (by simp [ho, Op.operands, Call.operands, hcl, hx]))
  have hr : (execOp σ o).run P w = .ok (.value (.int .i64 l.length)) w := by
    unfold execOp
    simp [ho, resolve, hcl, hx, ht, invoke, builtin, Builtin.len_, h1, run_underlying hu, goInt, bs_size]
  rw [hr]
  exact hk _ w E hh (.v _ rfl) (Grow0.refl w E H)

theorem run_bounds2s {σ : Operand → Value} {len : Nat} {lo hi : Option Operand} {l h : Nat} (hl : ∀ y, lo = some y → ∃ k, σ y = .int k l) (hl0 : lo = none → l = 0) (hh : ∀ y, hi = some y → ∃ k, σ y = .int k h) (hh0 : hi = none → h = len)
    (h1 : l ≤ h) (h2 : h ≤ len) (w : World) : (Instr.sliceBounds false len len (lo.map σ) (hi.map σ) none).run P w = .ok (l, h, len) w := by
  unfold Instr.sliceBounds
  cases lo with
  | none =>
    obtain rfl := hl0 rfl
    cases hi with
    | none => obtain rfl := hh0 rfl; simp
    | some y => obtain ⟨k, e⟩ := hh y rfl; simp [e, run_sliceBound h2]
  | some x =>
    obtain ⟨k0, e0⟩ := hl x rfl
    cases hi with
    | none => obtain rfl := hh0 rfl; simp [e0, run_sliceBound h1]
    | some y => obtain ⟨k, e⟩ := hh y rfl; simp [e, e0, run_sliceBound h2, run_sliceBound h1]

theorem OpV0.strSlice (t : TypeId) (x : Operand) (lo hi : Option Operand) (ho : o.op = .slice t x lo hi none) (ht : P.underlying t = some .string) {b : List UInt8} (hx : ρ x = .v (.string (bs b)))
    {l h : Nat} (hl' : IsB ρ lo 0 l) (hh' : IsB ρ hi b.length h) (h1 : l ≤ h) (h2 : h ≤ b.length) : OpV0 P o ρ H (.v (.string (bs ((b.take h).drop l)))) H := fun w E σ hh hl K hk => by
  have h0 := val_v (hx ▸ hl x (by simp [ho, Op.operands]))
  obtain ⟨b1, b2⟩ := hl'.val (E := E) (σ := σ) (fun y e => hl y (by subst e; simp [ho, Op.operands]))
  obtain ⟨b3, b4⟩ := hh'.val (E := E) (σ := σ) (fun y e => hl y (by subst e; simp [ho, Op.operands]))
  have hr : (execOp σ o).run P w = .ok (.value (.string (bs ((b.take h).drop l)))) w := by
    unfold execOp
    have := run_bounds2s (P := P) b1 b2 b3 b4 h1 h2 w
    rw [← bs_size] at this
    simp [ho, Instr.sliceAt, run_underlying ht, Instr.slice, h0, this, bs_extract]
  rw [hr]
  exact hk _ w E hh (.v _ rfl) (Grow0.refl w E H)

theorem OpV0.strEq (op : BinOp) (t t' : TypeId) (x y : Operand) (ho : o.op = .binOp op t x y t') (hop : op = .eql ∨ op = .neq) {a b : List UInt8} (hx : ρ x = .v (.string (bs a))) (hy : ρ y = .v (.string (bs b))) :
    OpV0 P o ρ H (.v (.bool (if op = .eql then a == b else !(a == b)))) H := fun w E σ hh hl K hk => by
  have h1 := val_v (hx ▸ hl x (by simp [ho, Op.operands]))
  have h2 := val_v (hy ▸ hl y (by simp [ho, Op.operands]))
  have hr : (execOp σ o).run P w = .ok (.value (.bool (if op = .eql then a == b else !(a == b)))) w := by
    unfold execOp
    rcases hop with rfl | rfl <;> simp [ho, h1, h2, eqGuard, binOp, Op.stringOp]
  rw [hr]
  exact hk _ w E hh (.v _ rfl) (Grow0.refl w E H)

theorem OpV0.strAdd (t t' : TypeId) (x y : Operand) (ho : o.op = .binOp .add t x y t') {a b : List UInt8} (hx : ρ x = .v (.string (bs a))) (hy : ρ y = .v (.string (bs b))) (hm : a.length + b.length ≤ 9223372036854775807) :
    OpV0 P o ρ H (.v (.string (bs (a ++ b)))) H := fun w E σ hh hl K hk => by
  have h1 := val_v (hx ▸ hl x (by simp [ho, Op.operands]))
  have h2 := val_v (hy ▸ hl y (by simp [ho, Op.operands]))
  have hr : (execOp σ o).run P w = .ok (.value (.string (bs (a ++ b)))) w := by
    unfold execOp
    simp only [ho, h1, h2, Sem.run_bind]
    simp [eqGuard, binOp, Op.stringOp, bs_append]
    rw [bs_size, bs_size]
    omega
  rw [hr]
  exact hk _ w E hh (.v _ rfl) (Grow0.refl w E H)

/-- A row of bytes. -/
abbrev byteR (b : UInt8) : List C := [.v (.int .u8 (b.toNat : Int))]

/-- Bytes become a string. -/
theorem OpV0.convBytes (src dst : TypeId) (x : Operand) (ho : o.op = .convert src dst x) {e : TypeId} (hs : P.underlying src = some (.slice e)) (he : P.underlying e = some (.int .u8)) (hd : P.underlying dst = some .string) {bts : List UInt8} {fo : Nat}
    (hx : ρ x = .lst fo 1 (bts.map byteR)) : OpV0 P o ρ H (.v (.string (bs bts))) H := fun w E σ hh hl K hk => by
  have h0 := hl x (by simp [ho, Op.operands])
  have key : (convert src dst (σ x)).run P w = .ok (.string (bs bts)) w := by
    rw [hx] at h0
    generalize σ x = y at h0
    generalize hc : C.lst fo 1 (bts.map byteR) = c at h0
    cases h0 with
    | lst o' sz rows b off cap us ho' hcap hsz hst hL =>
      cases hc
      have hlen : (bts.map byteR).length = bts.length := List.length_map ..
      rw [hlen]
      have := run_convert_bytes_arg (P := P) w src e hs he b off bts.length cap (bts.map fun b => (b.toNat : Int)) (by simp) (fun i hi => by
        have hr : (bts.map byteR)[i]? = some (byteR bts[i]) := by simp [hi]
        have h1 := hst i _ 0 _ hr rfl
        have h2 := val_v (hL i _ 0 _ hr rfl)
        rw [h2] at h1
        have h3 := (hh.stable _ _ _ h1).1
        have e1 : off + i * 1 + 0 = off + i := by omega
        rw [e1] at h3
        rw [h3]
        simp [List.getD, hi]) dst hd
      rw [this]
      congr 2
      apply ByteArray.ext
      apply Array.toList_inj.1
      rw [strOfNums_data, List.map_map]
      have e2 : ((fun n : Int => UInt8.ofNat n.toNat) ∘ fun b : UInt8 => (b.toNat : Int)) = id := by funext b; simp
      rw [e2, List.map_id]
    | lnil o' sz ho' a =>
      have hb : bts = [] := by
        have : (bts.map byteR) = [] := by injection hc
        simpa using this
      subst hb
      cases a with
      | none => exact run_convert_bytes_nil w src e hs he 0 0 dst hd
      | some a =>
        rw [run_convert_bytes_string w src dst e _ 0 0 hs he hd, run_bytesToString w _ 0 0 [] (by simp [loadCells]; rfl)]
        rfl
    | _ => cases hc
  have hr : (execOp σ o).run P w = .ok (.value (.string (bs bts))) w := by
    unfold execOp
    simp [ho, key]
  rw [hr]
  exact hk _ w E hh (.v _ rfl) (Grow0.refl w E H)

end
end Go.Ab
