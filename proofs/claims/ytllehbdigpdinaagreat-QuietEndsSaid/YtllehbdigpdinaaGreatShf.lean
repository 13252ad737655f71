/-
  DERIVED: THE SHELF's CONTRACTS AT THIS DUMP, IN PLAIN WORDS (tools/lay-plain.mjs out of 'TryzShelf.lean', which tools/lay-shelf.mjs wrote): THE SAME DECLARATIONS UNDER THE SAME NAMES: 'import', 'namespace', 'open', 'def', 'theorem' AND NOTHING ELSE: no command of the shelf's: FOR A HAND-IN. Each laying: the table of numbers ('.._ren') and one theorem, a field a fact of the dump's own or the kernel's comparison; each contract: ONE APPLICATION.
-/
import Derived.Shelf.Small.Strs
import Derived.Shelf.Strings.Search1
import Derived.Shelf.Sort.Plain
import Derived.Ground.Names2Prog
import Derived.Shelf.Slices.Delete
import Derived.Shelf.Slices.In.SortNone
import Derived.Test.YtllehbdigpdinaaGreatProg
namespace Go.Proofs
open Go.Shelf
def Tryz.lays137_ren : Go.Shelf.Ren := ⟨fun | 137 => 253 | 217 => 258 | 266 => 260 | n => n, fun | 9 => 9 | 5 => 5 | 3 => 3 | n => n, fun | n => n⟩
theorem Tryz.lays137 : Go.Proofs.Lays.n137 Tryz.prog Tryz.lays137_ren := {
  mixed := by kernel_rfl
  f137 := Tryz.func253.trans (congrArg some (by kernel_rfl))
  f217 := Tryz.func258.trans (congrArg some (by kernel_rfl))
  f266 := Tryz.func260.trans (congrArg some (by kernel_rfl))
  t3 := Tryz.underlying3
  a3 := Tryz.isAgg3
  z3 := Tryz.sizeOf3
  v3 := Tryz.zeroValue3
  t5 := Tryz.underlying5
  a5 := Tryz.isAgg5
  z5 := Tryz.sizeOf5
  v5 := Tryz.zeroValue5
  t9 := Tryz.underlying9
  a9 := Tryz.isAgg9
  z9 := Tryz.sizeOf9
  v9 := Tryz.zeroValue9 }
open Go.RowKit in
/-- strings.IndexByte: "IndexByte returns the index of the first instance of c in s, or -1 if c is not present in s.": IT RETURNS 'Lib.indexByte s c'; the world is as it was. (LAID: no walk: one application.) -/
theorem Tryz.strings_IndexByte (s : ByteArray) (c : Int) (w : World) :
    Calls Tryz.prog 253 #[.string s, .int .u8 c] w fun e w' => e = .returned (.int .i64 (Lib.indexByte s.data.toList c.toNat.toUInt8)) ∧ w' = w := Any.strings_IndexByte Tryz.lays137 s c w
def Tryz.lays217_ren : Go.Shelf.Ren := ⟨fun | 217 => 258 | 266 => 260 | n => n, fun | 9 => 9 | 5 => 5 | 3 => 3 | n => n, fun | n => n⟩
theorem Tryz.lays217 : Go.Proofs.Lays.n217 Tryz.prog Tryz.lays217_ren := {
  mixed := by kernel_rfl
  f217 := Tryz.func258.trans (congrArg some (by kernel_rfl))
  f266 := Tryz.func260.trans (congrArg some (by kernel_rfl))
  t3 := Tryz.underlying3
  a3 := Tryz.isAgg3
  z3 := Tryz.sizeOf3
  v3 := Tryz.zeroValue3
  t5 := Tryz.underlying5
  a5 := Tryz.isAgg5
  z5 := Tryz.sizeOf5
  v5 := Tryz.zeroValue5
  t9 := Tryz.underlying9
  a9 := Tryz.isAgg9
  z9 := Tryz.sizeOf9
  v9 := Tryz.zeroValue9 }
open Go.RowKit Go.Lib in
/-- internal/stringslite.IndexByte (what strings.IndexByte calls): IT RETURNS 'Lib.indexByte s c'; the world is as it was. (LAID: no walk: one application.) -/
theorem Tryz.stringslite_IndexByte (s : ByteArray) (c : Int) (w : World) :
    Calls Tryz.prog 258 #[.string s, .int .u8 c] w fun e w' => e = .returned (.int .i64 (Lib.indexByte s.data.toList c.toNat.toUInt8)) ∧ w' = w := Any.stringslite_IndexByte Tryz.lays217 s c w
def Tryz.lays189_ren : Go.Shelf.Ren := ⟨fun | 189 => 32 | 125 => 58 | 257 => 57 | 128 => 107 | 129 => 108 | 294 => 98 | 295 => 99 | 296 => 100 | 297 => 101 | 298 => 102 | 299 => 103 | 216 => 104 | 300 => 105 | 301 => 106 | 328 => 146 | 329 => 147 | 330 => 148 | 331 => 149 | 332 => 150 | 215 => 151 | 343 => 188 | n => n, fun | 28 => 28 | 3 => 3 | 46 => 151 | 0 => 0 | 51 => 210 | 53 => 63 | 4 => 4 | 183 => 203 | 182 => 202 | 131 => 43 | 5 => 5 | 9 => 9 | 218 => 242 | 222 => 246 | 228 => 283 | 229 => 284 | n => n, fun | n => n⟩
theorem Tryz.lays189 : Go.Proofs.Lays.n189 Tryz.prog Tryz.lays189_ren := {
  mixed := by kernel_rfl
  f125 := Tryz.func58.trans (congrArg some (by kernel_rfl))
  f128 := Tryz.func107.trans (congrArg some (by kernel_rfl))
  f129 := Tryz.func108.trans (congrArg some (by kernel_rfl))
  f189 := Tryz.func32.trans (congrArg some (by kernel_rfl))
  f215 := Tryz.func151.trans (congrArg some (by kernel_rfl))
  f216 := Tryz.func104.trans (congrArg some (by kernel_rfl))
  f257 := Tryz.func57.trans (congrArg some (by kernel_rfl))
  f294 := Tryz.func98.trans (congrArg some (by kernel_rfl))
  f295 := Tryz.func99.trans (congrArg some (by kernel_rfl))
  f296 := Tryz.func100.trans (congrArg some (by kernel_rfl))
  f297 := Tryz.func101.trans (congrArg some (by kernel_rfl))
  f298 := Tryz.func102.trans (congrArg some (by kernel_rfl))
  f299 := Tryz.func103.trans (congrArg some (by kernel_rfl))
  f300 := Tryz.func105.trans (congrArg some (by kernel_rfl))
  f301 := Tryz.func106.trans (congrArg some (by kernel_rfl))
  f328 := Tryz.func146.trans (congrArg some (by kernel_rfl))
  f329 := Tryz.func147.trans (congrArg some (by kernel_rfl))
  f330 := Tryz.func148.trans (congrArg some (by kernel_rfl))
  f331 := Tryz.func149.trans (congrArg some (by kernel_rfl))
  f332 := Tryz.func150.trans (congrArg some (by kernel_rfl))
  f343 := Tryz.func188.trans (congrArg some (by kernel_rfl))
  t0 := Tryz.underlying0
  a0 := Tryz.isAgg0
  z0 := Tryz.sizeOf0
  v0 := Tryz.zeroValue0
  t3 := Tryz.underlying3
  a3 := Tryz.isAgg3
  z3 := Tryz.sizeOf3
  v3 := Tryz.zeroValue3
  t4 := Tryz.underlying4
  a4 := Tryz.isAgg4
  z4 := Tryz.sizeOf4
  v4 := Tryz.zeroValue4
  t5 := Tryz.underlying5
  a5 := Tryz.isAgg5
  z5 := Tryz.sizeOf5
  v5 := Tryz.zeroValue5
  t9 := Tryz.underlying9
  a9 := Tryz.isAgg9
  z9 := Tryz.sizeOf9
  v9 := Tryz.zeroValue9
  t28 := Tryz.underlying28
  a28 := Tryz.isAgg28
  z28 := Tryz.sizeOf28
  v28 := Tryz.zeroValue28
  t46 := Tryz.underlying151
  a46 := Tryz.isAgg151
  z46 := Tryz.sizeOf151
  v46 := Tryz.zeroValue151
  t51 := Tryz.underlying210
  a51 := Tryz.isAgg210
  z51 := Tryz.sizeOf210
  v51 := Tryz.zeroValue210
  t53 := Tryz.underlying63
  a53 := Tryz.isAgg63
  z53 := Tryz.sizeOf63
  v53 := Tryz.zeroValue63
  t131 := Tryz.underlying43
  a131 := Tryz.isAgg43
  z131 := Tryz.sizeOf43
  v131 := Tryz.zeroValue43
  t182 := Tryz.underlying202
  a182 := Tryz.isAgg202
  z182 := Tryz.sizeOf202
  v182 := Tryz.zeroValue202
  t183 := Tryz.underlying203
  a183 := Tryz.isAgg203
  z183 := Tryz.sizeOf203
  v183 := Tryz.zeroValue203
  t218 := Tryz.underlying242
  a218 := Tryz.isAgg242
  z218 := Tryz.sizeOf242
  v218 := Tryz.zeroValue242
  t222 := Tryz.underlying246
  a222 := Tryz.isAgg246
  z222 := Tryz.sizeOf246
  v222 := Tryz.zeroValue246
  t228 := Tryz.underlying283
  a228 := Tryz.isAgg283
  z228 := Tryz.sizeOf283
  v228 := Tryz.zeroValue283
  t229 := Tryz.underlying284
  a229 := Tryz.isAgg284
  z229 := Tryz.sizeOf284
  v229 := Tryz.zeroValue284 }
open Go.Sort Go.RowKit in
theorem Tryz.slices_Sort_int (blk off cap : Nat) (zs : List Int) (w : World) (hH : Holds (Value.int .i64) w blk off zs.toArray) (hblk : blk < w.heap.size) (hsz : zs.length < 4611686018427387904) :
    Calls Tryz.prog 32 #[.slice (some ⟨blk, off, none⟩) zs.length cap] w fun e w' =>
      e = .returned (.tuple #[]) ∧ ∃ n os, w' = grow (putRow (Value.int .i64) (Sort.ahead w n) blk off (zs.mergeSort fun x y => decide (x ≤ y)).toArray) os := Any.slices_Sort_int Tryz.lays189 blk off cap zs w hH hblk hsz
def Tryz.laysNm223_ren : Go.Shelf.Ren := ⟨fun | 23 => 61 | n => n, fun | 22 => 28 | 3 => 3 | 4 => 4 | 0 => 0 | n => n, fun | n => n⟩
theorem Tryz.laysNm223 : Go.Proofs.Lays2.n23 Tryz.prog Tryz.laysNm223_ren := {
  mixed := by kernel_rfl
  f23 := Tryz.func61.trans (congrArg some (by kernel_rfl))
  t0 := Tryz.underlying0
  a0 := Tryz.isAgg0
  z0 := Tryz.sizeOf0
  v0 := Tryz.zeroValue0
  t3 := Tryz.underlying3
  a3 := Tryz.isAgg3
  z3 := Tryz.sizeOf3
  v3 := Tryz.zeroValue3
  t4 := Tryz.underlying4
  a4 := Tryz.isAgg4
  z4 := Tryz.sizeOf4
  v4 := Tryz.zeroValue4
  t22 := Tryz.underlying28
  a22 := Tryz.isAgg28
  z22 := Tryz.sizeOf28
  v22 := Tryz.zeroValue28
  i3 := by kernel_rfl }
open Go.RowKit Go.Lib Go.Sort in
/-- slices.Delete at []int, over an array. (LAID: no walk: one application.) -/
theorem Tryz.slices_Delete_int_arr (blk off cap i j : Nat) (d : Array Int) (w : World) (hH : Holds encI w blk off d) (hcap : d.size ≤ cap) (hm : cap ≤ 9223372036854775807) (hij : i ≤ j) (hj : j ≤ d.size) :
    Calls Tryz.prog 61 #[.slice (some ⟨blk, off, none⟩) d.size cap, .int .i64 i, .int .i64 j] w fun e w' => e = .returned (.slice (some ⟨blk, off, none⟩) (d.size - (j - i)) cap) ∧ ∃ q, w' = putRow encI (Sort.ahead w q) blk off (d.toList.take i ++ d.toList.drop j ++ List.replicate (j - i) 0).toArray := Any.slices_Delete_int_arr Tryz.laysNm223 blk off cap i j d w hH hcap hm hij hj
open Go.RowKit Go.Lib Go.Sort in
/-- slices.Delete at []int: "Delete modifies s in place by removing the elements s[i:j], and returns the modified slice. Delete panics if j > len(s) or s[i:j] is not a valid slice of s. Delete is O(len(s)-i), so if many items must be deleted, it is better to make a single call deleting them all together than to delete one at a time. Delete zeroes the elements s[len(s)-(j-i):len(s)]. If the result is empty, it has the same nilness as s.": FOR i ≤ j ≤ len(s) IT RETURNS THE SLICE CUT TO len(s) - (j - i) ELEMENTS; ITS CELLS HOLD what stood ahead of i, what stood from j on, then j - i zero values; all else is as it was, but for the count of draws. IN THE WORDS OF slices.Sort's CONTRACT ('Holds', 'putRow'). It asks 'zs.length ≤ cap ≤ 2^63 - 1' (every slice's). (Outside i ≤ j ≤ len(s) it panics: no contract here.) (LAID: no walk: one application.) -/
theorem Tryz.slices_Delete_int (blk off cap i j : Nat) (zs : List Int) (w : World) (hH : Holds (Value.int .i64) w blk off zs.toArray) (hcap : zs.length ≤ cap) (hm : cap ≤ 9223372036854775807) (hij : i ≤ j) (hj : j ≤ zs.length) :
    Calls Tryz.prog 61 #[.slice (some ⟨blk, off, none⟩) zs.length cap, .int .i64 i, .int .i64 j] w fun e w' => e = .returned (.slice (some ⟨blk, off, none⟩) (zs.length - (j - i)) cap) ∧ ∃ q, w' = putRow (Value.int .i64) (Sort.ahead w q) blk off (zs.take i ++ zs.drop j ++ List.replicate (j - i) 0).toArray := Any.slices_Delete_int Tryz.laysNm223 blk off cap i j zs w hH hcap hm hij hj
open Go.RowKit Go.Sort in
/-- .. and plain. (LAID: no walk: one application.) -/
theorem Tryz.slices_Sort_int_none (p : Option Addr) (cap : Nat) (w : World) :
    Calls Tryz.prog 32 #[.slice p 0 cap] w fun e w' => e = .returned (.tuple #[]) ∧ w' = w := Any.slices_Sort_int_none Tryz.lays189 p cap w
end Go.Proofs
