/-
  DERIVED: THE SHELF's CONTRACTS AT THIS DUMP, IN PLAIN WORDS (tools/lay-plain.mjs out of 'TrydShelf.lean', which tools/lay-shelf.mjs wrote): THE SAME DECLARATIONS UNDER THE SAME NAMES: 'import', 'namespace', 'open', 'def', 'theorem' AND NOTHING ELSE: no command of the shelf's: FOR A HAND-IN. Each laying: the table of numbers ('.._ren') and one theorem, a field a fact of the dump's own or the kernel's comparison; each contract: ONE APPLICATION.
-/
import Derived.Shelf.Strings.Fields
import Derived.Shelf.Slices.Turned
import Derived.Test.YtoenogjedmnnlaaDoorProg
namespace Go.Proofs
open Go.Shelf
def Tryd.lays157_ren : Go.Shelf.Ren := ⟨fun | 157 => 29 | 229 => 45 | 199 => 46 | 261 => 48 | 311 => 49 | 312 => 50 | n => n, fun | 9 => 9 | 31 => 53 | 3 => 3 | 5 => 5 | 4 => 4 | 119 => 61 | 0 => 0 | 40 => 63 | 152 => 65 | 21 => 21 | 154 => 67 | 51 => 68 | 141 => 70 | 196 => 74 | 193 => 71 | 198 => 77 | 49 => 75 | 194 => 72 | 201 => 80 | 226 => 82 | 46 => 83 | 227 => 84 | n => n, fun | 0 => 0 | 6 => 1 | n => n⟩
theorem Tryd.lays157 : Go.Proofs.Lays.n157 Tryd.prog Tryd.lays157_ren := {
  mixed := by kernel_rfl
  f157 := Tryd.func29.trans (congrArg some (by kernel_rfl))
  f199 := Tryd.func46.trans (congrArg some (by kernel_rfl))
  f229 := Tryd.func45.trans (congrArg some (by kernel_rfl))
  f261 := Tryd.func48.trans (congrArg some (by kernel_rfl))
  f311 := Tryd.func49.trans (congrArg some (by kernel_rfl))
  f312 := Tryd.func50.trans (congrArg some (by kernel_rfl))
  t0 := Tryd.underlying0
  a0 := Tryd.isAgg0
  z0 := Tryd.sizeOf0
  v0 := Tryd.zeroValue0
  t3 := Tryd.underlying3
  a3 := Tryd.isAgg3
  z3 := Tryd.sizeOf3
  v3 := Tryd.zeroValue3
  t4 := Tryd.underlying4
  a4 := Tryd.isAgg4
  z4 := Tryd.sizeOf4
  v4 := Tryd.zeroValue4
  t5 := Tryd.underlying5
  a5 := Tryd.isAgg5
  z5 := Tryd.sizeOf5
  v5 := Tryd.zeroValue5
  t9 := Tryd.underlying9
  a9 := Tryd.isAgg9
  z9 := Tryd.sizeOf9
  v9 := Tryd.zeroValue9
  t21 := Tryd.underlying21
  a21 := Tryd.isAgg21
  z21 := Tryd.sizeOf21
  v21 := Tryd.zeroValue21
  t31 := Tryd.underlying53
  a31 := Tryd.isAgg53
  z31 := Tryd.sizeOf53
  v31 := Tryd.zeroValue53
  t40 := Tryd.underlying63
  a40 := Tryd.isAgg63
  z40 := Tryd.sizeOf63
  v40 := Tryd.zeroValue63
  t46 := Tryd.underlying83
  a46 := Tryd.isAgg83
  z46 := Tryd.sizeOf83
  v46 := Tryd.zeroValue83
  t49 := Tryd.underlying75
  a49 := Tryd.isAgg75
  z49 := Tryd.sizeOf75
  v49 := Tryd.zeroValue75
  t51 := Tryd.underlying68
  a51 := Tryd.isAgg68
  z51 := Tryd.sizeOf68
  v51 := Tryd.zeroValue68
  t119 := Tryd.underlying61
  a119 := Tryd.isAgg61
  z119 := Tryd.sizeOf61
  t141 := Tryd.underlying70
  a141 := Tryd.isAgg70
  z141 := Tryd.sizeOf70
  v141 := Tryd.zeroValue70
  t152 := Tryd.underlying65
  a152 := Tryd.isAgg65
  z152 := Tryd.sizeOf65
  v152 := Tryd.zeroValue65
  t154 := Tryd.underlying67
  a154 := Tryd.isAgg67
  z154 := Tryd.sizeOf67
  v154 := Tryd.zeroValue67
  t193 := Tryd.underlying71
  a193 := Tryd.isAgg71
  z193 := Tryd.sizeOf71
  v193 := Tryd.zeroValue71
  t194 := Tryd.underlying72
  a194 := Tryd.isAgg72
  z194 := Tryd.sizeOf72
  v194 := Tryd.zeroValue72
  t196 := Tryd.underlying74
  a196 := Tryd.isAgg74
  z196 := Tryd.sizeOf74
  v196 := Tryd.zeroValue74
  t198 := Tryd.underlying77
  a198 := Tryd.isAgg77
  z198 := Tryd.sizeOf77
  v198 := Tryd.zeroValue77
  t201 := Tryd.underlying80
  a201 := Tryd.isAgg80
  z201 := Tryd.sizeOf80
  v201 := Tryd.zeroValue80
  t226 := Tryd.underlying82
  a226 := Tryd.isAgg82
  z226 := Tryd.sizeOf82
  v226 := Tryd.zeroValue82
  t227 := Tryd.underlying84
  a227 := Tryd.isAgg84
  z227 := Tryd.sizeOf84
  v227 := Tryd.zeroValue84
  g0 := by kernel_rfl
  g6 := by kernel_rfl }
open Go.RowKit Go.Lib in
/-- strings.Fields, the table by 'Lib.TabIs' (as strings.TrimSpace's contract). 'hg': the table's number, by its name: at a dump 'by kernel_rfl'. (LAID: no walk: one application.) -/
theorem Tryd.strings_Fields (s : ByteArray) (w : World) (hs : s.size < 4294967281) (hascii : ∀ (j : Nat) b, s.data.toList[j]? = some b → b.toNat < 128) (htab : Lib.TabIs Tryd.prog w "strings.asciiSpace" .u8 Lib.asciiSpaceTab) :
    Calls Tryd.prog 29 #[.string s] w fun e w' =>
      e = .returned (.slice (some ⟨w.heap.size, 0, none⟩) (Lib.fields s.data.toList).length (Lib.fields s.data.toList).length) ∧ w' = w.alloc (.cells ((Lib.fields s.data.toList).map fun l => Value.string ⟨l.toArray⟩).toArray 9) := Any.strings_Fields Tryd.lays157 (by kernel_rfl) (by kernel_rfl) s w hs hascii htab
def Tryd.lays108_ren : Go.Shelf.Ren := ⟨fun | 108 => 47 | n => n, fun | 28 => 27 | 3 => 3 | 0 => 0 | 4 => 4 | n => n, fun | n => n⟩
theorem Tryd.lays108 : Go.Proofs.Lays.n108 Tryd.prog Tryd.lays108_ren := {
  mixed := by kernel_rfl
  f108 := Tryd.func47.trans (congrArg some (by kernel_rfl))
  t0 := Tryd.underlying0
  a0 := Tryd.isAgg0
  z0 := Tryd.sizeOf0
  v0 := Tryd.zeroValue0
  t3 := Tryd.underlying3
  a3 := Tryd.isAgg3
  z3 := Tryd.sizeOf3
  v3 := Tryd.zeroValue3
  t4 := Tryd.underlying4
  a4 := Tryd.isAgg4
  z4 := Tryd.sizeOf4
  v4 := Tryd.zeroValue4
  t28 := Tryd.underlying27
  a28 := Tryd.isAgg27
  z28 := Tryd.sizeOf27
  v28 := Tryd.zeroValue27 }
open Go.Lib in
/-- slices.Index at []int: "Index returns the index of the first occurrence of v in s, or -1 if not present.": IT RETURNS 'Lib.idxOf (the elements) v'; the world is as it was. 'zs': what the cells behind the slice's address hold (its spare capacity too, if you have it); 'zs.take n': its elements. (LAID: no walk: one application.) -/
theorem Tryd.slices_Index_int (b off n c : Nat) (zs : List Int) (x : Int) (w : World) (hz : n ≤ zs.length) (hbig : n ≤ 9223372036854775807) (hc : ∀ j, j < zs.length → w.cell? ⟨b, off + j, none⟩ = some (.int .i64 (zs.getD j 0))) :
    Calls Tryd.prog 47 #[.slice (some ⟨b, off, none⟩) n c, .int .i64 x] w fun e w' => e = .returned (.int .i64 (Lib.idxOf (zs.take n) x)) ∧ w' = w := Any.slices_Index_int Tryd.lays108 b off n c zs x w hz hbig hc
open Go.Lib in
/-- The same at a slice of length 0, a nil one too: no cell is known, none is asked for. (LAID: no walk: one application.) -/
theorem Tryd.slices_Index_int_empty (a : Option Addr) (c : Nat) (x : Int) (w : World) :
    Calls Tryd.prog 47 #[.slice a 0 c, .int .i64 x] w fun e w' => e = .returned (.int .i64 (Lib.idxOf [] x)) ∧ w' = w := Any.slices_Index_int_empty Tryd.lays108 a c x w
def Tryd.lays107_ren : Go.Shelf.Ren := ⟨fun | 107 => 31 | 108 => 47 | n => n, fun | 28 => 27 | 3 => 3 | 4 => 4 | 0 => 0 | n => n, fun | n => n⟩
theorem Tryd.lays107 : Go.Proofs.Lays.n107 Tryd.prog Tryd.lays107_ren := {
  mixed := by kernel_rfl
  f107 := Tryd.func31.trans (congrArg some (by kernel_rfl))
  f108 := Tryd.func47.trans (congrArg some (by kernel_rfl))
  t0 := Tryd.underlying0
  a0 := Tryd.isAgg0
  z0 := Tryd.sizeOf0
  v0 := Tryd.zeroValue0
  t3 := Tryd.underlying3
  a3 := Tryd.isAgg3
  z3 := Tryd.sizeOf3
  v3 := Tryd.zeroValue3
  t4 := Tryd.underlying4
  a4 := Tryd.isAgg4
  z4 := Tryd.sizeOf4
  v4 := Tryd.zeroValue4
  t28 := Tryd.underlying27
  a28 := Tryd.isAgg27
  z28 := Tryd.sizeOf27
  v28 := Tryd.zeroValue27 }
open Go.Lib in
/-- slices.Contains at []int: "Contains reports whether v is present in s.": IT RETURNS 'elements.contains v'; the world is as it was. ITS CALLEE slices.Index IS MET BY ITS OWN CONTRACT OFF THE SHELF (lay that first): no loop is walked here. (LAID: no walk: one application.) -/
theorem Tryd.slices_Contains_int (b off n c : Nat) (zs : List Int) (x : Int) (w : World) (hz : n ≤ zs.length) (hbig : n ≤ 9223372036854775807) (hc : ∀ j, j < zs.length → w.cell? ⟨b, off + j, none⟩ = some (.int .i64 (zs.getD j 0))) :
    Calls Tryd.prog 31 #[.slice (some ⟨b, off, none⟩) n c, .int .i64 x] w fun e w' => e = .returned (.bool ((zs.take n).contains x)) ∧ w' = w := Any.slices_Contains_int Tryd.lays107 b off n c zs x w hz hbig hc
open Go.Lib in
/-- The same at a slice of length 0, a nil one too. (LAID: no walk: one application.) -/
theorem Tryd.slices_Contains_int_empty (a : Option Addr) (c : Nat) (x : Int) (w : World) :
    Calls Tryd.prog 31 #[.slice a 0 c, .int .i64 x] w fun e w' => e = .returned (.bool false) ∧ w' = w := Any.slices_Contains_int_empty Tryd.lays107 a c x w
end Go.Proofs
