/- What the row's listed variables give the walks: the library's table of spaces; a heap in which they hold what they were laid with. -/
import Derived.Test.YtoenogjedmnnlaaDoorRows
import Derived.Test.YtoenogjedmnnlaaDoorGl
import Derived.Lib.LaidTab
import Derived.ProofKit
import Derived.LaidMore
import Derived.MakeChecks
import Derived.Stop.Joined
namespace Go.Proofs.YtoenogjedmnnlaaDoorL
open Go Go.RowKit Go.Proofs.YtoenogjedmnnlaaDoor Go.Proofs.YtoenogjedmnnlaaDoorG
/-- The listed variables. -/
noncomputable abbrev laid2 : List (String × DataW Unit) := [("unicode.White_Space", Rows.laid_unicode_White_Space), ("strings.asciiSpace", Rows.laid_strings_asciiSpace)]
set_option maxRecDepth 100000
/-- The heap that the start-up code leaves meets the condition. -/
theorem door_met (os : Os) (args : Array Value) : laidMetH Tryd.prog laid2 ((World.doorLaid Tryd.prog 400 os).forCall (fun _ _ => 0) ⟨#[], args, []⟩).memory :=
  laidMetH_of_parts3 (fuel := 300) (laidMet_of_run' 300 (by kernel_rfl) (by kernel_rfl)) (by kernel_rfl) (by kernel_rfl)
theorem gTab : Tryd.prog.globalNamed "strings.asciiSpace" = some 0 := by kernel_rfl
theorem tTab : (Tryd.prog.globals[0]?).map (·.type) = some 61 := by kernel_rfl
theorem tab_data : (Rows.laid_strings_asciiSpace : DataW Unit) = Lib.tabData .u8 Lib.asciiSpaceTab := by kernel_rfl
theorem of_laid {W : World} (h : laidMetH Tryd.prog laid2 W) : Gl W := by
  rw [MakeChecks.laidMetH_plain _ _ _ (by kernel_rfl)] at h
  obtain ⟨ps, ⟨g0, t0, cs0, f0, p0, q0, hg0, ht0, hv0, hd0, ⟨g1, t1, cs1, f1, p1, q1, hg1, ht1, hv1, hd1, _, _⟩, _⟩, _, _⟩ := h
  rw [tab_data] at hd1
  obtain rfl := Option.some.inj (gTab.symm.trans hg1)
  obtain rfl := Option.some.inj (tTab.symm.trans ht1)
  refine ⟨?_⟩
  unfold Lib.TabIs
  rw [hv1, ← Lib.cells_of_tab Tryd.underlying61 Tryd.underlying5 (by kernel_rfl) (by kernel_rfl) hd1]
end Go.Proofs.YtoenogjedmnnlaaDoorL
