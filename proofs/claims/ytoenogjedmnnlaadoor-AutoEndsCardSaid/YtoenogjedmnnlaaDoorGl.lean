/- The library's table of spaces, as the world has it: it stays where only new memory is written. -/
import Derived.Lib.LaidTab
import Derived.Lib.AppendIntMem
import Derived.Lib.Fields
import Derived.Below
import Derived.Test.YtoenogjedmnnlaaDoorProg
namespace Go.Proofs.YtoenogjedmnnlaaDoorG
open Go Go.RowKit
/-- The table strings.asciiSpace holds what it was laid with. -/
structure Gl (w : World) : Prop where
  out : Lib.TabIs Tryd.prog w "strings.asciiSpace" .u8 Lib.asciiSpaceTab
theorem Gl.below {w w1 : World} (h : Gl w) (hb : Below w.heap.size w w1) : Gl w1 := ⟨Lib.tabBelow_of_tabIs h.out w1 hb⟩
end Go.Proofs.YtoenogjedmnnlaaDoorG
