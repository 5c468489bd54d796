-- written by this session's own program (wip/tools/myprint.py), over the kit's print
import Derived.Test.YtgijfaecplodfaaProg
import Derived.Below
import Derived.Deep.Draws
import Derived.Deep.AppendLies
import Derived.Maps.AppendAt
import Derived.OwnWalk
import Derived.Laws.BytesArg
import Derived.Laws.MakeOwn
import Derived.Laws.OwnMore
import Derived.Deep.OwnRows
import Derived.Tactics
import Derived.Lib.ConvBytes
import Derived.Laws.Slices
import Derived.WalkKit
import Derived.KernelRfl
import Derived.RowKit3
import Derived.Deep.LoopGhost
import Derived.Deep.QuietTactic
import Derived.BigQuiet
import Derived.WideLaws
import Derived.Deep.DeepCutAuto
import Derived.Deep.CutBlock
import Derived.Deep.RegionHeld3
import Derived.Laws.Rows
import Derived.Lib.AppendStr
import Derived.ArgAppend
import Derived.Laws.IdiomCopy
import Derived.OrdersHeld
import Derived.Laws.BitsLemmas
import Derived.RowKit
import Derived.Test.YtgijfaecplodfaaWWords
import Derived.Test.YtgijfaecplodfaaWLast
import Derived.Test.YtgijfaecplodfaaWTab
import Derived.Test.YtgijfaecplodfaaWFour
import Derived.Test.YtgijfaecplodfaaWQPut
import Derived.Test.YtgijfaecplodfaaWApart
import Derived.Test.YtgijfaecplodfaaWArr
import Derived.Test.YtgijfaecplodfaaWZeros
import Derived.Test.YtgijfaecplodfaaWFoot
import Derived.Test.YtgijfaecplodfaaWKept
import Derived.Test.YtgijfaecplodfaaWShare
import Derived.Test.YtgijfaecplodfaaWN
import Derived.Test.YtgijfaecplodfaaWFootNe
import Derived.Test.YtgijfaecplodfaaWAt
import Derived.Test.YtgijfaecplodfaaWEqStruct
import Derived.Test.YtgijfaecplodfaaWRepsOne
import Derived.Test.YtgijfaecplodfaaWInv
import Derived.Test.YtgijfaecplodfaaWInvWords
import Derived.Test.YtgijfaecplodfaaWGuard
import Derived.Test.YtgijfaecplodfaaWNEv
import Derived.Test.YtgijfaecplodfaaWMore
import Derived.Test.YtgijfaecplodfaaV
namespace Go.Proofs.Ytgijfaecplodfaa.Q
open Go.RowKit Go.Proofs.YtgijfaecplodfaaW.PrintWords Go.Proofs.YtgijfaecplodfaaW.PrintLast Go.Proofs.YtgijfaecplodfaaW.PrintMore
open Go.Proofs.YtgijfaecplodfaaV
attribute [local go_sem] max2_int min2_int max_two min_two max_three min_three max_four min_four   -- for this text's walks alone
set_option linter.unusedVariables false
set_option linter.unusedSimpArgs false

theorem qN {w : World} {g : Nat} {o : Obj} (h : w.heap[g]? = some o) (n : Nat) : (w.drewN n).heap[g]? = some o := blk_drewN h n
theorem qD {w : World} {g : Nat} {o : Obj} (h : w.heap[g]? = some o) : w.drew.heap[g]? = some o := blk_drew h
theorem qA {w : World} {g : Nat} {o : Obj} (h : w.heap[g]? = some o) (o2 : Obj) : (w.alloc o2).heap[g]? = some o := blk_alloc h o2
theorem pA {w W : World} (h : Below w.heap.size w W) (o : Obj) : Below w.heap.size w (W.alloc o) := below_alloc h o
theorem pN {B : Nat} {w W : World} (h : Below B w W) (n : Nat) : Below B w (W.drewN n) := pw_below_drewN h n
theorem pD {base : Nat} {w W : World} (h : Below base w W) : Below base w W.drew := below_drew1 h
theorem pS {w W : World} {g j : Nat} {v : Value} (h : Below w.heap.size w W) (hg : w.heap.size ≤ g) : Below w.heap.size w (W.setCell ⟨g, j, none⟩ v) := below_set h hg
abbrev oO : Bool := false
abbrev oI : Bool := true

@[go_sem] theorem field_24_0 (x0 x1 x2 : Value) (w : World) : (Instr.field 24 (.agg #[x0, x1, x2]) 0).run Try.prog w = .ok (x0) w := by kernel_rfl


def errW : Option Int → Value
  | none => .nilIface
  | some c => .iface 0 (.int .i64 c)
theorem errW_none : errW none = .nilIface := rfl
theorem errW_some (c : Int) : errW (some c) = .iface 0 (.int .i64 c) := rfl

theorem info5 : (Try.prog.info? 5).map (fun i => (i.zero, i.size, i.bytes)) = some (some (.int .u8 0), 1, 1) := by kernel_rfl
-- the values' own types
def rd_L3 (xs : List (List Int)) (i : Int) : (List Int) := xs.getD i.toNat ([] : List Int)
theorem at_L3 {w : World} {A : Option Addr} {n : Nat} {xs : List (List Int)} (h : Kd.C (Kd.slice 5 (Kd.int .u8)) w A n xs) (i : Int) (h0 : 0 ≤ i) (h1 : i < n) : ∃ ad A0 c0, A = some ad ∧ w.cell? (ad.add i.toNat) = some (.slice A0 (rd_L3 xs i).length c0) ∧ (rd_L3 xs i).length ≤ c0 ∧ (Kd.int .u8).C w A0 (rd_L3 xs i).length (rd_L3 xs i) := by
  obtain ⟨ad, c, e, _, hK, hc0⟩ := Kd.C_get h ([] : List Int) i h0 h1
  have hc : ∀ j u, c[j]? = some u → w.cell? (ad.add (i.toNat * 1 + j)) = some u := hc0
  obtain ⟨A0, c0, rfl, l0, g0⟩ := hK
  exact ⟨ad, A0, c0, e, by have hq := hc 0 _ rfl; rwa [Nat.mul_one, Nat.add_zero] at hq, l0, g0⟩

/-! #### struct type 24 -/
structure S24 where
  f0 : Int
  f1 : Int
  f2 : (List Int)
def z24 : S24 := ⟨(0 : Int), (0 : Int), ([] : List Int)⟩
def k24 : Kd S24 := Kd.iso (Kd.pair (Kd.int .u8) (Kd.pair (Kd.int .u8) (Kd.slice 5 (Kd.int .u8)))) (fun x : S24 => (x.f0, x.f1, x.f2))
theorem k24_heap : Kd.Heap k24 := Kd.heap_iso _ (Kd.heap_pair (Kd.heap_int .u8) (Kd.heap_pair (Kd.heap_int .u8) (Kd.heap_slice 5 (Kd.heap_int .u8))))
theorem k24_open {w : World} {x : S24} {cs : List Value} (h : k24.K w x cs) : ∃ A2 c2, cs = [.int .u8 x.f0, .int .u8 x.f1, .slice A2 x.f2.length c2] ∧ x.f2.length ≤ c2 ∧ (Kd.int .u8).C w A2 x.f2.length x.f2 := by
  obtain ⟨_, _, rfl, rfl, ⟨_, _, rfl, rfl, ⟨A2, c2, rfl, l2, g2⟩⟩⟩ := h
  exact ⟨A2, c2, rfl, l2, g2⟩
theorem k24_openM {w : World} {base : Nat} {ok : Nat → Prop} {x : S24} {cs : List Value} (h : k24.M w base ok x cs) : ∃ v2, cs = [.int .u8 x.f0, .int .u8 x.f1, v2] ∧ (Kd.int .u8).R 5 w base ok v2 x.f2 := by
  obtain ⟨_, _, rfl, rfl, ⟨_, _, rfl, rfl, ⟨v2, rfl, g2⟩⟩⟩ := h
  exact ⟨v2, rfl, g2⟩
theorem k24_mk (w : World) (x : S24) {A2 : Option Addr} {c2 : Nat} (l2 : x.f2.length ≤ c2) (g2 : (Kd.int .u8).C w A2 x.f2.length x.f2) : k24.K w x [.int .u8 x.f0, .int .u8 x.f1, .slice A2 x.f2.length c2] := ⟨[.int .u8 x.f0], [.int .u8 x.f1, .slice A2 x.f2.length c2], rfl, rfl, ⟨[.int .u8 x.f1], [.slice A2 x.f2.length c2], rfl, rfl, ⟨A2, c2, rfl, l2, g2⟩⟩⟩
theorem k24_mkM (w : World) (base : Nat) (ok : Nat → Prop) (x : S24) {v2 : Value} (g2 : (Kd.int .u8).R 5 w base ok v2 x.f2) : k24.M w base ok x [.int .u8 x.f0, .int .u8 x.f1, v2] := ⟨[.int .u8 x.f0], [.int .u8 x.f1, v2], rfl, rfl, ⟨[.int .u8 x.f1], [v2], rfl, rfl, ⟨v2, rfl, g2⟩⟩⟩
theorem k24_openF {W : World} {ok : Nat → Prop} {x : S24} {cs : List Value} (h : Kd.FK k24 W ok x cs) : ∃ A2 c2, cs = [.int .u8 x.f0, .int .u8 x.f1, .slice A2 x.f2.length c2] ∧ x.f2.length ≤ c2 ∧ Kd.F (Kd.int .u8) W ok A2 x.f2.length x.f2 := by
  obtain ⟨A2, c2, rfl, l2, _⟩ := k24_open (Kd.FK_now h)
  exact ⟨A2, c2, rfl, l2, (fun W' hW => by obtain ⟨A2_, c2_, he, l2_, g2_⟩ := k24_open (h W' hW); injection (Option.some.inj (show some (Value.slice A2 x.f2.length c2) = some (Value.slice A2_ x.f2.length c2_) from congrArg (fun l => l[2]?) he)) with ha_ _ _; rw [ha_]; exact g2_)⟩
theorem k24_mkF (W : World) (ok : Nat → Prop) (x : S24) {A2 : Option Addr} {c2 : Nat} (l2 : x.f2.length ≤ c2) (g2 : Kd.F (Kd.int .u8) W ok A2 x.f2.length x.f2) : Kd.FK k24 W ok x [.int .u8 x.f0, .int .u8 x.f1, .slice A2 x.f2.length c2] := fun W2 hW => k24_mk W2 x l2 (g2 W2 hW)
def rd_T24 (xs : List S24) (i : Int) : S24 := xs.getD i.toNat z24
theorem at_T24 {w : World} {A : Option Addr} {n : Nat} {xs : List S24} (h : Kd.C k24 w A n xs) (i : Int) (h0 : 0 ≤ i) (h1 : i < n) : ∃ ad A2 c2, A = some ad ∧ w.cell? (ad.add (i.toNat * 3)) = some (.int .u8 (rd_T24 xs i).f0) ∧ w.cell? ⟨(ad.add (i.toNat * 3)).block, (ad.add (i.toNat * 3)).off + 1, none⟩ = some (.int .u8 (rd_T24 xs i).f1) ∧ w.cell? ⟨(ad.add (i.toNat * 3)).block, (ad.add (i.toNat * 3)).off + 2, none⟩ = some (.slice A2 (rd_T24 xs i).f2.length c2) ∧ (rd_T24 xs i).f2.length ≤ c2 ∧ (Kd.int .u8).C w A2 (rd_T24 xs i).f2.length (rd_T24 xs i).f2 := by
  obtain ⟨ad, c, e, _, hK, hc0⟩ := Kd.C_get h z24 i h0 h1
  have hc : ∀ j u, c[j]? = some u → w.cell? (ad.add (i.toNat * 3 + j)) = some u := hc0
  obtain ⟨A2, c2, rfl, l2, g2⟩ := k24_open hK
  exact ⟨ad, A2, c2, e, hc 0 _ rfl, by rw [← add_field _ _ 1 (by omega)]; exact hc 1 _ rfl, by rw [← add_field _ _ 2 (by omega)]; exact hc 2 _ rfl, l2, g2⟩

end Go.Proofs.Ytgijfaecplodfaa.Q
