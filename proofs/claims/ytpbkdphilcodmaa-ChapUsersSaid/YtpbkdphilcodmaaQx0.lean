-- written by this session's own program (wip/tools/myprint.py), over the kit's print
import Derived.Test.YtpbkdphilcodmaaProg
import Derived.Below
import Derived.Deep.Draws
import Derived.Deep.AppendLies
import Derived.Maps.AppendAt
import Derived.OwnWalk
import Derived.Laws.BytesArg
import Derived.Laws.MakeOwn
import Derived.Laws.OwnMore
import Derived.Deep.OwnRows
import Derived.Tactics
import Derived.Lib.ConvBytes
import Derived.Laws.Slices
import Derived.WalkKit
import Derived.KernelRfl
import Derived.RowKit3
import Derived.Deep.LoopGhost
import Derived.Deep.QuietTactic
import Derived.BigQuiet
import Derived.WideLaws
import Derived.Deep.DeepCutAuto
import Derived.Deep.CutBlock
import Derived.Deep.RegionHeld3
import Derived.Laws.Rows
import Derived.Lib.AppendStr
import Derived.ArgAppend
import Derived.Laws.IdiomCopy
import Derived.OrdersHeld
import Derived.Laws.BitsLemmas
import Derived.RowKit
import Derived.Test.YtpbkdphilcodmaaWWords
import Derived.Test.YtpbkdphilcodmaaWLast
import Derived.Test.YtpbkdphilcodmaaWTab
import Derived.Test.YtpbkdphilcodmaaWFour
import Derived.Test.YtpbkdphilcodmaaWQPut
import Derived.Test.YtpbkdphilcodmaaWApart
import Derived.Test.YtpbkdphilcodmaaWArr
import Derived.Test.YtpbkdphilcodmaaWZeros
import Derived.Test.YtpbkdphilcodmaaWFoot
import Derived.Test.YtpbkdphilcodmaaWKept
import Derived.Test.YtpbkdphilcodmaaWShare
import Derived.Test.YtpbkdphilcodmaaWN
import Derived.Test.YtpbkdphilcodmaaWFootNe
import Derived.Test.YtpbkdphilcodmaaWAt
import Derived.Test.YtpbkdphilcodmaaWEqStruct
import Derived.Test.YtpbkdphilcodmaaWRepsOne
import Derived.Test.YtpbkdphilcodmaaWInv
import Derived.Test.YtpbkdphilcodmaaWInvWords
import Derived.Test.YtpbkdphilcodmaaWGuard
import Derived.Test.YtpbkdphilcodmaaWNEv
import Derived.Test.YtpbkdphilcodmaaWMore
import Derived.Test.YtpbkdphilcodmaaV
namespace Go.Proofs.Ytpbkdphilcodmaa.Q
open Go.RowKit Go.Proofs.YtpbkdphilcodmaaW.PrintWords Go.Proofs.YtpbkdphilcodmaaW.PrintLast Go.Proofs.YtpbkdphilcodmaaW.PrintMore
open Go.Proofs.YtpbkdphilcodmaaV
attribute [local go_sem] max2_int min2_int max_two min_two max_three min_three max_four min_four   -- for this text's walks alone
set_option linter.unusedVariables false
set_option linter.unusedSimpArgs false

theorem qN {w : World} {g : Nat} {o : Obj} (h : w.heap[g]? = some o) (n : Nat) : (w.drewN n).heap[g]? = some o := blk_drewN h n
theorem qD {w : World} {g : Nat} {o : Obj} (h : w.heap[g]? = some o) : w.drew.heap[g]? = some o := blk_drew h
theorem qA {w : World} {g : Nat} {o : Obj} (h : w.heap[g]? = some o) (o2 : Obj) : (w.alloc o2).heap[g]? = some o := blk_alloc h o2
theorem pA {w W : World} (h : Below w.heap.size w W) (o : Obj) : Below w.heap.size w (W.alloc o) := below_alloc h o
theorem pN {B : Nat} {w W : World} (h : Below B w W) (n : Nat) : Below B w (W.drewN n) := pw_below_drewN h n
theorem pD {base : Nat} {w W : World} (h : Below base w W) : Below base w W.drew := below_drew1 h
theorem pS {w W : World} {g j : Nat} {v : Value} (h : Below w.heap.size w W) (hg : w.heap.size ≤ g) : Below w.heap.size w (W.setCell ⟨g, j, none⟩ v) := below_set h hg
abbrev oO : Bool := false
abbrev oI : Bool := true




def errW : Option Int → Value
  | none => .nilIface
  | some c => .iface 0 (.int .i64 c)
theorem errW_none : errW none = .nilIface := rfl
theorem errW_some (c : Int) : errW (some c) = .iface 0 (.int .i64 c) := rfl

theorem info3 : (Try.prog.info? 3).map (fun i => (i.zero, i.size, i.bytes)) = some (some (.int .i64 0), 1, 8) := by kernel_rfl
theorem info5 : (Try.prog.info? 5).map (fun i => (i.zero, i.size, i.bytes)) = some (some (.int .u8 0), 1, 1) := by kernel_rfl
theorem info63 : (Try.prog.info? 63).map (fun i => (i.zero, i.size, i.bytes)) = some (some (.int .u32 0), 1, 4) := by kernel_rfl
-- the values' own types
def rd_L1 (xs : List (List Int)) (i : Int) : (List Int) := xs.getD i.toNat ([] : List Int)
theorem at_L1 {w : World} {A : Option Addr} {n : Nat} {xs : List (List Int)} (h : Kd.C (Kd.slice 5 (Kd.int .u8)) w A n xs) (i : Int) (h0 : 0 ≤ i) (h1 : i < n) : ∃ ad A0 c0, A = some ad ∧ w.cell? (ad.add i.toNat) = some (.slice A0 (rd_L1 xs i).length c0) ∧ (rd_L1 xs i).length ≤ c0 ∧ (Kd.int .u8).C w A0 (rd_L1 xs i).length (rd_L1 xs i) := by
  obtain ⟨ad, c, e, _, hK, hc0⟩ := Kd.C_get h ([] : List Int) i h0 h1
  have hc : ∀ j u, c[j]? = some u → w.cell? (ad.add (i.toNat * 1 + j)) = some u := hc0
  obtain ⟨A0, c0, rfl, l0, g0⟩ := hK
  exact ⟨ad, A0, c0, e, by have hq := hc 0 _ rfl; rwa [Nat.mul_one, Nat.add_zero] at hq, l0, g0⟩

/-! #### struct type 64 -/
structure S64 where
  f0 : Int
  f1 : Int
  f2 : Int
  f3 : Int
def z64 : S64 := ⟨(0 : Int), (0 : Int), (0 : Int), (0 : Int)⟩
def k64 : Kd S64 := Kd.iso (Kd.pair (Kd.int .u32) (Kd.pair (Kd.int .u32) (Kd.pair (Kd.int .u32) (Kd.int .u32)))) (fun x : S64 => (x.f0, x.f1, x.f2, x.f3))
theorem k64_open {w : World} {x : S64} {cs : List Value} (h : k64.K w x cs) : cs = [.int .u32 x.f0, .int .u32 x.f1, .int .u32 x.f2, .int .u32 x.f3] := by
  obtain ⟨_, _, rfl, rfl, ⟨_, _, rfl, rfl, ⟨_, _, rfl, rfl, rfl⟩⟩⟩ := h
  exact rfl
theorem k64_openM {w : World} {base : Nat} {ok : Nat → Prop} {x : S64} {cs : List Value} (h : k64.M w base ok x cs) : cs = [.int .u32 x.f0, .int .u32 x.f1, .int .u32 x.f2, .int .u32 x.f3] := by
  obtain ⟨_, _, rfl, rfl, ⟨_, _, rfl, rfl, ⟨_, _, rfl, rfl, rfl⟩⟩⟩ := h
  exact rfl
theorem k64_mk (w : World) (x : S64)  : k64.K w x [.int .u32 x.f0, .int .u32 x.f1, .int .u32 x.f2, .int .u32 x.f3] := ⟨[.int .u32 x.f0], [.int .u32 x.f1, .int .u32 x.f2, .int .u32 x.f3], rfl, rfl, ⟨[.int .u32 x.f1], [.int .u32 x.f2, .int .u32 x.f3], rfl, rfl, ⟨[.int .u32 x.f2], [.int .u32 x.f3], rfl, rfl, rfl⟩⟩⟩
theorem k64_mkM (w : World) (base : Nat) (ok : Nat → Prop) (x : S64)  : k64.M w base ok x [.int .u32 x.f0, .int .u32 x.f1, .int .u32 x.f2, .int .u32 x.f3] := ⟨[.int .u32 x.f0], [.int .u32 x.f1, .int .u32 x.f2, .int .u32 x.f3], rfl, rfl, ⟨[.int .u32 x.f1], [.int .u32 x.f2, .int .u32 x.f3], rfl, rfl, ⟨[.int .u32 x.f2], [.int .u32 x.f3], rfl, rfl, rfl⟩⟩⟩
def rd_T64 (xs : List S64) (i : Int) : S64 := xs.getD i.toNat z64
theorem at_T64 {w : World} {A : Option Addr} {n : Nat} {xs : List S64} (h : Kd.C k64 w A n xs) (i : Int) (h0 : 0 ≤ i) (h1 : i < n) : ∃ ad , A = some ad ∧ w.cell? (ad.add (i.toNat * 4)) = some (.int .u32 (rd_T64 xs i).f0) ∧ w.cell? ⟨(ad.add (i.toNat * 4)).block, (ad.add (i.toNat * 4)).off + 1, none⟩ = some (.int .u32 (rd_T64 xs i).f1) ∧ w.cell? ⟨(ad.add (i.toNat * 4)).block, (ad.add (i.toNat * 4)).off + 2, none⟩ = some (.int .u32 (rd_T64 xs i).f2) ∧ w.cell? ⟨(ad.add (i.toNat * 4)).block, (ad.add (i.toNat * 4)).off + 3, none⟩ = some (.int .u32 (rd_T64 xs i).f3) := by
  obtain ⟨ad, c, e, _, hK, hc0⟩ := Kd.C_get h z64 i h0 h1
  have hc : ∀ j u, c[j]? = some u → w.cell? (ad.add (i.toNat * 4 + j)) = some u := hc0
  obtain rfl := k64_open hK
  exact ⟨ad, e, hc 0 _ rfl, by rw [← add_field _ _ 1 (by omega)]; exact hc 1 _ rfl, by rw [← add_field _ _ 2 (by omega)]; exact hc 2 _ rfl, by rw [← add_field _ _ 3 (by omega)]; exact hc 3 _ rfl⟩

/-! #### struct type 22 -/
structure S22 where
  f0 : Int
  f1 : Int
  f2 : Int
  f3 : Int
  f4 : Int
  f5 : Int
  f6 : Int
  f7 : Int
  f8 : Int
  f9 : Int
  f10 : Int
  f11 : Int
  f12 : Int
  f13 : Int
  f14 : Int
  f15 : Int
def z22 : S22 := ⟨(0 : Int), (0 : Int), (0 : Int), (0 : Int), (0 : Int), (0 : Int), (0 : Int), (0 : Int), (0 : Int), (0 : Int), (0 : Int), (0 : Int), (0 : Int), (0 : Int), (0 : Int), (0 : Int)⟩
def k22 : Kd S22 := Kd.iso (Kd.pair (Kd.int .u8) (Kd.pair (Kd.int .u8) (Kd.pair (Kd.int .u8) (Kd.pair (Kd.int .u8) (Kd.pair (Kd.int .u8) (Kd.pair (Kd.int .u8) (Kd.pair (Kd.int .u8) (Kd.pair (Kd.int .u8) (Kd.pair (Kd.int .u8) (Kd.pair (Kd.int .u8) (Kd.pair (Kd.int .u8) (Kd.pair (Kd.int .u8) (Kd.pair (Kd.int .u8) (Kd.pair (Kd.int .u8) (Kd.pair (Kd.int .u8) (Kd.int .u8)))))))))))))))) (fun x : S22 => (x.f0, x.f1, x.f2, x.f3, x.f4, x.f5, x.f6, x.f7, x.f8, x.f9, x.f10, x.f11, x.f12, x.f13, x.f14, x.f15))
theorem k22_open {w : World} {x : S22} {cs : List Value} (h : k22.K w x cs) : cs = [.int .u8 x.f0, .int .u8 x.f1, .int .u8 x.f2, .int .u8 x.f3, .int .u8 x.f4, .int .u8 x.f5, .int .u8 x.f6, .int .u8 x.f7, .int .u8 x.f8, .int .u8 x.f9, .int .u8 x.f10, .int .u8 x.f11, .int .u8 x.f12, .int .u8 x.f13, .int .u8 x.f14, .int .u8 x.f15] := by
  obtain ⟨_, _, rfl, rfl, ⟨_, _, rfl, rfl, ⟨_, _, rfl, rfl, ⟨_, _, rfl, rfl, ⟨_, _, rfl, rfl, ⟨_, _, rfl, rfl, ⟨_, _, rfl, rfl, ⟨_, _, rfl, rfl, ⟨_, _, rfl, rfl, ⟨_, _, rfl, rfl, ⟨_, _, rfl, rfl, ⟨_, _, rfl, rfl, ⟨_, _, rfl, rfl, ⟨_, _, rfl, rfl, ⟨_, _, rfl, rfl, rfl⟩⟩⟩⟩⟩⟩⟩⟩⟩⟩⟩⟩⟩⟩⟩ := h
  exact rfl
theorem k22_openM {w : World} {base : Nat} {ok : Nat → Prop} {x : S22} {cs : List Value} (h : k22.M w base ok x cs) : cs = [.int .u8 x.f0, .int .u8 x.f1, .int .u8 x.f2, .int .u8 x.f3, .int .u8 x.f4, .int .u8 x.f5, .int .u8 x.f6, .int .u8 x.f7, .int .u8 x.f8, .int .u8 x.f9, .int .u8 x.f10, .int .u8 x.f11, .int .u8 x.f12, .int .u8 x.f13, .int .u8 x.f14, .int .u8 x.f15] := by
  obtain ⟨_, _, rfl, rfl, ⟨_, _, rfl, rfl, ⟨_, _, rfl, rfl, ⟨_, _, rfl, rfl, ⟨_, _, rfl, rfl, ⟨_, _, rfl, rfl, ⟨_, _, rfl, rfl, ⟨_, _, rfl, rfl, ⟨_, _, rfl, rfl, ⟨_, _, rfl, rfl, ⟨_, _, rfl, rfl, ⟨_, _, rfl, rfl, ⟨_, _, rfl, rfl, ⟨_, _, rfl, rfl, ⟨_, _, rfl, rfl, rfl⟩⟩⟩⟩⟩⟩⟩⟩⟩⟩⟩⟩⟩⟩⟩ := h
  exact rfl
theorem k22_mk (w : World) (x : S22)  : k22.K w x [.int .u8 x.f0, .int .u8 x.f1, .int .u8 x.f2, .int .u8 x.f3, .int .u8 x.f4, .int .u8 x.f5, .int .u8 x.f6, .int .u8 x.f7, .int .u8 x.f8, .int .u8 x.f9, .int .u8 x.f10, .int .u8 x.f11, .int .u8 x.f12, .int .u8 x.f13, .int .u8 x.f14, .int .u8 x.f15] := ⟨[.int .u8 x.f0], [.int .u8 x.f1, .int .u8 x.f2, .int .u8 x.f3, .int .u8 x.f4, .int .u8 x.f5, .int .u8 x.f6, .int .u8 x.f7, .int .u8 x.f8, .int .u8 x.f9, .int .u8 x.f10, .int .u8 x.f11, .int .u8 x.f12, .int .u8 x.f13, .int .u8 x.f14, .int .u8 x.f15], rfl, rfl, ⟨[.int .u8 x.f1], [.int .u8 x.f2, .int .u8 x.f3, .int .u8 x.f4, .int .u8 x.f5, .int .u8 x.f6, .int .u8 x.f7, .int .u8 x.f8, .int .u8 x.f9, .int .u8 x.f10, .int .u8 x.f11, .int .u8 x.f12, .int .u8 x.f13, .int .u8 x.f14, .int .u8 x.f15], rfl, rfl, ⟨[.int .u8 x.f2], [.int .u8 x.f3, .int .u8 x.f4, .int .u8 x.f5, .int .u8 x.f6, .int .u8 x.f7, .int .u8 x.f8, .int .u8 x.f9, .int .u8 x.f10, .int .u8 x.f11, .int .u8 x.f12, .int .u8 x.f13, .int .u8 x.f14, .int .u8 x.f15], rfl, rfl, ⟨[.int .u8 x.f3], [.int .u8 x.f4, .int .u8 x.f5, .int .u8 x.f6, .int .u8 x.f7, .int .u8 x.f8, .int .u8 x.f9, .int .u8 x.f10, .int .u8 x.f11, .int .u8 x.f12, .int .u8 x.f13, .int .u8 x.f14, .int .u8 x.f15], rfl, rfl, ⟨[.int .u8 x.f4], [.int .u8 x.f5, .int .u8 x.f6, .int .u8 x.f7, .int .u8 x.f8, .int .u8 x.f9, .int .u8 x.f10, .int .u8 x.f11, .int .u8 x.f12, .int .u8 x.f13, .int .u8 x.f14, .int .u8 x.f15], rfl, rfl, ⟨[.int .u8 x.f5], [.int .u8 x.f6, .int .u8 x.f7, .int .u8 x.f8, .int .u8 x.f9, .int .u8 x.f10, .int .u8 x.f11, .int .u8 x.f12, .int .u8 x.f13, .int .u8 x.f14, .int .u8 x.f15], rfl, rfl, ⟨[.int .u8 x.f6], [.int .u8 x.f7, .int .u8 x.f8, .int .u8 x.f9, .int .u8 x.f10, .int .u8 x.f11, .int .u8 x.f12, .int .u8 x.f13, .int .u8 x.f14, .int .u8 x.f15], rfl, rfl, ⟨[.int .u8 x.f7], [.int .u8 x.f8, .int .u8 x.f9, .int .u8 x.f10, .int .u8 x.f11, .int .u8 x.f12, .int .u8 x.f13, .int .u8 x.f14, .int .u8 x.f15], rfl, rfl, ⟨[.int .u8 x.f8], [.int .u8 x.f9, .int .u8 x.f10, .int .u8 x.f11, .int .u8 x.f12, .int .u8 x.f13, .int .u8 x.f14, .int .u8 x.f15], rfl, rfl, ⟨[.int .u8 x.f9], [.int .u8 x.f10, .int .u8 x.f11, .int .u8 x.f12, .int .u8 x.f13, .int .u8 x.f14, .int .u8 x.f15], rfl, rfl, ⟨[.int .u8 x.f10], [.int .u8 x.f11, .int .u8 x.f12, .int .u8 x.f13, .int .u8 x.f14, .int .u8 x.f15], rfl, rfl, ⟨[.int .u8 x.f11], [.int .u8 x.f12, .int .u8 x.f13, .int .u8 x.f14, .int .u8 x.f15], rfl, rfl, ⟨[.int .u8 x.f12], [.int .u8 x.f13, .int .u8 x.f14, .int .u8 x.f15], rfl, rfl, ⟨[.int .u8 x.f13], [.int .u8 x.f14, .int .u8 x.f15], rfl, rfl, ⟨[.int .u8 x.f14], [.int .u8 x.f15], rfl, rfl, rfl⟩⟩⟩⟩⟩⟩⟩⟩⟩⟩⟩⟩⟩⟩⟩
theorem k22_mkM (w : World) (base : Nat) (ok : Nat → Prop) (x : S22)  : k22.M w base ok x [.int .u8 x.f0, .int .u8 x.f1, .int .u8 x.f2, .int .u8 x.f3, .int .u8 x.f4, .int .u8 x.f5, .int .u8 x.f6, .int .u8 x.f7, .int .u8 x.f8, .int .u8 x.f9, .int .u8 x.f10, .int .u8 x.f11, .int .u8 x.f12, .int .u8 x.f13, .int .u8 x.f14, .int .u8 x.f15] := ⟨[.int .u8 x.f0], [.int .u8 x.f1, .int .u8 x.f2, .int .u8 x.f3, .int .u8 x.f4, .int .u8 x.f5, .int .u8 x.f6, .int .u8 x.f7, .int .u8 x.f8, .int .u8 x.f9, .int .u8 x.f10, .int .u8 x.f11, .int .u8 x.f12, .int .u8 x.f13, .int .u8 x.f14, .int .u8 x.f15], rfl, rfl, ⟨[.int .u8 x.f1], [.int .u8 x.f2, .int .u8 x.f3, .int .u8 x.f4, .int .u8 x.f5, .int .u8 x.f6, .int .u8 x.f7, .int .u8 x.f8, .int .u8 x.f9, .int .u8 x.f10, .int .u8 x.f11, .int .u8 x.f12, .int .u8 x.f13, .int .u8 x.f14, .int .u8 x.f15], rfl, rfl, ⟨[.int .u8 x.f2], [.int .u8 x.f3, .int .u8 x.f4, .int .u8 x.f5, .int .u8 x.f6, .int .u8 x.f7, .int .u8 x.f8, .int .u8 x.f9, .int .u8 x.f10, .int .u8 x.f11, .int .u8 x.f12, .int .u8 x.f13, .int .u8 x.f14, .int .u8 x.f15], rfl, rfl, ⟨[.int .u8 x.f3], [.int .u8 x.f4, .int .u8 x.f5, .int .u8 x.f6, .int .u8 x.f7, .int .u8 x.f8, .int .u8 x.f9, .int .u8 x.f10, .int .u8 x.f11, .int .u8 x.f12, .int .u8 x.f13, .int .u8 x.f14, .int .u8 x.f15], rfl, rfl, ⟨[.int .u8 x.f4], [.int .u8 x.f5, .int .u8 x.f6, .int .u8 x.f7, .int .u8 x.f8, .int .u8 x.f9, .int .u8 x.f10, .int .u8 x.f11, .int .u8 x.f12, .int .u8 x.f13, .int .u8 x.f14, .int .u8 x.f15], rfl, rfl, ⟨[.int .u8 x.f5], [.int .u8 x.f6, .int .u8 x.f7, .int .u8 x.f8, .int .u8 x.f9, .int .u8 x.f10, .int .u8 x.f11, .int .u8 x.f12, .int .u8 x.f13, .int .u8 x.f14, .int .u8 x.f15], rfl, rfl, ⟨[.int .u8 x.f6], [.int .u8 x.f7, .int .u8 x.f8, .int .u8 x.f9, .int .u8 x.f10, .int .u8 x.f11, .int .u8 x.f12, .int .u8 x.f13, .int .u8 x.f14, .int .u8 x.f15], rfl, rfl, ⟨[.int .u8 x.f7], [.int .u8 x.f8, .int .u8 x.f9, .int .u8 x.f10, .int .u8 x.f11, .int .u8 x.f12, .int .u8 x.f13, .int .u8 x.f14, .int .u8 x.f15], rfl, rfl, ⟨[.int .u8 x.f8], [.int .u8 x.f9, .int .u8 x.f10, .int .u8 x.f11, .int .u8 x.f12, .int .u8 x.f13, .int .u8 x.f14, .int .u8 x.f15], rfl, rfl, ⟨[.int .u8 x.f9], [.int .u8 x.f10, .int .u8 x.f11, .int .u8 x.f12, .int .u8 x.f13, .int .u8 x.f14, .int .u8 x.f15], rfl, rfl, ⟨[.int .u8 x.f10], [.int .u8 x.f11, .int .u8 x.f12, .int .u8 x.f13, .int .u8 x.f14, .int .u8 x.f15], rfl, rfl, ⟨[.int .u8 x.f11], [.int .u8 x.f12, .int .u8 x.f13, .int .u8 x.f14, .int .u8 x.f15], rfl, rfl, ⟨[.int .u8 x.f12], [.int .u8 x.f13, .int .u8 x.f14, .int .u8 x.f15], rfl, rfl, ⟨[.int .u8 x.f13], [.int .u8 x.f14, .int .u8 x.f15], rfl, rfl, ⟨[.int .u8 x.f14], [.int .u8 x.f15], rfl, rfl, rfl⟩⟩⟩⟩⟩⟩⟩⟩⟩⟩⟩⟩⟩⟩⟩
def rd_T22 (xs : List S22) (i : Int) : S22 := xs.getD i.toNat z22
theorem at_T22 {w : World} {A : Option Addr} {n : Nat} {xs : List S22} (h : Kd.C k22 w A n xs) (i : Int) (h0 : 0 ≤ i) (h1 : i < n) : ∃ ad , A = some ad ∧ w.cell? (ad.add (i.toNat * 16)) = some (.int .u8 (rd_T22 xs i).f0) ∧ w.cell? ⟨(ad.add (i.toNat * 16)).block, (ad.add (i.toNat * 16)).off + 1, none⟩ = some (.int .u8 (rd_T22 xs i).f1) ∧ w.cell? ⟨(ad.add (i.toNat * 16)).block, (ad.add (i.toNat * 16)).off + 2, none⟩ = some (.int .u8 (rd_T22 xs i).f2) ∧ w.cell? ⟨(ad.add (i.toNat * 16)).block, (ad.add (i.toNat * 16)).off + 3, none⟩ = some (.int .u8 (rd_T22 xs i).f3) ∧ w.cell? ⟨(ad.add (i.toNat * 16)).block, (ad.add (i.toNat * 16)).off + 4, none⟩ = some (.int .u8 (rd_T22 xs i).f4) ∧ w.cell? ⟨(ad.add (i.toNat * 16)).block, (ad.add (i.toNat * 16)).off + 5, none⟩ = some (.int .u8 (rd_T22 xs i).f5) ∧ w.cell? ⟨(ad.add (i.toNat * 16)).block, (ad.add (i.toNat * 16)).off + 6, none⟩ = some (.int .u8 (rd_T22 xs i).f6) ∧ w.cell? ⟨(ad.add (i.toNat * 16)).block, (ad.add (i.toNat * 16)).off + 7, none⟩ = some (.int .u8 (rd_T22 xs i).f7) ∧ w.cell? ⟨(ad.add (i.toNat * 16)).block, (ad.add (i.toNat * 16)).off + 8, none⟩ = some (.int .u8 (rd_T22 xs i).f8) ∧ w.cell? ⟨(ad.add (i.toNat * 16)).block, (ad.add (i.toNat * 16)).off + 9, none⟩ = some (.int .u8 (rd_T22 xs i).f9) ∧ w.cell? ⟨(ad.add (i.toNat * 16)).block, (ad.add (i.toNat * 16)).off + 10, none⟩ = some (.int .u8 (rd_T22 xs i).f10) ∧ w.cell? ⟨(ad.add (i.toNat * 16)).block, (ad.add (i.toNat * 16)).off + 11, none⟩ = some (.int .u8 (rd_T22 xs i).f11) ∧ w.cell? ⟨(ad.add (i.toNat * 16)).block, (ad.add (i.toNat * 16)).off + 12, none⟩ = some (.int .u8 (rd_T22 xs i).f12) ∧ w.cell? ⟨(ad.add (i.toNat * 16)).block, (ad.add (i.toNat * 16)).off + 13, none⟩ = some (.int .u8 (rd_T22 xs i).f13) ∧ w.cell? ⟨(ad.add (i.toNat * 16)).block, (ad.add (i.toNat * 16)).off + 14, none⟩ = some (.int .u8 (rd_T22 xs i).f14) ∧ w.cell? ⟨(ad.add (i.toNat * 16)).block, (ad.add (i.toNat * 16)).off + 15, none⟩ = some (.int .u8 (rd_T22 xs i).f15) := by
  obtain ⟨ad, c, e, _, hK, hc0⟩ := Kd.C_get h z22 i h0 h1
  have hc : ∀ j u, c[j]? = some u → w.cell? (ad.add (i.toNat * 16 + j)) = some u := hc0
  obtain rfl := k22_open hK
  exact ⟨ad, e, hc 0 _ rfl, by rw [← add_field _ _ 1 (by omega)]; exact hc 1 _ rfl, by rw [← add_field _ _ 2 (by omega)]; exact hc 2 _ rfl, by rw [← add_field _ _ 3 (by omega)]; exact hc 3 _ rfl, by rw [← add_field _ _ 4 (by omega)]; exact hc 4 _ rfl, by rw [← add_field _ _ 5 (by omega)]; exact hc 5 _ rfl, by rw [← add_field _ _ 6 (by omega)]; exact hc 6 _ rfl, by rw [← add_field _ _ 7 (by omega)]; exact hc 7 _ rfl, by rw [← add_field _ _ 8 (by omega)]; exact hc 8 _ rfl, by rw [← add_field _ _ 9 (by omega)]; exact hc 9 _ rfl, by rw [← add_field _ _ 10 (by omega)]; exact hc 10 _ rfl, by rw [← add_field _ _ 11 (by omega)]; exact hc 11 _ rfl, by rw [← add_field _ _ 12 (by omega)]; exact hc 12 _ rfl, by rw [← add_field _ _ 13 (by omega)]; exact hc 13 _ rfl, by rw [← add_field _ _ 14 (by omega)]; exact hc 14 _ rfl, by rw [← add_field _ _ 15 (by omega)]; exact hc 15 _ rfl⟩

/-! #### struct type 54 -/
structure S54 where
  f0 : ByteArray
  f1 : ByteArray
def z54 : S54 := ⟨(⟨#[]⟩ : ByteArray), (⟨#[]⟩ : ByteArray)⟩
def k54 : Kd S54 := Kd.iso (Kd.pair Kd.string Kd.string) (fun x : S54 => (x.f0, x.f1))
theorem k54_open {w : World} {x : S54} {cs : List Value} (h : k54.K w x cs) : cs = [.string x.f0, .string x.f1] := by
  obtain ⟨_, _, rfl, rfl, rfl⟩ := h
  exact rfl
theorem k54_openM {w : World} {base : Nat} {ok : Nat → Prop} {x : S54} {cs : List Value} (h : k54.M w base ok x cs) : cs = [.string x.f0, .string x.f1] := by
  obtain ⟨_, _, rfl, rfl, rfl⟩ := h
  exact rfl
theorem k54_mk (w : World) (x : S54)  : k54.K w x [.string x.f0, .string x.f1] := ⟨[.string x.f0], [.string x.f1], rfl, rfl, rfl⟩
theorem k54_mkM (w : World) (base : Nat) (ok : Nat → Prop) (x : S54)  : k54.M w base ok x [.string x.f0, .string x.f1] := ⟨[.string x.f0], [.string x.f1], rfl, rfl, rfl⟩
def rd_T54 (xs : List S54) (i : Int) : S54 := xs.getD i.toNat z54
theorem at_T54 {w : World} {A : Option Addr} {n : Nat} {xs : List S54} (h : Kd.C k54 w A n xs) (i : Int) (h0 : 0 ≤ i) (h1 : i < n) : ∃ ad , A = some ad ∧ w.cell? (ad.add (i.toNat * 2)) = some (.string (rd_T54 xs i).f0) ∧ w.cell? ⟨(ad.add (i.toNat * 2)).block, (ad.add (i.toNat * 2)).off + 1, none⟩ = some (.string (rd_T54 xs i).f1) := by
  obtain ⟨ad, c, e, _, hK, hc0⟩ := Kd.C_get h z54 i h0 h1
  have hc : ∀ j u, c[j]? = some u → w.cell? (ad.add (i.toNat * 2 + j)) = some u := hc0
  obtain rfl := k54_open hK
  exact ⟨ad, e, hc 0 _ rfl, by rw [← add_field _ _ 1 (by omega)]; exact hc 1 _ rfl⟩

end Go.Proofs.Ytpbkdphilcodmaa.Q
