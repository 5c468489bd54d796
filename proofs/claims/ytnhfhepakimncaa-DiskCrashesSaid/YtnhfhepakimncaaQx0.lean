-- written by this session's own program (wip/tools/myprint.py), over the kit's print
import Derived.Test.YtnhfhepakimncaaProg
import Derived.Below
import Derived.Deep.Draws
import Derived.Deep.AppendLies
import Derived.Maps.AppendAt
import Derived.OwnWalk
import Derived.Laws.BytesArg
import Derived.Laws.MakeOwn
import Derived.Laws.OwnMore
import Derived.Deep.OwnRows
import Derived.Tactics
import Derived.Lib.ConvBytes
import Derived.Laws.Slices
import Derived.WalkKit
import Derived.KernelRfl
import Derived.RowKit3
import Derived.Deep.LoopGhost
import Derived.Deep.QuietTactic
import Derived.BigQuiet
import Derived.WideLaws
import Derived.Deep.DeepCutAuto
import Derived.Deep.CutBlock
import Derived.Deep.RegionHeld3
import Derived.Laws.Rows
import Derived.Lib.AppendStr
import Derived.ArgAppend
import Derived.Laws.IdiomCopy
import Derived.OrdersHeld
import Derived.Laws.BitsLemmas
import Derived.RowKit
import Derived.Test.YtnhfhepakimncaaWWords
import Derived.Test.YtnhfhepakimncaaWLast
import Derived.Test.YtnhfhepakimncaaWTab
import Derived.Test.YtnhfhepakimncaaWFour
import Derived.Test.YtnhfhepakimncaaWQPut
import Derived.Test.YtnhfhepakimncaaWApart
import Derived.Test.YtnhfhepakimncaaWArr
import Derived.Test.YtnhfhepakimncaaWZeros
import Derived.Test.YtnhfhepakimncaaWFoot
import Derived.Test.YtnhfhepakimncaaWKept
import Derived.Test.YtnhfhepakimncaaWShare
import Derived.Test.YtnhfhepakimncaaWN
import Derived.Test.YtnhfhepakimncaaWFootNe
import Derived.Test.YtnhfhepakimncaaWAt
import Derived.Test.YtnhfhepakimncaaWEqStruct
import Derived.Test.YtnhfhepakimncaaWRepsOne
import Derived.Test.YtnhfhepakimncaaWInv
import Derived.Test.YtnhfhepakimncaaWInvWords
import Derived.Test.YtnhfhepakimncaaWGuard
import Derived.Test.YtnhfhepakimncaaWNEv
import Derived.Test.YtnhfhepakimncaaWMore
import Derived.Test.YtnhfhepakimncaaV
namespace Go.Proofs.Ytnhfhepakimncaa.Q
open Go.RowKit Go.Proofs.YtnhfhepakimncaaW.PrintWords Go.Proofs.YtnhfhepakimncaaW.PrintLast Go.Proofs.YtnhfhepakimncaaW.PrintMore
open Go.Proofs.YtnhfhepakimncaaV
attribute [local go_sem] max2_int min2_int max_two min_two max_three min_three max_four min_four   -- for this text's walks alone
set_option linter.unusedVariables false
set_option linter.unusedSimpArgs false

theorem qN {w : World} {g : Nat} {o : Obj} (h : w.heap[g]? = some o) (n : Nat) : (w.drewN n).heap[g]? = some o := blk_drewN h n
theorem qD {w : World} {g : Nat} {o : Obj} (h : w.heap[g]? = some o) : w.drew.heap[g]? = some o := blk_drew h
theorem qA {w : World} {g : Nat} {o : Obj} (h : w.heap[g]? = some o) (o2 : Obj) : (w.alloc o2).heap[g]? = some o := blk_alloc h o2
theorem pA {w W : World} (h : Below w.heap.size w W) (o : Obj) : Below w.heap.size w (W.alloc o) := below_alloc h o
theorem pN {B : Nat} {w W : World} (h : Below B w W) (n : Nat) : Below B w (W.drewN n) := pw_below_drewN h n
theorem pD {base : Nat} {w W : World} (h : Below base w W) : Below base w W.drew := below_drew1 h
theorem pS {w W : World} {g j : Nat} {v : Value} (h : Below w.heap.size w W) (hg : w.heap.size ≤ g) : Below w.heap.size w (W.setCell ⟨g, j, none⟩ v) := below_set h hg
abbrev oO : Bool := false
abbrev oI : Bool := true




def errW : Option Int → Value
  | none => .nilIface
  | some c => .iface 0 (.int .i64 c)
theorem errW_none : errW none = .nilIface := rfl
theorem errW_some (c : Int) : errW (some c) = .iface 0 (.int .i64 c) := rfl

theorem info4 : (Try.prog.info? 4).map (fun i => (i.zero, i.size, i.bytes)) = some (some (.bool false), 1, 1) := by kernel_rfl
theorem info5 : (Try.prog.info? 5).map (fun i => (i.zero, i.size, i.bytes)) = some (some (.int .u8 0), 1, 1) := by kernel_rfl
theorem info26 : (Try.prog.info? 26).map (fun i => (i.zero, i.size, i.bytes)) = some (some (.slice none 0 0), 1, 24) := by kernel_rfl
theorem info47 : (Try.prog.info? 47).map (fun i => (i.zero, i.size, i.bytes)) = some (some (.agg #[(.int .i64 0), (.slice none 0 0)]), 2, 32) := by kernel_rfl
-- the values' own types
def rd_L2 (xs : List (List Int)) (i : Int) : (List Int) := xs.getD i.toNat ([] : List Int)
theorem at_L2 {w : World} {A : Option Addr} {n : Nat} {xs : List (List Int)} (h : Kd.C (Kd.slice 5 (Kd.int .u8)) w A n xs) (i : Int) (h0 : 0 ≤ i) (h1 : i < n) : ∃ ad A0 c0, A = some ad ∧ w.cell? (ad.add i.toNat) = some (.slice A0 (rd_L2 xs i).length c0) ∧ (rd_L2 xs i).length ≤ c0 ∧ (Kd.int .u8).C w A0 (rd_L2 xs i).length (rd_L2 xs i) := by
  obtain ⟨ad, c, e, _, hK, hc0⟩ := Kd.C_get h ([] : List Int) i h0 h1
  have hc : ∀ j u, c[j]? = some u → w.cell? (ad.add (i.toNat * 1 + j)) = some u := hc0
  obtain ⟨A0, c0, rfl, l0, g0⟩ := hK
  exact ⟨ad, A0, c0, e, by have hq := hc 0 _ rfl; rwa [Nat.mul_one, Nat.add_zero] at hq, l0, g0⟩

/-! #### struct type 47 -/
structure S47 where
  f0 : Int
  f1 : (List Int)
def z47 : S47 := ⟨(0 : Int), ([] : List Int)⟩
def k47 : Kd S47 := Kd.iso (Kd.pair (Kd.int .i64) (Kd.slice 5 (Kd.int .u8))) (fun x : S47 => (x.f0, x.f1))
theorem k47_heap : Kd.Heap k47 := Kd.heap_iso _ (Kd.heap_pair (Kd.heap_int .i64) (Kd.heap_slice 5 (Kd.heap_int .u8)))
theorem k47_open {w : World} {x : S47} {cs : List Value} (h : k47.K w x cs) : ∃ A1 c1, cs = [.int .i64 x.f0, .slice A1 x.f1.length c1] ∧ x.f1.length ≤ c1 ∧ (Kd.int .u8).C w A1 x.f1.length x.f1 := by
  obtain ⟨_, _, rfl, rfl, ⟨A1, c1, rfl, l1, g1⟩⟩ := h
  exact ⟨A1, c1, rfl, l1, g1⟩
theorem k47_openM {w : World} {base : Nat} {ok : Nat → Prop} {x : S47} {cs : List Value} (h : k47.M w base ok x cs) : ∃ v1, cs = [.int .i64 x.f0, v1] ∧ (Kd.int .u8).R 5 w base ok v1 x.f1 := by
  obtain ⟨_, _, rfl, rfl, ⟨v1, rfl, g1⟩⟩ := h
  exact ⟨v1, rfl, g1⟩
theorem k47_mk (w : World) (x : S47) {A1 : Option Addr} {c1 : Nat} (l1 : x.f1.length ≤ c1) (g1 : (Kd.int .u8).C w A1 x.f1.length x.f1) : k47.K w x [.int .i64 x.f0, .slice A1 x.f1.length c1] := ⟨[.int .i64 x.f0], [.slice A1 x.f1.length c1], rfl, rfl, ⟨A1, c1, rfl, l1, g1⟩⟩
theorem k47_mkM (w : World) (base : Nat) (ok : Nat → Prop) (x : S47) {v1 : Value} (g1 : (Kd.int .u8).R 5 w base ok v1 x.f1) : k47.M w base ok x [.int .i64 x.f0, v1] := ⟨[.int .i64 x.f0], [v1], rfl, rfl, ⟨v1, rfl, g1⟩⟩
theorem k47_openF {W : World} {ok : Nat → Prop} {x : S47} {cs : List Value} (h : Kd.FK k47 W ok x cs) : ∃ A1 c1, cs = [.int .i64 x.f0, .slice A1 x.f1.length c1] ∧ x.f1.length ≤ c1 ∧ Kd.F (Kd.int .u8) W ok A1 x.f1.length x.f1 := by
  obtain ⟨A1, c1, rfl, l1, _⟩ := k47_open (Kd.FK_now h)
  exact ⟨A1, c1, rfl, l1, (fun W' hW => by obtain ⟨A1_, c1_, he, l1_, g1_⟩ := k47_open (h W' hW); injection (Option.some.inj (show some (Value.slice A1 x.f1.length c1) = some (Value.slice A1_ x.f1.length c1_) from congrArg (fun l => l[1]?) he)) with ha_ _ _; rw [ha_]; exact g1_)⟩
theorem k47_mkF (W : World) (ok : Nat → Prop) (x : S47) {A1 : Option Addr} {c1 : Nat} (l1 : x.f1.length ≤ c1) (g1 : Kd.F (Kd.int .u8) W ok A1 x.f1.length x.f1) : Kd.FK k47 W ok x [.int .i64 x.f0, .slice A1 x.f1.length c1] := fun W2 hW => k47_mk W2 x l1 (g1 W2 hW)
def rd_T47 (xs : List S47) (i : Int) : S47 := xs.getD i.toNat z47
theorem at_T47 {w : World} {A : Option Addr} {n : Nat} {xs : List S47} (h : Kd.C k47 w A n xs) (i : Int) (h0 : 0 ≤ i) (h1 : i < n) : ∃ ad A1 c1, A = some ad ∧ w.cell? (ad.add (i.toNat * 2)) = some (.int .i64 (rd_T47 xs i).f0) ∧ w.cell? ⟨(ad.add (i.toNat * 2)).block, (ad.add (i.toNat * 2)).off + 1, none⟩ = some (.slice A1 (rd_T47 xs i).f1.length c1) ∧ (rd_T47 xs i).f1.length ≤ c1 ∧ (Kd.int .u8).C w A1 (rd_T47 xs i).f1.length (rd_T47 xs i).f1 := by
  obtain ⟨ad, c, e, _, hK, hc0⟩ := Kd.C_get h z47 i h0 h1
  have hc : ∀ j u, c[j]? = some u → w.cell? (ad.add (i.toNat * 2 + j)) = some u := hc0
  obtain ⟨A1, c1, rfl, l1, g1⟩ := k47_open hK
  exact ⟨ad, A1, c1, e, hc 0 _ rfl, by rw [← add_field _ _ 1 (by omega)]; exact hc 1 _ rfl, l1, g1⟩

def rd_L4 (xs : List (List (List Int))) (i : Int) : (List (List Int)) := xs.getD i.toNat ([] : List (List Int))
theorem at_L4 {w : World} {A : Option Addr} {n : Nat} {xs : List (List (List Int))} (h : Kd.C (Kd.slice 26 (Kd.slice 5 (Kd.int .u8))) w A n xs) (i : Int) (h0 : 0 ≤ i) (h1 : i < n) : ∃ ad A0 c0, A = some ad ∧ w.cell? (ad.add i.toNat) = some (.slice A0 (rd_L4 xs i).length c0) ∧ (rd_L4 xs i).length ≤ c0 ∧ (Kd.slice 5 (Kd.int .u8)).C w A0 (rd_L4 xs i).length (rd_L4 xs i) := by
  obtain ⟨ad, c, e, _, hK, hc0⟩ := Kd.C_get h ([] : List (List Int)) i h0 h1
  have hc : ∀ j u, c[j]? = some u → w.cell? (ad.add (i.toNat * 1 + j)) = some u := hc0
  obtain ⟨A0, c0, rfl, l0, g0⟩ := hK
  exact ⟨ad, A0, c0, e, by have hq := hc 0 _ rfl; rwa [Nat.mul_one, Nat.add_zero] at hq, l0, g0⟩

def rd_L5 (xs : List (List S47)) (i : Int) : (List S47) := xs.getD i.toNat ([] : List S47)
theorem at_L5 {w : World} {A : Option Addr} {n : Nat} {xs : List (List S47)} (h : Kd.C (Kd.slice 47 k47) w A n xs) (i : Int) (h0 : 0 ≤ i) (h1 : i < n) : ∃ ad A0 c0, A = some ad ∧ w.cell? (ad.add i.toNat) = some (.slice A0 (rd_L5 xs i).length c0) ∧ (rd_L5 xs i).length ≤ c0 ∧ k47.C w A0 (rd_L5 xs i).length (rd_L5 xs i) := by
  obtain ⟨ad, c, e, _, hK, hc0⟩ := Kd.C_get h ([] : List S47) i h0 h1
  have hc : ∀ j u, c[j]? = some u → w.cell? (ad.add (i.toNat * 1 + j)) = some u := hc0
  obtain ⟨A0, c0, rfl, l0, g0⟩ := hK
  exact ⟨ad, A0, c0, e, by have hq := hc 0 _ rfl; rwa [Nat.mul_one, Nat.add_zero] at hq, l0, g0⟩

/-! #### struct type 25 -/
structure S25 where
  f0 : (List (List Int))
  f1 : (List S47)
def z25 : S25 := ⟨([] : List (List Int)), ([] : List S47)⟩
def k25 : Kd S25 := Kd.iso (Kd.pair (Kd.slice 26 (Kd.slice 5 (Kd.int .u8))) (Kd.slice 47 k47)) (fun x : S25 => (x.f0, x.f1))
theorem k25_heap : Kd.Heap k25 := Kd.heap_iso _ (Kd.heap_pair (Kd.heap_slice 26 (Kd.heap_slice 5 (Kd.heap_int .u8))) (Kd.heap_slice 47 k47_heap))
theorem k25_open {w : World} {x : S25} {cs : List Value} (h : k25.K w x cs) : ∃ A0 c0 A1 c1, cs = [.slice A0 x.f0.length c0, .slice A1 x.f1.length c1] ∧ x.f0.length ≤ c0 ∧ (Kd.slice 5 (Kd.int .u8)).C w A0 x.f0.length x.f0 ∧ x.f1.length ≤ c1 ∧ k47.C w A1 x.f1.length x.f1 := by
  obtain ⟨_, _, rfl, ⟨A0, c0, rfl, l0, g0⟩, ⟨A1, c1, rfl, l1, g1⟩⟩ := h
  exact ⟨A0, c0, A1, c1, rfl, l0, g0, l1, g1⟩
theorem k25_openM {w : World} {base : Nat} {ok : Nat → Prop} {x : S25} {cs : List Value} (h : k25.M w base ok x cs) : ∃ v0 v1, cs = [v0, v1] ∧ (Kd.slice 5 (Kd.int .u8)).R 26 w base ok v0 x.f0 ∧ k47.R 47 w base ok v1 x.f1 := by
  obtain ⟨_, _, rfl, ⟨v0, rfl, g0⟩, ⟨v1, rfl, g1⟩⟩ := h
  exact ⟨v0, v1, rfl, g0, g1⟩
theorem k25_mk (w : World) (x : S25) {A0 : Option Addr} {c0 : Nat} (l0 : x.f0.length ≤ c0) (g0 : (Kd.slice 5 (Kd.int .u8)).C w A0 x.f0.length x.f0) {A1 : Option Addr} {c1 : Nat} (l1 : x.f1.length ≤ c1) (g1 : k47.C w A1 x.f1.length x.f1) : k25.K w x [.slice A0 x.f0.length c0, .slice A1 x.f1.length c1] := ⟨[.slice A0 x.f0.length c0], [.slice A1 x.f1.length c1], rfl, ⟨A0, c0, rfl, l0, g0⟩, ⟨A1, c1, rfl, l1, g1⟩⟩
theorem k25_mkM (w : World) (base : Nat) (ok : Nat → Prop) (x : S25) {v0 : Value} (g0 : (Kd.slice 5 (Kd.int .u8)).R 26 w base ok v0 x.f0) {v1 : Value} (g1 : k47.R 47 w base ok v1 x.f1) : k25.M w base ok x [v0, v1] := ⟨[v0], [v1], rfl, ⟨v0, rfl, g0⟩, ⟨v1, rfl, g1⟩⟩
theorem k25_openF {W : World} {ok : Nat → Prop} {x : S25} {cs : List Value} (h : Kd.FK k25 W ok x cs) : ∃ A0 c0 A1 c1, cs = [.slice A0 x.f0.length c0, .slice A1 x.f1.length c1] ∧ x.f0.length ≤ c0 ∧ Kd.F (Kd.slice 5 (Kd.int .u8)) W ok A0 x.f0.length x.f0 ∧ x.f1.length ≤ c1 ∧ Kd.F k47 W ok A1 x.f1.length x.f1 := by
  obtain ⟨A0, c0, A1, c1, rfl, l0, _, l1, _⟩ := k25_open (Kd.FK_now h)
  exact ⟨A0, c0, A1, c1, rfl, l0, (fun W' hW => by obtain ⟨A0_, c0_, A1_, c1_, he, l0_, g0_, l1_, g1_⟩ := k25_open (h W' hW); injection (Option.some.inj (show some (Value.slice A0 x.f0.length c0) = some (Value.slice A0_ x.f0.length c0_) from congrArg (fun l => l[0]?) he)) with ha_ _ _; rw [ha_]; exact g0_), l1, (fun W' hW => by obtain ⟨A0_, c0_, A1_, c1_, he, l0_, g0_, l1_, g1_⟩ := k25_open (h W' hW); injection (Option.some.inj (show some (Value.slice A1 x.f1.length c1) = some (Value.slice A1_ x.f1.length c1_) from congrArg (fun l => l[1]?) he)) with ha_ _ _; rw [ha_]; exact g1_)⟩
theorem k25_mkF (W : World) (ok : Nat → Prop) (x : S25) {A0 : Option Addr} {c0 : Nat} (l0 : x.f0.length ≤ c0) (g0 : Kd.F (Kd.slice 5 (Kd.int .u8)) W ok A0 x.f0.length x.f0) {A1 : Option Addr} {c1 : Nat} (l1 : x.f1.length ≤ c1) (g1 : Kd.F k47 W ok A1 x.f1.length x.f1) : Kd.FK k25 W ok x [.slice A0 x.f0.length c0, .slice A1 x.f1.length c1] := fun W2 hW => k25_mk W2 x l0 (g0 W2 hW) l1 (g1 W2 hW)
def rd_T25 (xs : List S25) (i : Int) : S25 := xs.getD i.toNat z25
theorem at_T25 {w : World} {A : Option Addr} {n : Nat} {xs : List S25} (h : Kd.C k25 w A n xs) (i : Int) (h0 : 0 ≤ i) (h1 : i < n) : ∃ ad A0 c0 A1 c1, A = some ad ∧ w.cell? (ad.add (i.toNat * 2)) = some (.slice A0 (rd_T25 xs i).f0.length c0) ∧ w.cell? ⟨(ad.add (i.toNat * 2)).block, (ad.add (i.toNat * 2)).off + 1, none⟩ = some (.slice A1 (rd_T25 xs i).f1.length c1) ∧ (rd_T25 xs i).f0.length ≤ c0 ∧ (Kd.slice 5 (Kd.int .u8)).C w A0 (rd_T25 xs i).f0.length (rd_T25 xs i).f0 ∧ (rd_T25 xs i).f1.length ≤ c1 ∧ k47.C w A1 (rd_T25 xs i).f1.length (rd_T25 xs i).f1 := by
  obtain ⟨ad, c, e, _, hK, hc0⟩ := Kd.C_get h z25 i h0 h1
  have hc : ∀ j u, c[j]? = some u → w.cell? (ad.add (i.toNat * 2 + j)) = some u := hc0
  obtain ⟨A0, c0, A1, c1, rfl, l0, g0, l1, g1⟩ := k25_open hK
  exact ⟨ad, A0, c0, A1, c1, e, hc 0 _ rfl, by rw [← add_field _ _ 1 (by omega)]; exact hc 1 _ rfl, l0, g0, l1, g1⟩

def rd_L8 (xs : List (List Bool)) (i : Int) : (List Bool) := xs.getD i.toNat ([] : List Bool)
theorem at_L8 {w : World} {A : Option Addr} {n : Nat} {xs : List (List Bool)} (h : Kd.C (Kd.slice 4 Kd.bool) w A n xs) (i : Int) (h0 : 0 ≤ i) (h1 : i < n) : ∃ ad A0 c0, A = some ad ∧ w.cell? (ad.add i.toNat) = some (.slice A0 (rd_L8 xs i).length c0) ∧ (rd_L8 xs i).length ≤ c0 ∧ Kd.bool.C w A0 (rd_L8 xs i).length (rd_L8 xs i) := by
  obtain ⟨ad, c, e, _, hK, hc0⟩ := Kd.C_get h ([] : List Bool) i h0 h1
  have hc : ∀ j u, c[j]? = some u → w.cell? (ad.add (i.toNat * 1 + j)) = some u := hc0
  obtain ⟨A0, c0, rfl, l0, g0⟩ := hK
  exact ⟨ad, A0, c0, e, by have hq := hc 0 _ rfl; rwa [Nat.mul_one, Nat.add_zero] at hq, l0, g0⟩

/-! #### struct type 29 -/
structure S29 where
  f0 : S25
  f1 : Int
  f2 : (List Int)
  f3 : (List Bool)
def z29 : S29 := ⟨z25, (0 : Int), ([] : List Int), ([] : List Bool)⟩
def k29 : Kd S29 := Kd.iso (Kd.pair k25 (Kd.pair (Kd.int .i64) (Kd.pair (Kd.slice 5 (Kd.int .u8)) (Kd.slice 4 Kd.bool)))) (fun x : S29 => (x.f0, x.f1, x.f2, x.f3))
theorem k29_heap : Kd.Heap k29 := Kd.heap_iso _ (Kd.heap_pair k25_heap (Kd.heap_pair (Kd.heap_int .i64) (Kd.heap_pair (Kd.heap_slice 5 (Kd.heap_int .u8)) (Kd.heap_slice 4 Kd.heap_bool))))
theorem k29_open {w : World} {x : S29} {cs : List Value} (h : k29.K w x cs) : ∃ A0 c0 A1 c1 A3 c3 A4 c4, cs = [.slice A0 x.f0.f0.length c0, .slice A1 x.f0.f1.length c1, .int .i64 x.f1, .slice A3 x.f2.length c3, .slice A4 x.f3.length c4] ∧ x.f0.f0.length ≤ c0 ∧ (Kd.slice 5 (Kd.int .u8)).C w A0 x.f0.f0.length x.f0.f0 ∧ x.f0.f1.length ≤ c1 ∧ k47.C w A1 x.f0.f1.length x.f0.f1 ∧ x.f2.length ≤ c3 ∧ (Kd.int .u8).C w A3 x.f2.length x.f2 ∧ x.f3.length ≤ c4 ∧ Kd.bool.C w A4 x.f3.length x.f3 := by
  obtain ⟨_, _, rfl, s0, ⟨_, _, rfl, rfl, ⟨_, _, rfl, ⟨A3, c3, rfl, l3, g3⟩, ⟨A4, c4, rfl, l4, g4⟩⟩⟩⟩ := h
  obtain ⟨A0, c0, A1, c1, rfl, l0, g0, l1, g1⟩ := k25_open s0
  exact ⟨A0, c0, A1, c1, A3, c3, A4, c4, rfl, l0, g0, l1, g1, l3, g3, l4, g4⟩
theorem k29_openM {w : World} {base : Nat} {ok : Nat → Prop} {x : S29} {cs : List Value} (h : k29.M w base ok x cs) : ∃ v0 v1 v3 v4, cs = [v0, v1, .int .i64 x.f1, v3, v4] ∧ (Kd.slice 5 (Kd.int .u8)).R 26 w base ok v0 x.f0.f0 ∧ k47.R 47 w base ok v1 x.f0.f1 ∧ (Kd.int .u8).R 5 w base ok v3 x.f2 ∧ Kd.bool.R 4 w base ok v4 x.f3 := by
  obtain ⟨_, _, rfl, s0, ⟨_, _, rfl, rfl, ⟨_, _, rfl, ⟨v3, rfl, g3⟩, ⟨v4, rfl, g4⟩⟩⟩⟩ := h
  obtain ⟨v0, v1, rfl, g0, g1⟩ := k25_openM s0
  exact ⟨v0, v1, v3, v4, rfl, g0, g1, g3, g4⟩
theorem k29_mk (w : World) (x : S29) {A0 : Option Addr} {c0 : Nat} (l0 : x.f0.f0.length ≤ c0) (g0 : (Kd.slice 5 (Kd.int .u8)).C w A0 x.f0.f0.length x.f0.f0) {A1 : Option Addr} {c1 : Nat} (l1 : x.f0.f1.length ≤ c1) (g1 : k47.C w A1 x.f0.f1.length x.f0.f1) {A3 : Option Addr} {c3 : Nat} (l3 : x.f2.length ≤ c3) (g3 : (Kd.int .u8).C w A3 x.f2.length x.f2) {A4 : Option Addr} {c4 : Nat} (l4 : x.f3.length ≤ c4) (g4 : Kd.bool.C w A4 x.f3.length x.f3) : k29.K w x [.slice A0 x.f0.f0.length c0, .slice A1 x.f0.f1.length c1, .int .i64 x.f1, .slice A3 x.f2.length c3, .slice A4 x.f3.length c4] := ⟨[.slice A0 x.f0.f0.length c0, .slice A1 x.f0.f1.length c1], [.int .i64 x.f1, .slice A3 x.f2.length c3, .slice A4 x.f3.length c4], rfl, (k25_mk w x.f0 l0 g0 l1 g1), ⟨[.int .i64 x.f1], [.slice A3 x.f2.length c3, .slice A4 x.f3.length c4], rfl, rfl, ⟨[.slice A3 x.f2.length c3], [.slice A4 x.f3.length c4], rfl, ⟨A3, c3, rfl, l3, g3⟩, ⟨A4, c4, rfl, l4, g4⟩⟩⟩⟩
theorem k29_mkM (w : World) (base : Nat) (ok : Nat → Prop) (x : S29) {v0 : Value} (g0 : (Kd.slice 5 (Kd.int .u8)).R 26 w base ok v0 x.f0.f0) {v1 : Value} (g1 : k47.R 47 w base ok v1 x.f0.f1) {v3 : Value} (g3 : (Kd.int .u8).R 5 w base ok v3 x.f2) {v4 : Value} (g4 : Kd.bool.R 4 w base ok v4 x.f3) : k29.M w base ok x [v0, v1, .int .i64 x.f1, v3, v4] := ⟨[v0, v1], [.int .i64 x.f1, v3, v4], rfl, (k25_mkM w base ok x.f0 g0 g1), ⟨[.int .i64 x.f1], [v3, v4], rfl, rfl, ⟨[v3], [v4], rfl, ⟨v3, rfl, g3⟩, ⟨v4, rfl, g4⟩⟩⟩⟩
theorem k29_openF {W : World} {ok : Nat → Prop} {x : S29} {cs : List Value} (h : Kd.FK k29 W ok x cs) : ∃ A0 c0 A1 c1 A3 c3 A4 c4, cs = [.slice A0 x.f0.f0.length c0, .slice A1 x.f0.f1.length c1, .int .i64 x.f1, .slice A3 x.f2.length c3, .slice A4 x.f3.length c4] ∧ x.f0.f0.length ≤ c0 ∧ Kd.F (Kd.slice 5 (Kd.int .u8)) W ok A0 x.f0.f0.length x.f0.f0 ∧ x.f0.f1.length ≤ c1 ∧ Kd.F k47 W ok A1 x.f0.f1.length x.f0.f1 ∧ x.f2.length ≤ c3 ∧ Kd.F (Kd.int .u8) W ok A3 x.f2.length x.f2 ∧ x.f3.length ≤ c4 ∧ Kd.F Kd.bool W ok A4 x.f3.length x.f3 := by
  obtain ⟨A0, c0, A1, c1, A3, c3, A4, c4, rfl, l0, _, l1, _, l3, _, l4, _⟩ := k29_open (Kd.FK_now h)
  exact ⟨A0, c0, A1, c1, A3, c3, A4, c4, rfl, l0, (fun W' hW => by obtain ⟨A0_, c0_, A1_, c1_, A3_, c3_, A4_, c4_, he, l0_, g0_, l1_, g1_, l3_, g3_, l4_, g4_⟩ := k29_open (h W' hW); injection (Option.some.inj (show some (Value.slice A0 x.f0.f0.length c0) = some (Value.slice A0_ x.f0.f0.length c0_) from congrArg (fun l => l[0]?) he)) with ha_ _ _; rw [ha_]; exact g0_), l1, (fun W' hW => by obtain ⟨A0_, c0_, A1_, c1_, A3_, c3_, A4_, c4_, he, l0_, g0_, l1_, g1_, l3_, g3_, l4_, g4_⟩ := k29_open (h W' hW); injection (Option.some.inj (show some (Value.slice A1 x.f0.f1.length c1) = some (Value.slice A1_ x.f0.f1.length c1_) from congrArg (fun l => l[1]?) he)) with ha_ _ _; rw [ha_]; exact g1_), l3, (fun W' hW => by obtain ⟨A0_, c0_, A1_, c1_, A3_, c3_, A4_, c4_, he, l0_, g0_, l1_, g1_, l3_, g3_, l4_, g4_⟩ := k29_open (h W' hW); injection (Option.some.inj (show some (Value.slice A3 x.f2.length c3) = some (Value.slice A3_ x.f2.length c3_) from congrArg (fun l => l[3]?) he)) with ha_ _ _; rw [ha_]; exact g3_), l4, (fun W' hW => by obtain ⟨A0_, c0_, A1_, c1_, A3_, c3_, A4_, c4_, he, l0_, g0_, l1_, g1_, l3_, g3_, l4_, g4_⟩ := k29_open (h W' hW); injection (Option.some.inj (show some (Value.slice A4 x.f3.length c4) = some (Value.slice A4_ x.f3.length c4_) from congrArg (fun l => l[4]?) he)) with ha_ _ _; rw [ha_]; exact g4_)⟩
theorem k29_mkF (W : World) (ok : Nat → Prop) (x : S29) {A0 : Option Addr} {c0 : Nat} (l0 : x.f0.f0.length ≤ c0) (g0 : Kd.F (Kd.slice 5 (Kd.int .u8)) W ok A0 x.f0.f0.length x.f0.f0) {A1 : Option Addr} {c1 : Nat} (l1 : x.f0.f1.length ≤ c1) (g1 : Kd.F k47 W ok A1 x.f0.f1.length x.f0.f1) {A3 : Option Addr} {c3 : Nat} (l3 : x.f2.length ≤ c3) (g3 : Kd.F (Kd.int .u8) W ok A3 x.f2.length x.f2) {A4 : Option Addr} {c4 : Nat} (l4 : x.f3.length ≤ c4) (g4 : Kd.F Kd.bool W ok A4 x.f3.length x.f3) : Kd.FK k29 W ok x [.slice A0 x.f0.f0.length c0, .slice A1 x.f0.f1.length c1, .int .i64 x.f1, .slice A3 x.f2.length c3, .slice A4 x.f3.length c4] := fun W2 hW => k29_mk W2 x l0 (g0 W2 hW) l1 (g1 W2 hW) l3 (g3 W2 hW) l4 (g4 W2 hW)
def rd_T29 (xs : List S29) (i : Int) : S29 := xs.getD i.toNat z29
theorem at_T29 {w : World} {A : Option Addr} {n : Nat} {xs : List S29} (h : Kd.C k29 w A n xs) (i : Int) (h0 : 0 ≤ i) (h1 : i < n) : ∃ ad A0 c0 A1 c1 A3 c3 A4 c4, A = some ad ∧ w.cell? (ad.add (i.toNat * 5)) = some (.slice A0 (rd_T29 xs i).f0.f0.length c0) ∧ w.cell? ⟨(ad.add (i.toNat * 5)).block, (ad.add (i.toNat * 5)).off + 1, none⟩ = some (.slice A1 (rd_T29 xs i).f0.f1.length c1) ∧ w.cell? ⟨(ad.add (i.toNat * 5)).block, (ad.add (i.toNat * 5)).off + 2, none⟩ = some (.int .i64 (rd_T29 xs i).f1) ∧ w.cell? ⟨(ad.add (i.toNat * 5)).block, (ad.add (i.toNat * 5)).off + 3, none⟩ = some (.slice A3 (rd_T29 xs i).f2.length c3) ∧ w.cell? ⟨(ad.add (i.toNat * 5)).block, (ad.add (i.toNat * 5)).off + 4, none⟩ = some (.slice A4 (rd_T29 xs i).f3.length c4) ∧ (rd_T29 xs i).f0.f0.length ≤ c0 ∧ (Kd.slice 5 (Kd.int .u8)).C w A0 (rd_T29 xs i).f0.f0.length (rd_T29 xs i).f0.f0 ∧ (rd_T29 xs i).f0.f1.length ≤ c1 ∧ k47.C w A1 (rd_T29 xs i).f0.f1.length (rd_T29 xs i).f0.f1 ∧ (rd_T29 xs i).f2.length ≤ c3 ∧ (Kd.int .u8).C w A3 (rd_T29 xs i).f2.length (rd_T29 xs i).f2 ∧ (rd_T29 xs i).f3.length ≤ c4 ∧ Kd.bool.C w A4 (rd_T29 xs i).f3.length (rd_T29 xs i).f3 := by
  obtain ⟨ad, c, e, _, hK, hc0⟩ := Kd.C_get h z29 i h0 h1
  have hc : ∀ j u, c[j]? = some u → w.cell? (ad.add (i.toNat * 5 + j)) = some u := hc0
  obtain ⟨A0, c0, A1, c1, A3, c3, A4, c4, rfl, l0, g0, l1, g1, l3, g3, l4, g4⟩ := k29_open hK
  exact ⟨ad, A0, c0, A1, c1, A3, c3, A4, c4, e, hc 0 _ rfl, by rw [← add_field _ _ 1 (by omega)]; exact hc 1 _ rfl, by rw [← add_field _ _ 2 (by omega)]; exact hc 2 _ rfl, by rw [← add_field _ _ 3 (by omega)]; exact hc 3 _ rfl, by rw [← add_field _ _ 4 (by omega)]; exact hc 4 _ rfl, l0, g0, l1, g1, l3, g3, l4, g4⟩

/-! #### struct type 50 -/
structure S50 where
  f0 : S25
  f1 : Int
  f2 : (List Int)
  f3 : Int
def z50 : S50 := ⟨z25, (0 : Int), ([] : List Int), (0 : Int)⟩
def k50 : Kd S50 := Kd.iso (Kd.pair k25 (Kd.pair (Kd.int .i64) (Kd.pair (Kd.slice 5 (Kd.int .u8)) (Kd.int .i64)))) (fun x : S50 => (x.f0, x.f1, x.f2, x.f3))
theorem k50_heap : Kd.Heap k50 := Kd.heap_iso _ (Kd.heap_pair k25_heap (Kd.heap_pair (Kd.heap_int .i64) (Kd.heap_pair (Kd.heap_slice 5 (Kd.heap_int .u8)) (Kd.heap_int .i64))))
theorem k50_open {w : World} {x : S50} {cs : List Value} (h : k50.K w x cs) : ∃ A0 c0 A1 c1 A3 c3, cs = [.slice A0 x.f0.f0.length c0, .slice A1 x.f0.f1.length c1, .int .i64 x.f1, .slice A3 x.f2.length c3, .int .i64 x.f3] ∧ x.f0.f0.length ≤ c0 ∧ (Kd.slice 5 (Kd.int .u8)).C w A0 x.f0.f0.length x.f0.f0 ∧ x.f0.f1.length ≤ c1 ∧ k47.C w A1 x.f0.f1.length x.f0.f1 ∧ x.f2.length ≤ c3 ∧ (Kd.int .u8).C w A3 x.f2.length x.f2 := by
  obtain ⟨_, _, rfl, s0, ⟨_, _, rfl, rfl, ⟨_, _, rfl, ⟨A3, c3, rfl, l3, g3⟩, rfl⟩⟩⟩ := h
  obtain ⟨A0, c0, A1, c1, rfl, l0, g0, l1, g1⟩ := k25_open s0
  exact ⟨A0, c0, A1, c1, A3, c3, rfl, l0, g0, l1, g1, l3, g3⟩
theorem k50_openM {w : World} {base : Nat} {ok : Nat → Prop} {x : S50} {cs : List Value} (h : k50.M w base ok x cs) : ∃ v0 v1 v3, cs = [v0, v1, .int .i64 x.f1, v3, .int .i64 x.f3] ∧ (Kd.slice 5 (Kd.int .u8)).R 26 w base ok v0 x.f0.f0 ∧ k47.R 47 w base ok v1 x.f0.f1 ∧ (Kd.int .u8).R 5 w base ok v3 x.f2 := by
  obtain ⟨_, _, rfl, s0, ⟨_, _, rfl, rfl, ⟨_, _, rfl, ⟨v3, rfl, g3⟩, rfl⟩⟩⟩ := h
  obtain ⟨v0, v1, rfl, g0, g1⟩ := k25_openM s0
  exact ⟨v0, v1, v3, rfl, g0, g1, g3⟩
theorem k50_mk (w : World) (x : S50) {A0 : Option Addr} {c0 : Nat} (l0 : x.f0.f0.length ≤ c0) (g0 : (Kd.slice 5 (Kd.int .u8)).C w A0 x.f0.f0.length x.f0.f0) {A1 : Option Addr} {c1 : Nat} (l1 : x.f0.f1.length ≤ c1) (g1 : k47.C w A1 x.f0.f1.length x.f0.f1) {A3 : Option Addr} {c3 : Nat} (l3 : x.f2.length ≤ c3) (g3 : (Kd.int .u8).C w A3 x.f2.length x.f2) : k50.K w x [.slice A0 x.f0.f0.length c0, .slice A1 x.f0.f1.length c1, .int .i64 x.f1, .slice A3 x.f2.length c3, .int .i64 x.f3] := ⟨[.slice A0 x.f0.f0.length c0, .slice A1 x.f0.f1.length c1], [.int .i64 x.f1, .slice A3 x.f2.length c3, .int .i64 x.f3], rfl, (k25_mk w x.f0 l0 g0 l1 g1), ⟨[.int .i64 x.f1], [.slice A3 x.f2.length c3, .int .i64 x.f3], rfl, rfl, ⟨[.slice A3 x.f2.length c3], [.int .i64 x.f3], rfl, ⟨A3, c3, rfl, l3, g3⟩, rfl⟩⟩⟩
theorem k50_mkM (w : World) (base : Nat) (ok : Nat → Prop) (x : S50) {v0 : Value} (g0 : (Kd.slice 5 (Kd.int .u8)).R 26 w base ok v0 x.f0.f0) {v1 : Value} (g1 : k47.R 47 w base ok v1 x.f0.f1) {v3 : Value} (g3 : (Kd.int .u8).R 5 w base ok v3 x.f2) : k50.M w base ok x [v0, v1, .int .i64 x.f1, v3, .int .i64 x.f3] := ⟨[v0, v1], [.int .i64 x.f1, v3, .int .i64 x.f3], rfl, (k25_mkM w base ok x.f0 g0 g1), ⟨[.int .i64 x.f1], [v3, .int .i64 x.f3], rfl, rfl, ⟨[v3], [.int .i64 x.f3], rfl, ⟨v3, rfl, g3⟩, rfl⟩⟩⟩
theorem k50_openF {W : World} {ok : Nat → Prop} {x : S50} {cs : List Value} (h : Kd.FK k50 W ok x cs) : ∃ A0 c0 A1 c1 A3 c3, cs = [.slice A0 x.f0.f0.length c0, .slice A1 x.f0.f1.length c1, .int .i64 x.f1, .slice A3 x.f2.length c3, .int .i64 x.f3] ∧ x.f0.f0.length ≤ c0 ∧ Kd.F (Kd.slice 5 (Kd.int .u8)) W ok A0 x.f0.f0.length x.f0.f0 ∧ x.f0.f1.length ≤ c1 ∧ Kd.F k47 W ok A1 x.f0.f1.length x.f0.f1 ∧ x.f2.length ≤ c3 ∧ Kd.F (Kd.int .u8) W ok A3 x.f2.length x.f2 := by
  obtain ⟨A0, c0, A1, c1, A3, c3, rfl, l0, _, l1, _, l3, _⟩ := k50_open (Kd.FK_now h)
  exact ⟨A0, c0, A1, c1, A3, c3, rfl, l0, (fun W' hW => by obtain ⟨A0_, c0_, A1_, c1_, A3_, c3_, he, l0_, g0_, l1_, g1_, l3_, g3_⟩ := k50_open (h W' hW); injection (Option.some.inj (show some (Value.slice A0 x.f0.f0.length c0) = some (Value.slice A0_ x.f0.f0.length c0_) from congrArg (fun l => l[0]?) he)) with ha_ _ _; rw [ha_]; exact g0_), l1, (fun W' hW => by obtain ⟨A0_, c0_, A1_, c1_, A3_, c3_, he, l0_, g0_, l1_, g1_, l3_, g3_⟩ := k50_open (h W' hW); injection (Option.some.inj (show some (Value.slice A1 x.f0.f1.length c1) = some (Value.slice A1_ x.f0.f1.length c1_) from congrArg (fun l => l[1]?) he)) with ha_ _ _; rw [ha_]; exact g1_), l3, (fun W' hW => by obtain ⟨A0_, c0_, A1_, c1_, A3_, c3_, he, l0_, g0_, l1_, g1_, l3_, g3_⟩ := k50_open (h W' hW); injection (Option.some.inj (show some (Value.slice A3 x.f2.length c3) = some (Value.slice A3_ x.f2.length c3_) from congrArg (fun l => l[3]?) he)) with ha_ _ _; rw [ha_]; exact g3_)⟩
theorem k50_mkF (W : World) (ok : Nat → Prop) (x : S50) {A0 : Option Addr} {c0 : Nat} (l0 : x.f0.f0.length ≤ c0) (g0 : Kd.F (Kd.slice 5 (Kd.int .u8)) W ok A0 x.f0.f0.length x.f0.f0) {A1 : Option Addr} {c1 : Nat} (l1 : x.f0.f1.length ≤ c1) (g1 : Kd.F k47 W ok A1 x.f0.f1.length x.f0.f1) {A3 : Option Addr} {c3 : Nat} (l3 : x.f2.length ≤ c3) (g3 : Kd.F (Kd.int .u8) W ok A3 x.f2.length x.f2) : Kd.FK k50 W ok x [.slice A0 x.f0.f0.length c0, .slice A1 x.f0.f1.length c1, .int .i64 x.f1, .slice A3 x.f2.length c3, .int .i64 x.f3] := fun W2 hW => k50_mk W2 x l0 (g0 W2 hW) l1 (g1 W2 hW) l3 (g3 W2 hW)
def rd_T50 (xs : List S50) (i : Int) : S50 := xs.getD i.toNat z50
theorem at_T50 {w : World} {A : Option Addr} {n : Nat} {xs : List S50} (h : Kd.C k50 w A n xs) (i : Int) (h0 : 0 ≤ i) (h1 : i < n) : ∃ ad A0 c0 A1 c1 A3 c3, A = some ad ∧ w.cell? (ad.add (i.toNat * 5)) = some (.slice A0 (rd_T50 xs i).f0.f0.length c0) ∧ w.cell? ⟨(ad.add (i.toNat * 5)).block, (ad.add (i.toNat * 5)).off + 1, none⟩ = some (.slice A1 (rd_T50 xs i).f0.f1.length c1) ∧ w.cell? ⟨(ad.add (i.toNat * 5)).block, (ad.add (i.toNat * 5)).off + 2, none⟩ = some (.int .i64 (rd_T50 xs i).f1) ∧ w.cell? ⟨(ad.add (i.toNat * 5)).block, (ad.add (i.toNat * 5)).off + 3, none⟩ = some (.slice A3 (rd_T50 xs i).f2.length c3) ∧ w.cell? ⟨(ad.add (i.toNat * 5)).block, (ad.add (i.toNat * 5)).off + 4, none⟩ = some (.int .i64 (rd_T50 xs i).f3) ∧ (rd_T50 xs i).f0.f0.length ≤ c0 ∧ (Kd.slice 5 (Kd.int .u8)).C w A0 (rd_T50 xs i).f0.f0.length (rd_T50 xs i).f0.f0 ∧ (rd_T50 xs i).f0.f1.length ≤ c1 ∧ k47.C w A1 (rd_T50 xs i).f0.f1.length (rd_T50 xs i).f0.f1 ∧ (rd_T50 xs i).f2.length ≤ c3 ∧ (Kd.int .u8).C w A3 (rd_T50 xs i).f2.length (rd_T50 xs i).f2 := by
  obtain ⟨ad, c, e, _, hK, hc0⟩ := Kd.C_get h z50 i h0 h1
  have hc : ∀ j u, c[j]? = some u → w.cell? (ad.add (i.toNat * 5 + j)) = some u := hc0
  obtain ⟨A0, c0, A1, c1, A3, c3, rfl, l0, g0, l1, g1, l3, g3⟩ := k50_open hK
  exact ⟨ad, A0, c0, A1, c1, A3, c3, e, hc 0 _ rfl, by rw [← add_field _ _ 1 (by omega)]; exact hc 1 _ rfl, by rw [← add_field _ _ 2 (by omega)]; exact hc 2 _ rfl, by rw [← add_field _ _ 3 (by omega)]; exact hc 3 _ rfl, by rw [← add_field _ _ 4 (by omega)]; exact hc 4 _ rfl, l0, g0, l1, g1, l3, g3⟩

/-! #### struct type 53 -/
structure S53 where
  f0 : S25
  f1 : Int
  f2 : Int
  f3 : (List Int)
  f4 : (List Int)
def z53 : S53 := ⟨z25, (0 : Int), (0 : Int), ([] : List Int), ([] : List Int)⟩
def k53 : Kd S53 := Kd.iso (Kd.pair k25 (Kd.pair (Kd.int .i64) (Kd.pair (Kd.int .i64) (Kd.pair (Kd.slice 5 (Kd.int .u8)) (Kd.slice 5 (Kd.int .u8)))))) (fun x : S53 => (x.f0, x.f1, x.f2, x.f3, x.f4))
theorem k53_heap : Kd.Heap k53 := Kd.heap_iso _ (Kd.heap_pair k25_heap (Kd.heap_pair (Kd.heap_int .i64) (Kd.heap_pair (Kd.heap_int .i64) (Kd.heap_pair (Kd.heap_slice 5 (Kd.heap_int .u8)) (Kd.heap_slice 5 (Kd.heap_int .u8))))))
theorem k53_open {w : World} {x : S53} {cs : List Value} (h : k53.K w x cs) : ∃ A0 c0 A1 c1 A4 c4 A5 c5, cs = [.slice A0 x.f0.f0.length c0, .slice A1 x.f0.f1.length c1, .int .i64 x.f1, .int .i64 x.f2, .slice A4 x.f3.length c4, .slice A5 x.f4.length c5] ∧ x.f0.f0.length ≤ c0 ∧ (Kd.slice 5 (Kd.int .u8)).C w A0 x.f0.f0.length x.f0.f0 ∧ x.f0.f1.length ≤ c1 ∧ k47.C w A1 x.f0.f1.length x.f0.f1 ∧ x.f3.length ≤ c4 ∧ (Kd.int .u8).C w A4 x.f3.length x.f3 ∧ x.f4.length ≤ c5 ∧ (Kd.int .u8).C w A5 x.f4.length x.f4 := by
  obtain ⟨_, _, rfl, s0, ⟨_, _, rfl, rfl, ⟨_, _, rfl, rfl, ⟨_, _, rfl, ⟨A4, c4, rfl, l4, g4⟩, ⟨A5, c5, rfl, l5, g5⟩⟩⟩⟩⟩ := h
  obtain ⟨A0, c0, A1, c1, rfl, l0, g0, l1, g1⟩ := k25_open s0
  exact ⟨A0, c0, A1, c1, A4, c4, A5, c5, rfl, l0, g0, l1, g1, l4, g4, l5, g5⟩
theorem k53_openM {w : World} {base : Nat} {ok : Nat → Prop} {x : S53} {cs : List Value} (h : k53.M w base ok x cs) : ∃ v0 v1 v4 v5, cs = [v0, v1, .int .i64 x.f1, .int .i64 x.f2, v4, v5] ∧ (Kd.slice 5 (Kd.int .u8)).R 26 w base ok v0 x.f0.f0 ∧ k47.R 47 w base ok v1 x.f0.f1 ∧ (Kd.int .u8).R 5 w base ok v4 x.f3 ∧ (Kd.int .u8).R 5 w base ok v5 x.f4 := by
  obtain ⟨_, _, rfl, s0, ⟨_, _, rfl, rfl, ⟨_, _, rfl, rfl, ⟨_, _, rfl, ⟨v4, rfl, g4⟩, ⟨v5, rfl, g5⟩⟩⟩⟩⟩ := h
  obtain ⟨v0, v1, rfl, g0, g1⟩ := k25_openM s0
  exact ⟨v0, v1, v4, v5, rfl, g0, g1, g4, g5⟩
theorem k53_mk (w : World) (x : S53) {A0 : Option Addr} {c0 : Nat} (l0 : x.f0.f0.length ≤ c0) (g0 : (Kd.slice 5 (Kd.int .u8)).C w A0 x.f0.f0.length x.f0.f0) {A1 : Option Addr} {c1 : Nat} (l1 : x.f0.f1.length ≤ c1) (g1 : k47.C w A1 x.f0.f1.length x.f0.f1) {A4 : Option Addr} {c4 : Nat} (l4 : x.f3.length ≤ c4) (g4 : (Kd.int .u8).C w A4 x.f3.length x.f3) {A5 : Option Addr} {c5 : Nat} (l5 : x.f4.length ≤ c5) (g5 : (Kd.int .u8).C w A5 x.f4.length x.f4) : k53.K w x [.slice A0 x.f0.f0.length c0, .slice A1 x.f0.f1.length c1, .int .i64 x.f1, .int .i64 x.f2, .slice A4 x.f3.length c4, .slice A5 x.f4.length c5] := ⟨[.slice A0 x.f0.f0.length c0, .slice A1 x.f0.f1.length c1], [.int .i64 x.f1, .int .i64 x.f2, .slice A4 x.f3.length c4, .slice A5 x.f4.length c5], rfl, (k25_mk w x.f0 l0 g0 l1 g1), ⟨[.int .i64 x.f1], [.int .i64 x.f2, .slice A4 x.f3.length c4, .slice A5 x.f4.length c5], rfl, rfl, ⟨[.int .i64 x.f2], [.slice A4 x.f3.length c4, .slice A5 x.f4.length c5], rfl, rfl, ⟨[.slice A4 x.f3.length c4], [.slice A5 x.f4.length c5], rfl, ⟨A4, c4, rfl, l4, g4⟩, ⟨A5, c5, rfl, l5, g5⟩⟩⟩⟩⟩
theorem k53_mkM (w : World) (base : Nat) (ok : Nat → Prop) (x : S53) {v0 : Value} (g0 : (Kd.slice 5 (Kd.int .u8)).R 26 w base ok v0 x.f0.f0) {v1 : Value} (g1 : k47.R 47 w base ok v1 x.f0.f1) {v4 : Value} (g4 : (Kd.int .u8).R 5 w base ok v4 x.f3) {v5 : Value} (g5 : (Kd.int .u8).R 5 w base ok v5 x.f4) : k53.M w base ok x [v0, v1, .int .i64 x.f1, .int .i64 x.f2, v4, v5] := ⟨[v0, v1], [.int .i64 x.f1, .int .i64 x.f2, v4, v5], rfl, (k25_mkM w base ok x.f0 g0 g1), ⟨[.int .i64 x.f1], [.int .i64 x.f2, v4, v5], rfl, rfl, ⟨[.int .i64 x.f2], [v4, v5], rfl, rfl, ⟨[v4], [v5], rfl, ⟨v4, rfl, g4⟩, ⟨v5, rfl, g5⟩⟩⟩⟩⟩
theorem k53_openF {W : World} {ok : Nat → Prop} {x : S53} {cs : List Value} (h : Kd.FK k53 W ok x cs) : ∃ A0 c0 A1 c1 A4 c4 A5 c5, cs = [.slice A0 x.f0.f0.length c0, .slice A1 x.f0.f1.length c1, .int .i64 x.f1, .int .i64 x.f2, .slice A4 x.f3.length c4, .slice A5 x.f4.length c5] ∧ x.f0.f0.length ≤ c0 ∧ Kd.F (Kd.slice 5 (Kd.int .u8)) W ok A0 x.f0.f0.length x.f0.f0 ∧ x.f0.f1.length ≤ c1 ∧ Kd.F k47 W ok A1 x.f0.f1.length x.f0.f1 ∧ x.f3.length ≤ c4 ∧ Kd.F (Kd.int .u8) W ok A4 x.f3.length x.f3 ∧ x.f4.length ≤ c5 ∧ Kd.F (Kd.int .u8) W ok A5 x.f4.length x.f4 := by
  obtain ⟨A0, c0, A1, c1, A4, c4, A5, c5, rfl, l0, _, l1, _, l4, _, l5, _⟩ := k53_open (Kd.FK_now h)
  exact ⟨A0, c0, A1, c1, A4, c4, A5, c5, rfl, l0, (fun W' hW => by obtain ⟨A0_, c0_, A1_, c1_, A4_, c4_, A5_, c5_, he, l0_, g0_, l1_, g1_, l4_, g4_, l5_, g5_⟩ := k53_open (h W' hW); injection (Option.some.inj (show some (Value.slice A0 x.f0.f0.length c0) = some (Value.slice A0_ x.f0.f0.length c0_) from congrArg (fun l => l[0]?) he)) with ha_ _ _; rw [ha_]; exact g0_), l1, (fun W' hW => by obtain ⟨A0_, c0_, A1_, c1_, A4_, c4_, A5_, c5_, he, l0_, g0_, l1_, g1_, l4_, g4_, l5_, g5_⟩ := k53_open (h W' hW); injection (Option.some.inj (show some (Value.slice A1 x.f0.f1.length c1) = some (Value.slice A1_ x.f0.f1.length c1_) from congrArg (fun l => l[1]?) he)) with ha_ _ _; rw [ha_]; exact g1_), l4, (fun W' hW => by obtain ⟨A0_, c0_, A1_, c1_, A4_, c4_, A5_, c5_, he, l0_, g0_, l1_, g1_, l4_, g4_, l5_, g5_⟩ := k53_open (h W' hW); injection (Option.some.inj (show some (Value.slice A4 x.f3.length c4) = some (Value.slice A4_ x.f3.length c4_) from congrArg (fun l => l[4]?) he)) with ha_ _ _; rw [ha_]; exact g4_), l5, (fun W' hW => by obtain ⟨A0_, c0_, A1_, c1_, A4_, c4_, A5_, c5_, he, l0_, g0_, l1_, g1_, l4_, g4_, l5_, g5_⟩ := k53_open (h W' hW); injection (Option.some.inj (show some (Value.slice A5 x.f4.length c5) = some (Value.slice A5_ x.f4.length c5_) from congrArg (fun l => l[5]?) he)) with ha_ _ _; rw [ha_]; exact g5_)⟩
theorem k53_mkF (W : World) (ok : Nat → Prop) (x : S53) {A0 : Option Addr} {c0 : Nat} (l0 : x.f0.f0.length ≤ c0) (g0 : Kd.F (Kd.slice 5 (Kd.int .u8)) W ok A0 x.f0.f0.length x.f0.f0) {A1 : Option Addr} {c1 : Nat} (l1 : x.f0.f1.length ≤ c1) (g1 : Kd.F k47 W ok A1 x.f0.f1.length x.f0.f1) {A4 : Option Addr} {c4 : Nat} (l4 : x.f3.length ≤ c4) (g4 : Kd.F (Kd.int .u8) W ok A4 x.f3.length x.f3) {A5 : Option Addr} {c5 : Nat} (l5 : x.f4.length ≤ c5) (g5 : Kd.F (Kd.int .u8) W ok A5 x.f4.length x.f4) : Kd.FK k53 W ok x [.slice A0 x.f0.f0.length c0, .slice A1 x.f0.f1.length c1, .int .i64 x.f1, .int .i64 x.f2, .slice A4 x.f3.length c4, .slice A5 x.f4.length c5] := fun W2 hW => k53_mk W2 x l0 (g0 W2 hW) l1 (g1 W2 hW) l4 (g4 W2 hW) l5 (g5 W2 hW)
def rd_T53 (xs : List S53) (i : Int) : S53 := xs.getD i.toNat z53
theorem at_T53 {w : World} {A : Option Addr} {n : Nat} {xs : List S53} (h : Kd.C k53 w A n xs) (i : Int) (h0 : 0 ≤ i) (h1 : i < n) : ∃ ad A0 c0 A1 c1 A4 c4 A5 c5, A = some ad ∧ w.cell? (ad.add (i.toNat * 6)) = some (.slice A0 (rd_T53 xs i).f0.f0.length c0) ∧ w.cell? ⟨(ad.add (i.toNat * 6)).block, (ad.add (i.toNat * 6)).off + 1, none⟩ = some (.slice A1 (rd_T53 xs i).f0.f1.length c1) ∧ w.cell? ⟨(ad.add (i.toNat * 6)).block, (ad.add (i.toNat * 6)).off + 2, none⟩ = some (.int .i64 (rd_T53 xs i).f1) ∧ w.cell? ⟨(ad.add (i.toNat * 6)).block, (ad.add (i.toNat * 6)).off + 3, none⟩ = some (.int .i64 (rd_T53 xs i).f2) ∧ w.cell? ⟨(ad.add (i.toNat * 6)).block, (ad.add (i.toNat * 6)).off + 4, none⟩ = some (.slice A4 (rd_T53 xs i).f3.length c4) ∧ w.cell? ⟨(ad.add (i.toNat * 6)).block, (ad.add (i.toNat * 6)).off + 5, none⟩ = some (.slice A5 (rd_T53 xs i).f4.length c5) ∧ (rd_T53 xs i).f0.f0.length ≤ c0 ∧ (Kd.slice 5 (Kd.int .u8)).C w A0 (rd_T53 xs i).f0.f0.length (rd_T53 xs i).f0.f0 ∧ (rd_T53 xs i).f0.f1.length ≤ c1 ∧ k47.C w A1 (rd_T53 xs i).f0.f1.length (rd_T53 xs i).f0.f1 ∧ (rd_T53 xs i).f3.length ≤ c4 ∧ (Kd.int .u8).C w A4 (rd_T53 xs i).f3.length (rd_T53 xs i).f3 ∧ (rd_T53 xs i).f4.length ≤ c5 ∧ (Kd.int .u8).C w A5 (rd_T53 xs i).f4.length (rd_T53 xs i).f4 := by
  obtain ⟨ad, c, e, _, hK, hc0⟩ := Kd.C_get h z53 i h0 h1
  have hc : ∀ j u, c[j]? = some u → w.cell? (ad.add (i.toNat * 6 + j)) = some u := hc0
  obtain ⟨A0, c0, A1, c1, A4, c4, A5, c5, rfl, l0, g0, l1, g1, l4, g4, l5, g5⟩ := k53_open hK
  exact ⟨ad, A0, c0, A1, c1, A4, c4, A5, c5, e, hc 0 _ rfl, by rw [← add_field _ _ 1 (by omega)]; exact hc 1 _ rfl, by rw [← add_field _ _ 2 (by omega)]; exact hc 2 _ rfl, by rw [← add_field _ _ 3 (by omega)]; exact hc 3 _ rfl, by rw [← add_field _ _ 4 (by omega)]; exact hc 4 _ rfl, by rw [← add_field _ _ 5 (by omega)]; exact hc 5 _ rfl, l0, g0, l1, g1, l4, g4, l5, g5⟩

end Go.Proofs.Ytnhfhepakimncaa.Q
