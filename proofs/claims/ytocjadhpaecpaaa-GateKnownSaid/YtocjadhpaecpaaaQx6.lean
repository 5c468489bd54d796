-- written by this session's own program (wip/tools/myprint.py), over the kit's print
import Derived.Test.YtocjadhpaecpaaaQx0
import Derived.RangeFuncNested
import Derived.RangeFuncBound
import Derived.RangeFuncCalls
import Derived.RangeFuncLeaves
import Derived.Shelf.Abstract
import Derived.Shelf.RegionOpen
import Derived.WalkKit
import Derived.OwnWalkIn
import Derived.TacticsInMore
import Derived.LoopNIn
import Derived.LoopIn
namespace Go.Proofs.Ytocjadhpaecpaaa.Q
open Go.RowKit Go.Proofs.YtocjadhpaecpaaaW.PrintWords Go.Proofs.YtocjadhpaecpaaaW.PrintLast Go.Proofs.YtocjadhpaecpaaaW.PrintMore
open Go.Proofs.YtocjadhpaecpaaaV
attribute [local go_sem] max2_int min2_int max_two min_two max_three min_three max_four min_four   -- for this text's walks alone
set_option linter.unusedVariables false
set_option linter.unusedSimpArgs false

/-! gate.Failed: a range over an iterator of the book's own: the first who has that name. -/
section
open Go.Shelf
attribute [local go_sem] Oper.semAt_some
def gate_Failed.hit (u : ByteArray) (x : S64) : Bool := x.f0.toList == u.toList
def gate_Failed.encL (x : S64) : Array Value := #[.agg #[.string x.f0, .int .i64 x.f1, .int .i64 x.f2]]

set_option maxRecDepth 100000 in
set_option maxHeartbeats 4000000 in
theorem gate_Failed.of1_in (F : Fence) (n : Nat) (h34 : F.fn 34) (hro : F.round = none) (hn : 1 ≤ n) (w : World) (A : Option Addr) (c Bb Bu : Nat) (ls : List S64) (u : ByteArray) (a0 : Int) (v1 v2 : Value) (hL : Kd.C k64 w A ls.length ls) (hBb : w.heap[Bb]? = some (.cells #[.int .i64 a0, v1, v2, .slice A ls.length c] 26 (0, 0))) (hBu : w.heap[Bu]? = some (.cells #[.string u] 9 (0, 0))) :
    SeqStopsK F n Try.prog 34 #[.pointer (some ⟨Bb, 0, none⟩), .pointer (some ⟨Bu, 0, none⟩)] gate_Failed.encL (Below w.heap.size) (fun xs => xs = ls.filter (gate_Failed.hit u)) (fun pre => pre <+: ls.filter (gate_Failed.hit u)) ls.length w := by
  intro l J Jx W hW hJ hJx hY h0
  refine callsIn_of_wp Try.func34 rfl h34 ?_ hro
  simp only [Try.ntmps34, List.size_toArray, List.length_cons, List.length_nil, Nat.reduceAdd, Nat.reduceSub, Array.replicate_succ, Array.replicate_zero, List.push_toArray, List.append_toArray, List.nil_append, List.cons_append]
  have hB1 := blk_below hBb hW
  have hU1 := blk_below hBu hW
  have hb3 : W.cell? ⟨Bb, 3, none⟩ = some (.slice A ls.length c) := (blk_cell hB1 3).trans rfl
  have hu0 : W.cell? ⟨Bu, 0, none⟩ = some (.string u) := (blk_cell hU1 0).trans rfl
  gi_wp2
  gi_loopw [9] (fun i wr => ∃ k : Nat, k ≤ ls.length ∧ i = .int .i64 k ∧ J ((ls.take k).filter (gate_Failed.hit u)) wr ∧ Below w.heap.size w wr)
    (fun i _ => ls.length - (intOf i).toNat)
  case atStart => exact ⟨0, Nat.zero_le _, rfl, h0, hW⟩
  case round =>
    obtain ⟨k, hk, rfl, hJs, hnx⟩ := hrel
    have hB2 := blk_below hBb hnx
    have hU2 := blk_below hBu hnx
    have hu2 : wr.cell? ⟨Bu, 0, none⟩ = some (.string u) := (blk_cell hU2 0).trans rfl
    by_cases hlt : k < ls.length
    · obtain ⟨ad, rfl, hx0, hx1, hx2⟩ := at_T64 (Kd.C_below hL hnx) k (by omega) (by omega)
      rw [Int.toNat_natCast] at hx0 hx1 hx2
      have hkt : ls[k] = rd_T64 ls k := by unfold rd_T64; rw [Int.toNat_natCast, List.getD_eq_getElem?_getD, List.getElem?_eq_getElem hlt]; rfl
      have hcat : (ls.take (k + 1)).filter (gate_Failed.hit u) = (ls.take k).filter (gate_Failed.hit u) ++ [ls[k]].filter (gate_Failed.hit u) := by rw [List.take_succ_eq_append_getElem hlt, List.filter_append]
      rw [hkt] at hcat
      obtain ⟨x, hx⟩ : ∃ x, rd_T64 ls k = x := ⟨_, rfl⟩
      rw [hx] at hx0 hx1 hx2 hcat
      obtain ⟨nm, n1, n2⟩ := x
      dsimp only at hx0 hx1 hx2
      obtain ⟨o, ho⟩ : ∃ o : Obj, o = .cells #[.string nm, .int .i64 n1, .int .i64 n2] 64 := ⟨_, rfl⟩
      have hn2 : Below w.heap.size w (wr.alloc o) := below_alloc hnx o
      have hu3 : (wr.alloc o).cell? ⟨Bu, 0, none⟩ = some (.string u) := (blk_cell (blk_below hBu hn2) 0).trans rfl
      have hJ2 : J ((ls.take k).filter (gate_Failed.hit u)) (wr.alloc o) := hJ _ _ _ none hJs (World.grownBy_alloc wr o none) (fun r e => by cases e)
      have hmax : ls.length ≤ 9223372036854775807 := hL.2.1
      have hw64 : wrap64 ((k : Int) + 1) = ((k + 1 : Nat) : Int) := by unfold wrap64; omega
      by_cases hm : nm.toList = u.toList
      · have hbe : (nm.toList == u.toList) = true := beq_iff_eq.mpr hm
        have hlen : ((ls.take k).filter (gate_Failed.hit u)).length < ls.length := Nat.lt_of_le_of_lt (List.length_filter_le _ _) (by rw [List.length_take]; omega)
        obtain ⟨fn, tmps, assign, body, hy, hR⟩ := hY _ ⟨nm, n1, n2⟩ (wr.alloc o) hJ2 hlen
        dsimp only [gate_Failed.encL] at hy
        rw [show [(⟨nm, n1, n2⟩ : S64)].filter (gate_Failed.hit u) = [⟨nm, n1, n2⟩] by simp [gate_Failed.hit, hm]] at hcat
        subst ho
        gi_wp2
        refine hR.mono ?_
        rintro e W3 (⟨rfl, hJ3, hk3⟩ | ⟨rfl, hJx3⟩)
        · gi_wp2
          go_roundw
          case rel => exact ⟨k + 1, by omega, by simp, by rw [hcat]; exact hJ3, hn2.trans hk3⟩
          case measure => simp only [intOf]; omega
        · gi_wp2
          refine bodyPost_ret (results_none rfl _ _ _) rfl ?_
          exact ⟨⟨_, rfl⟩, .inr ⟨_, by rw [← hcat]; exact ((List.take_prefix _ _).filter _), hJx3⟩⟩
      · have hbe : (nm.toList == u.toList) = false := beq_eq_false_iff_ne.mpr hm
        rw [show [(⟨nm, n1, n2⟩ : S64)].filter (gate_Failed.hit u) = [] by simp [gate_Failed.hit, hm], List.append_nil] at hcat
        subst ho
        gi_wp2
        refine ⟨fun _ h => (by cases h), ?_⟩
        gi_wp2
        go_roundw
        case rel => exact ⟨k + 1, by omega, by simp, by rw [hcat]; exact hJ2, hn2⟩
        case measure => simp only [intOf]; omega
    · obtain rfl : k = ls.length := by omega
      gi_wp2
      go_end0
      exact ⟨⟨_, rfl⟩, .inl ⟨_, by rw [List.take_length], hJs⟩⟩

set_option maxRecDepth 100000 in
set_option maxHeartbeats 4000000 in
theorem gate_Failed.of_in (F : Fence) (n : Nat) (h20 : F.fn 20) (hro : F.round = none) (w : World) (a0 : Int) (v1 v2 v3 : Value) (h1 : ∃ A n c, v1 = .slice A n c) (h2 : ∃ A n c, v2 = .slice A n c) (h3 : ∃ A n c, v3 = .slice A n c) (u : ByteArray) :
    CallsIn F n Try.prog 20 #[.agg #[.int .i64 a0, v1, v2, v3], .string u] w fun e w' => e = .returned (.func (.func 34) #[] #[.pointer (some ⟨w.heap.size, 0, none⟩), .pointer (some ⟨w.heap.size + 1, 0, none⟩)]) ∧ w' = (w.alloc (.cells #[.int .i64 a0, v1, v2, v3] 26)).alloc (.cells #[.string u] 9) := by
  obtain ⟨A1, n1, c1, rfl⟩ := h1
  obtain ⟨A2, n2, c2, rfl⟩ := h2
  obtain ⟨A3, n3, c3, rfl⟩ := h3
  refine callsIn_of_wp Try.func20 rfl h20 ?_ hro
  simp only [Try.ntmps20, List.size_toArray, List.length_cons, List.length_nil, Nat.reduceAdd, Nat.reduceSub, Array.replicate_succ, Array.replicate_zero, List.push_toArray, List.append_toArray, List.nil_append, List.cons_append]
  gi_wp2
  go_ret
  exact ⟨by simp, rfl⟩

theorem gate_Failed.own_cells {β : Type} (Bx : Nat) (cs : Array Value) (t : TypeId) : Own (fun (_ : β) W => W.heap[Bx]? = some (.cells cs t (0, 0))) := by
  intro s A B row hs hg hr
  have hlt := blk_lt hs
  refine (hg.block Bx hlt (fun e => ?_)).trans hs
  obtain ⟨o, ho, hc⟩ := hr Bx e.symm
  rw [hs] at ho
  cases ho
  simp [Obj.isCells] at hc

def gate_Failed.fstL (pre : List S64) : S64 := pre.headD z64
def gate_Failed.resL (m : List S64) : Int × Int := match m with | [] => (0, 0) | x :: _ => (x.f1, x.f2)
def gate_Failed.f (a0 : Int) (l1 : List S76) (l2 : List S72) (l3 : List S64) (u : ByteArray) : Option (Int × Int) := if l3.length ≤ 1000000 then some (gate_Failed.resL (l3.filter (gate_Failed.hit u))) else none

set_option maxRecDepth 100000 in
set_option maxHeartbeats 8000000 in
theorem gate_Failed.failed_in (F : Fence) (n : Nat) (h12 : F.fn 12) (h20 : F.fn 20) (h34 : F.fn 34) (hro : F.round = none) (hn : 4 ≤ n) (w : World) (a0 : Int) (A1 A2 A3 : Option Addr) (n1 n2 c1 c2 c3 : Nat) (ls : List S64) (u : ByteArray) (hL : Kd.C k64 w A3 ls.length ls) :
    CallsIn F n Try.prog 12 #[.agg #[.int .i64 a0, .slice A1 n1 c1, .slice A2 n2 c2, .slice A3 ls.length c3], .string u] w fun e w' =>
      e = .returned (.tuple #[.int .i64 (gate_Failed.resL (ls.filter (gate_Failed.hit u))).1, .int .i64 (gate_Failed.resL (ls.filter (gate_Failed.hit u))).2]) ∧ Below w.heap.size w w' := by
  obtain ⟨R, hR⟩ : ∃ R, gate_Failed.resL (ls.filter (gate_Failed.hit u)) = R := ⟨_, rfl⟩
  rw [hR]
  refine callsIn_of_wp_marks Try.func12 rfl h12 ?_ hro
  simp only [Try.ntmps12, List.size_toArray, List.length_cons, List.length_nil, Nat.reduceAdd, Nat.reduceSub, Array.replicate_succ, Array.replicate_zero, List.push_toArray, List.append_toArray, List.nil_append, List.cons_append]
  gi_wp2
  refine ⟨fun _ => by omega, ?_⟩
  refine (gate_Failed.of_in F (n - 1) h20 hro _ a0 _ _ _ ⟨_, _, _, rfl⟩ ⟨_, _, _, rfl⟩ ⟨_, _, _, rfl⟩ u).mono ?_
  rintro e W0 ⟨rfl, hW0⟩
  simp only [World.size_alloc] at hW0 ⊢
  have hs : W0.heap.size = w.heap.size + 5 := by rw [hW0]; simp
  have hbel : Below w.heap.size w W0 := by
    rw [hW0]
    repeat (first | exact Below.refl _ _ | apply below_alloc)
  have hb4 : Boxed W0 (w.heap.size + 1) 3 (.int .i64 0) := by
    rw [hW0]
    have := Boxed.new (w.alloc (.cells #[.int .i64 a0, .slice A1 n1 c1, .slice A2 n2 c2, .slice A3 ls.length c3] 26)) 3 (.int .i64 0)
    rw [World.size_alloc] at this
    exact ((this.alloc _).alloc _).alloc _
  have hb5 : Boxed W0 (w.heap.size + 1 + 1) 3 (.int .i64 0) := by
    rw [hW0]
    have := Boxed.new ((w.alloc (.cells #[.int .i64 a0, .slice A1 n1 c1, .slice A2 n2 c2, .slice A3 ls.length c3] 26)).alloc (.cells #[.int .i64 0] 3)) 3 (.int .i64 0)
    rw [World.size_alloc, World.size_alloc] at this
    exact (this.alloc _).alloc _
  have hBb : W0.heap[w.heap.size + 1 + 1 + 1]? = some (.cells #[.int .i64 a0, .slice A1 n1 c1, .slice A2 n2 c2, .slice A3 ls.length c3] 26 (0, 0)) := by
    rw [hW0]
    refine blk_alloc ?_ _
    have := World.alloc_heap_new (((w.alloc (.cells #[.int .i64 a0, .slice A1 n1 c1, .slice A2 n2 c2, .slice A3 ls.length c3] 26)).alloc (.cells #[.int .i64 0] 3)).alloc (.cells #[.int .i64 0] 3)) (.cells #[.int .i64 a0, .slice A1 n1 c1, .slice A2 n2 c2, .slice A3 ls.length c3] 26)
    simp only [World.size_alloc] at this
    exact this
  have hBu : W0.heap[w.heap.size + 1 + 1 + 1 + 1]? = some (.cells #[.string u] 9 (0, 0)) := by
    rw [hW0]
    have := World.alloc_heap_new ((((w.alloc (.cells #[.int .i64 a0, .slice A1 n1 c1, .slice A2 n2 c2, .slice A3 ls.length c3] 26)).alloc (.cells #[.int .i64 0] 3)).alloc (.cells #[.int .i64 0] 3)).alloc (.cells #[.int .i64 a0, .slice A1 n1 c1, .slice A2 n2 c2, .slice A3 ls.length c3] 26)) (.cells #[.string u] 9)
    simp only [World.size_alloc] at this
    exact this
  clear hW0
  gi_wp2
  refine wpIn_rangeFunc_ownH (encs := gate_Failed.encL) (Kp := Below W0.heap.size) hro (by omega) (gf := 34) rfl h34 (enters_of Try.func34 (by kernel_rfl) rfl)
    (gate_Failed.of1_in F (n - 1) h34 hro (by omega) W0 A3 c3 _ _ ls u a0 _ _ (Kd.C_below hL hbel) hBb hBu) belowK_t (belowK_b (Nat.le_refl _)) (Below.refl _ _) (fun _ => rfl)
    (fun (pre : List S64) W => pre = [] ∧ Boxed W (w.heap.size + 1) 3 (.int .i64 0) ∧ Boxed W (w.heap.size + 1 + 1) 3 (.int .i64 0) ∧ Below w.heap.size w W ∧ KeepsFrom W0.heap.size W0 W)
    (fun c (pre : List S64) W => (c = .ret ∧ pre.length = 1) ∧ Boxed W (w.heap.size + 1) 3 (.int .i64 (gate_Failed.fstL pre).f1) ∧ Boxed W (w.heap.size + 1 + 1) 3 (.int .i64 (gate_Failed.fstL pre).f2) ∧ Below w.heap.size w W)
    (OwnFrom.and (ownFrom_pure _ (fun pre : List S64 => pre = [])) (OwnFrom.and (Own.from (boxed_own _ 3 (fun _ : List S64 => .int .i64 0)) _) (OwnFrom.and (Own.from (boxed_own _ 3 (fun _ : List S64 => .int .i64 0)) _) (OwnFrom.and (ownFrom_below (Nat.le_refl _) (by omega)) (ownFrom_keepsFrom (Nat.le_refl _))))))
    (fun c => OwnFrom.and (ownFrom_pure _ (fun pre : List S64 => c = .ret ∧ pre.length = 1)) (OwnFrom.and (Own.from (boxed_own _ 3 (fun pre : List S64 => .int .i64 (gate_Failed.fstL pre).f1)) _) (OwnFrom.and (Own.from (boxed_own _ 3 (fun pre : List S64 => .int .i64 (gate_Failed.fstL pre).f2)) _) (ownFrom_below (Nat.le_refl _) (by omega)))))
    ⟨rfl, hb4, hb5, hbel, KeepsFrom.refl _ _⟩
    (fun x a' W => ∃ Bx, W0.heap.size ≤ Bx ∧ W.heap[Bx]? = some (.cells #[.string x.f0, .int .i64 x.f1, .int .i64 x.f2] 64 (0, 0)) ∧ a' = { tmps := #[.agg #[.int .i64 a0, .slice A1 n1 c1, .slice A2 n2 c2, .slice A3 ls.length c3], .string u, .pointer (some ⟨w.heap.size, 0, none⟩), undef, .pointer (some ⟨w.heap.size + 1, 0, none⟩), .pointer (some ⟨w.heap.size + 1 + 1, 0, none⟩), .pointer (some ⟨Bx, 0, none⟩), .agg #[.int .i64 a0, .slice A1 n1 c1, .slice A2 n2 c2, .slice A3 ls.length c3], .string u, .func (.func 34) #[] #[.pointer (some ⟨w.heap.size + 1 + 1 + 1, 0, none⟩), .pointer (some ⟨w.heap.size + 1 + 1 + 1 + 1, 0, none⟩)], .agg #[.string x.f0, .int .i64 x.f1, .int .i64 x.f2], undef, undef, undef, undef], defers := [] })
    (fun x a' s A B row hs hg hr => ?hAx) ?hassign ?hbody ?hdone ?hstop
  case hAx =>
    obtain ⟨Bx, h1, h2, h3⟩ := hs
    exact ⟨Bx, h1, gate_Failed.own_cells (β := Unit) Bx _ 64 () A B row h2 hg (fun r e => (hr r e).2), h3⟩
  case hassign =>
    rintro l pre x W K hi hK
    have e : ((#[10] : Array Tmp).zip (gate_Failed.encL x)).foldl (fun t (p, v) => t.setIfInBounds p v) #[.agg #[.int .i64 a0, .slice A1 n1 c1, .slice A2 n2 c2, .slice A3 ls.length c3], .string u, .pointer (some ⟨w.heap.size, 0, none⟩), undef, .pointer (some ⟨w.heap.size + 1, 0, none⟩), .pointer (some ⟨w.heap.size + 1 + 1, 0, none⟩), undef, .agg #[.int .i64 a0, .slice A1 n1 c1, .slice A2 n2 c2, .slice A3 ls.length c3], .string u, .func (.func 34) #[] #[.pointer (some ⟨w.heap.size + 1 + 1 + 1, 0, none⟩), .pointer (some ⟨w.heap.size + 1 + 1 + 1 + 1, 0, none⟩)], undef, undef, undef, undef, undef] = #[.agg #[.int .i64 a0, .slice A1 n1 c1, .slice A2 n2 c2, .slice A3 ls.length c3], .string u, .pointer (some ⟨w.heap.size, 0, none⟩), undef, .pointer (some ⟨w.heap.size + 1, 0, none⟩), .pointer (some ⟨w.heap.size + 1 + 1, 0, none⟩), undef, .agg #[.int .i64 a0, .slice A1 n1 c1, .slice A2 n2 c2, .slice A3 ls.length c3], .string u, .func (.func 34) #[] #[.pointer (some ⟨w.heap.size + 1 + 1 + 1, 0, none⟩), .pointer (some ⟨w.heap.size + 1 + 1 + 1 + 1, 0, none⟩)], .agg #[.string x.f0, .int .i64 x.f1, .int .i64 x.f2], undef, undef, undef, undef] := by simp [gate_Failed.encL]
    rw [e]
    obtain ⟨hp, i4, i5, ib, ik⟩ := hi
    gi_wp2
    exact hK _ _ ((KeepsOthers.alloc _ _).from _) ((Below.refl _ W).alloc ik.size _) ⟨hp, i4.alloc _, i5.alloc _, below_alloc ib _, ik.trans ((KeepsOthers.alloc _ _).from _)⟩ ⟨W.heap.size, ik.size, World.alloc_heap_new W _, rfl⟩
  case hbody =>
    rintro l pre x a' W hl ⟨r, hr⟩ ⟨rfl, i4, i5, ib, ik⟩ ⟨Bx, hx, hbx, rfl⟩ hlt
    have k1 : W.cell? ⟨Bx, 1, none⟩ = some (.int .i64 x.f1) := (blk_cell hbx 1).trans rfl
    have k2 : W.cell? ⟨Bx, 2, none⟩ = some (.int .i64 x.f2) := (blk_cell hbx 2).trans rfl
    have k4 := i4.cell
    have k5 := i5.cell
    have f4 := i4.frozen
    have f5 := i5.frozen
    gi_wp2
    gi_region
    all_goals gi_wp2
    all_goals exact ⟨(((KeepsOthers.setCell _ _ _).trans (KeepsOthers.setCell _ _ _)).trans (KeepsOthers.drew _)).from _, ⟨rfl, rfl⟩, (i4.set _).other (by omega) _, (i5.other (by omega) _).set _, ((ib.setCell (p := ⟨w.heap.size + 1, 0, none⟩) (by simp) _).setCell (p := ⟨w.heap.size + 1 + 1, 0, none⟩) (by simp; omega) _).drew⟩
  case hdone =>
    rintro D xs W hD hxs ⟨rfl, i4, i5, ib, ik⟩ hK
    have k4 := i4.cell
    have k5 := i5.cell
    have f4 := i4.frozen
    have f5 := i5.frozen
    obtain rfl : R = (0, 0) := by rw [← hR, ← hxs]; rfl
    gi_wp2
    have j4 := (i4.set (.int .i64 0)).other (B' := w.heap.size + 1 + 1) (by omega) (.int .i64 0)
    have j5 := (i5.other (B' := w.heap.size + 1) (by omega) (.int .i64 0)).set (.int .i64 0)
    have hK2 := (KeepsOthers.setCell (W.setCell ⟨w.heap.size + 1, 0, none⟩ (.int .i64 0)) ⟨w.heap.size + 1 + 1, 0, none⟩ (.int .i64 0)).same D _ ((KeepsOthers.setCell W ⟨w.heap.size + 1, 0, none⟩ (.int .i64 0)).same D _ hK rfl) rfl
    have ib2 := (ib.setCell (p := ⟨w.heap.size + 1, 0, none⟩) (by simp) (.int .i64 0)).setCell (p := ⟨w.heap.size + 1 + 1, 0, none⟩) (by simp; omega) (.int .i64 0)
    refine ⟨by simp, .inl ⟨_, _, rfl, run_takeDeferred hK2, ?_⟩⟩
    have m4 := (World.cell?_of_block (a := ⟨w.heap.size + 1, 0, none⟩) (World.putObj_heap_other (k := w.heap.size + 1) (o := .deferred none) (show w.heap.size + 1 ≠ D by omega))).trans j4.cell
    have m5 := (World.cell?_of_block (a := ⟨w.heap.size + 1 + 1, 0, none⟩) (World.putObj_heap_other (k := w.heap.size + 1 + 1) (o := .deferred none) (show w.heap.size + 1 + 1 ≠ D by omega))).trans j5.cell
    refine ⟨.tuple #[.int .i64 0, .int .i64 0], ?_, rfl, ib2.trans (belowK_b (w := w) (Nat.le_refl _) _ D _ _ (by omega) hK2 rfl rfl)⟩
    simp [results, Try.f12, go_sem, m4, m5]
  case hstop =>
    rintro D c pre W hD hsp ⟨⟨rfl, hlen⟩, i4, i5, ib⟩ hK
    have k4 := i4.cell
    have k5 := i5.cell
    obtain ⟨x, rfl⟩ := List.length_eq_one_iff.1 hlen
    obtain ⟨tl, htl⟩ := hsp
    obtain rfl : R = (x.f1, x.f2) := by rw [← hR, ← htl]; rfl
    gi_wp2
    refine ⟨by simp, .inl ⟨_, _, rfl, run_takeDeferred hK, ?_⟩⟩
    have m4 := (World.cell?_of_block (a := ⟨w.heap.size + 1, 0, none⟩) (World.putObj_heap_other (k := w.heap.size + 1) (o := .deferred none) (show w.heap.size + 1 ≠ D by omega))).trans i4.cell
    have m5 := (World.cell?_of_block (a := ⟨w.heap.size + 1 + 1, 0, none⟩) (World.putObj_heap_other (k := w.heap.size + 1 + 1) (o := .deferred none) (show w.heap.size + 1 + 1 ≠ D by omega))).trans i5.cell
    refine ⟨.tuple #[.int .i64 x.f1, .int .i64 x.f2], ?_, rfl, ib.trans (belowK_b (w := w) (Nat.le_refl _) _ D _ _ (by omega) hK rfl rfl)⟩
    simp only [gate_Failed.fstL, List.headD_cons] at m4 m5
    simp [results, Try.f12, go_sem, m4, m5]

theorem gate_Failed.calls (ae : Int) (af : Option Addr) (ag : Nat) (ab : List (S76)) (ah : Option Addr) (ai : Nat) (ac : List (S72)) (aj : Option Addr) (ak : Nat) (aa : List (S64)) (a1 : ByteArray) (r1 : Int) (r2 : Int) (w : World) (hr0_1 : Kd.C k76 w af ab.length ab) (hc0_1 : ab.length ≤ ag) (hr0_2 : Kd.C k72 w ah ac.length ac) (hc0_2 : ac.length ≤ ai) (hr0_3 : Kd.C k64 w aj aa.length aa) (hc0_3 : aa.length ≤ ak) (h : gate_Failed.f ae ab ac aa a1 = some (r1, r2)) :
    Calls Try.prog 12 #[.agg #[.int .i64 ae, .slice af ab.length ag, .slice ah ac.length ai, .slice aj aa.length ak], .string a1] w fun e w' => e = .returned (.tuple #[.int .i64 r1, .int .i64 r2]) ∧ Below w.heap.size w w' := by
  have hr : gate_Failed.resL (aa.filter (gate_Failed.hit a1)) = (r1, r2) := by
    unfold gate_Failed.f at h
    split at h
    · exact Option.some.inj h
    · cases h
  have := callsIn_wide.1 (gate_Failed.failed_in Fence.wide 4 trivial trivial trivial rfl (Nat.le_refl _) w ae af ah aj ab.length ac.length ag ai ak aa a1 hr0_3)
  rw [hr] at this
  exact this
end

end Go.Proofs.Ytocjadhpaecpaaa.Q
