-- written by this session's own program (wip/tools/myprint.py), over the kit's print
import Derived.Test.YtpbkdphilcodmaaQx0
import Derived.Test.YtpbkdphilcodmaaQx3
import Derived.Test.YtpbkdphilcodmaaQx4
import Derived.Test.YtpbkdphilcodmaaNm
import Derived.RangeFuncNested
import Derived.RangeFuncBound
import Derived.RangeFuncCalls
import Derived.RangeFuncLeaves
import Derived.Shelf.Abstract
import Derived.Shelf.RegionOpen
import Derived.WalkKit
import Derived.OwnWalkIn
import Derived.TacticsInMore
import Derived.LoopNIn
import Derived.LoopIn
namespace Go.Proofs.Ytpbkdphilcodmaa.Q
open Go.RowKit Go.Proofs.YtpbkdphilcodmaaW.PrintWords Go.Proofs.YtpbkdphilcodmaaW.PrintLast Go.Proofs.YtpbkdphilcodmaaW.PrintMore
open Go.Proofs.YtpbkdphilcodmaaV
attribute [local go_sem] max2_int min2_int max_two min_two max_three min_three max_four min_four   -- for this text's walks alone
set_option linter.unusedVariables false
set_option linter.unusedSimpArgs false

/-! md5.Sum: a range over slices.Chunk of what is padded; then sixteen bytes. -/
section
open Go.Shelf
attribute [local go_sem] Oper.semAt_some
def md5_Sum.enc (ad : Addr) {n : Nat} (i : Fin n) : Array Value := #[.slice (some (ad.add (64 * i.val))) 64 64]
theorem md5_Sum.cut (ad : Addr) (c : Nat) {N j j2 : Nat} (h2 : j2 = j + 64) (hN : j2 ≤ N) (hc : N ≤ c) (W : World) : (Instr.slice 26 (.slice (some ad) N c) (some (.int .i64 (j : Int))) (some (.int .i64 (j2 : Int))) (some (.int .i64 (j2 : Int)))).run Try.prog W = .ok (.slice (some (ad.add j)) 64 64) W := by
  obtain ⟨i04, hi04, _, hsz4, _⟩ := info_parts info5
  have := cut_mid3 (P := Try.prog) 26 5 .i64 .i64 .i64 Try.underlying26 hi04 1 hsz4 (some ad) N c (j : Int) (j2 : Int) (by omega) (by omega) (by omega) hc W
  rw [this, if_neg (by omega)]
  congr 2
  · simp
  · simp; omega
  · simp; omega
theorem md5_Sum.cutF (ad : Addr) (c : Nat) {N j : Nat} (hN : j ≤ N) (W : World) : (Instr.slice 26 (.slice (some ad) N c) (some (.int .i64 (j : Int))) none none).run Try.prog W = .ok (.slice (if c = j then some ad else some (ad.add j)) (N - j) (c - j)) W := by
  obtain ⟨i04, hi04, _, hsz4, _⟩ := info_parts info5
  have := cut_from (P := Try.prog) 26 5 .i64 Try.underlying26 hi04 1 hsz4 (some ad) N c (j : Int) (by omega) (by omega) W
  rw [this]
  simp
/-- What a round keeps for the iterator: its two boxes. -/
def md5_Sum.Kp (Bb Bn : Nat) (A B : World) : Prop := B.heap[Bb]? = A.heap[Bb]? ∧ B.heap[Bn]? = A.heap[Bn]?
set_option maxRecDepth 100000 in
set_option maxHeartbeats 4000000 in
theorem md5_Sum.chunk1_in (F : Fence) (m0 : Nat) (h29 : F.fn 36) (hro : F.round = none) (hn : 1 ≤ m0) (w : World) (ad : Addr) (N n c Bb Bn : Nat) (hN : N = 64 * n) (hmax : N ≤ 140737488355328) (hc : N ≤ c) (hBb : w.heap[Bb]? = some (.cells #[.slice (some ad) N c] 26 (0, 0))) (hBn : w.heap[Bn]? = some (.cells #[.int .i64 64] 3 (0, 0))) :
    SeqStopsK F m0 Try.prog 36 #[.pointer (some ⟨Bb, 0, none⟩), .pointer (some ⟨Bn, 0, none⟩)] (md5_Sum.enc ad (n := n)) (md5_Sum.Kp Bb Bn) (fun xs => xs = List.finRange n) (fun _ => True) n w := by
  intro l J Jx W hW hJ hJx hY h0
  have HN := Aside0.mk hN
  clear hN
  refine callsIn_of_wp Try.func36 rfl h29 ?_ hro
  simp only [Try.ntmps36, List.size_toArray, List.length_cons, List.length_nil, Nat.reduceAdd, Nat.reduceSub, Array.replicate_succ, Array.replicate_zero, List.push_toArray, List.append_toArray, List.nil_append, List.cons_append]
  have hB1 := blk_below hBb hW
  have hU1 := blk_below hBn hW
  have hb3 : W.cell? ⟨Bb, 0, none⟩ = some (.slice (some ad) N c) := (blk_cell hB1 0).trans rfl
  have hu0 : W.cell? ⟨Bn, 0, none⟩ = some (.int .i64 64) := (blk_cell hU1 0).trans rfl
  gi_wp2
  gi_loopw [4] (fun i wr => ∃ k j : Nat, k ≤ n ∧ j = 64 * k ∧ i = .int .i64 j ∧ J ((List.finRange n).take k) wr ∧ wr.heap[Bb]? = some (.cells #[.slice (some ad) N c] 26 (0, 0)) ∧ wr.heap[Bn]? = some (.cells #[.int .i64 64] 3 (0, 0)))
    (fun i _ => N - (intOf i).toNat)
  case atStart => exact ⟨0, 0, Nat.zero_le _, rfl, rfl, h0, hB1, hU1⟩
  case round =>
    obtain ⟨k, j, hk, hj, rfl, hJs, hB2, hU2⟩ := hrel
    have hN := HN.out
    have hb4 : wr.cell? ⟨Bb, 0, none⟩ = some (.slice (some ad) N c) := (blk_cell hB2 0).trans rfl
    have hu2 : wr.cell? ⟨Bn, 0, none⟩ = some (.int .i64 64) := (blk_cell hU2 0).trans rfl
    by_cases hlt : k < n
    · obtain ⟨j2, hj2⟩ : ∃ j2, j2 = j + 64 := ⟨_, rfl⟩
      have hjN : (j : Int) < (N : Int) := by omega
      obtain ⟨m, hm⟩ : ∃ m, N - j = m := ⟨_, rfl⟩
      obtain ⟨c2, hc2⟩ : ∃ c2, c - j = c2 := ⟨_, rfl⟩
      obtain ⟨ad2, had2⟩ : ∃ ad2, (if c = j then some ad else some (ad.add j)) = ad2 := ⟨_, rfl⟩
      have hcf := md5_Sum.cutF ad c (N := N) (j := j) (by omega)
      rw [hm, hc2, had2] at hcf
      have hcm := md5_Sum.cut ad c hj2 (show j2 ≤ N by omega) hc
      rw [show ((j2 : Nat) : Int) = (j : Int) + 64 from by omega] at hcm
      have hmn : ((m : Int) < 64) = False := by simp; omega
      have hlen : ((List.finRange n).take k).length < n := by rw [List.length_take, List.length_finRange]; omega
      have hJ2 : J ((List.finRange n).take k) wr.drew := hJ _ _ _ none hJs (by have h := World.grownBy.refl wr none; exact ⟨h.os, h.tape, h.output, h.size, h.block⟩) (fun r e => by cases e)
      obtain ⟨fn, tmps, assign, body, hy, hR⟩ := hY _ ⟨k, hlt⟩ wr.drew hJ2 hlen
      dsimp only [md5_Sum.enc] at hy
      rw [← hj] at hy
      have HJ := Aside0.mk hj
      have hcat : (List.finRange n).take (k + 1) = (List.finRange n).take k ++ [⟨k, hlt⟩] := by rw [List.take_succ_eq_append_getElem (by rw [List.length_finRange]; exact hlt)]; congr 2; simp
      clear hN hj hj2 hm hc2 had2
      gi_wp2
      gi_region
      all_goals gi_wp2
      all_goals (refine hR.mono ?_)
      all_goals (
        rintro e W3 (⟨rfl, hJ3, hk3⟩ | ⟨rfl, hJx3⟩)
        · have hB3 : W3.heap[Bb]? = some (.cells #[.slice (some ad) N c] 26 (0, 0)) := hk3.1.trans hB2
          have hU3 : W3.heap[Bn]? = some (.cells #[.int .i64 64] 3 (0, 0)) := hk3.2.trans hU2
          have hb5 : W3.cell? ⟨Bb, 0, none⟩ = some (.slice (some ad) N c) := (blk_cell hB3 0).trans rfl
          have hu5 : W3.cell? ⟨Bn, 0, none⟩ = some (.int .i64 64) := (blk_cell hU3 0).trans rfl
          rw [← hcat] at hJ3
          gi_wp2
          go_roundw
          case rel => exact ⟨k + 1, j + 64, hlt, by have := HJ.out; omega, by simp, hJ3, hB3, hU3⟩
          case measure => simp only [intOf]; omega
        · gi_wp2
          refine bodyPost_ret (results_none rfl _ _ _) rfl ?_
          exact ⟨⟨_, rfl⟩, .inr ⟨_, trivial, hJx3⟩⟩)
    · obtain rfl : k = n := by omega
      have hjN : ¬ (j : Int) < (N : Int) := by omega
      clear hN hj
      gi_wp2
      go_end0
      rw [List.take_of_length_le (by rw [List.length_finRange]; exact Nat.le_refl _)] at hJs
      first
        | exact ⟨⟨_, rfl⟩, hJs⟩
        | exact ⟨⟨_, rfl⟩, .inl hJs⟩
        | exact ⟨⟨_, rfl⟩, .inl ⟨_, rfl, hJs⟩⟩
set_option maxRecDepth 100000 in
set_option maxHeartbeats 4000000 in
theorem md5_Sum.chunk_in (F : Fence) (n : Nat) (h17 : F.fn 30) (hro : F.round = none) (w : World) (A : Option Addr) (N c : Nat) :
    CallsIn F n Try.prog 30 #[.slice A N c, .int .i64 64] w fun e w' => e = .returned (.func (.func 36) #[] #[.pointer (some ⟨w.heap.size, 0, none⟩), .pointer (some ⟨w.heap.size + 1, 0, none⟩)]) ∧ w' = (w.alloc (.cells #[.slice A N c] 26)).alloc (.cells #[.int .i64 64] 3) := by
  refine callsIn_of_wp Try.func30 rfl h17 ?_ hro
  simp only [Try.ntmps30, List.size_toArray, List.length_cons, List.length_nil, Nat.reduceAdd, Nat.reduceSub, Array.replicate_succ, Array.replicate_zero, List.push_toArray, List.append_toArray, List.nil_append, List.cons_append]
  gi_wp2
  go_ret
  exact ⟨by simp, rfl⟩
abbrev T4 := Int × Int × Int × Int
def md5_Sum.one (p : List Int) (s : T4) (i : Nat) : T4 := md5_Block.fin s.1 s.2.1 s.2.2.1 s.2.2.2 ((p.take (64 * i + 64)).drop (64 * i))
def md5_Sum.st (p : List Int) (is : List Nat) : T4 := is.foldl (md5_Sum.one p) (1732584193, 4023233417, 2562383102, 271733878)
def md5_Sum.sl (s : T4) : List Int := [s.1, s.2.1, s.2.2.1, s.2.2.2]
structure md5_Sum.SI (w W0 : World) (s : List Int) (W : World) : Prop where
  bel : Below w.heap.size w W
  keep : KeepBut W0 W (w.heap.size + 1) none
  s : Nums W (w.heap.size + 1) 64 .u32 s
theorem md5_Sum.own {β : Type} {w W0 : World} (hsz : w.heap.size + 1 < W0.heap.size) (f : β → List Int) : OwnFrom W0.heap.size (fun (x : β) W => md5_Sum.SI w W0 (f x) W) := by
  intro pre A B row hs hg hr
  have hlt := hs.keep.1
  refine ⟨hs.bel.grown hg hs.bel.size (fun k e => by have := (hr k e).1; omega), ⟨Nat.le_trans hs.keep.1 hg.size, fun k hk hne _ => (hg.block k (by omega) (fun e => by have := (hr k e.symm).1; omega)).trans (hs.keep.2 k hk hne (by simp))⟩, ?_⟩
  exact (hg.block _ (blk_lt hs.s) (fun e => by have := (hr _ e.symm).1; omega)).trans hs.s
theorem md5_Sum.chunk_len {p : List Int} {n i : Nat} (hn : p.length = 64 * n) (hi : i < n) : ((p.take (64 * i + 64)).drop (64 * i)).length = 64 := by
  rw [List.length_drop, List.length_take]; omega
theorem md5_Sum.chunk_C {W : World} {ad : Addr} {p : List Int} {n i : Nat} (hn : p.length = 64 * n) (hi : i < n) (hC : Kd.C (Kd.int .u8) W (some ad) p.length p) : Kd.C (Kd.int .u8) W (some (ad.add (64 * i))) ((p.take (64 * i + 64)).drop (64 * i)).length ((p.take (64 * i + 64)).drop (64 * i)) := by
  have := C_cut (c := p.length) (lo := 64 * i) (hi := 64 * i + 64) hC (by omega) (by omega) (Nat.le_refl _)
  rw [if_neg (by omega), show 64 * i + 64 - 64 * i = 64 by omega] at this
  rw [md5_Sum.chunk_len hn hi]
  have this2 : Kd.C (Kd.int .u8) W (some (ad.add (64 * i * 1))) 64 ((p.take (64 * i + 64)).drop (64 * i)) := this
  rwa [Nat.mul_one] at this2
theorem set4_other {W : World} {g k : Nat} {v0 v1 v2 v3 : Value} (h : k ≠ g) : ((((W.setCell ⟨g, 0, none⟩ v0).setCell ⟨g, 1, none⟩ v1).setCell ⟨g, 2, none⟩ v2).setCell ⟨g, 3, none⟩ v3).heap[k]? = W.heap[k]? := by
  rw [Below.heap_setCell _ ⟨g, 3, none⟩ _ k h, Below.heap_setCell _ ⟨g, 2, none⟩ _ k h, Below.heap_setCell _ ⟨g, 1, none⟩ _ k h, Below.heap_setCell _ ⟨g, 0, none⟩ _ k h]
theorem md5_Sum.SI.round {w W0 W W3 : World} {a b c d r1 r2 r3 r4 : Int} (hI : md5_Sum.SI w W0 [a, b, c, d] W) (hb3 : Below W.heap.size W W3) (hlt : w.heap.size + 1 < W0.heap.size) :
    md5_Sum.SI w W0 [r1, r2, r3, r4] ((((W3.setCell ⟨w.heap.size + 1, 0, none⟩ (.int .u32 r1)).setCell ⟨w.heap.size + 1, 1, none⟩ (.int .u32 r2)).setCell ⟨w.heap.size + 1, 2, none⟩ (.int .u32 r3)).setCell ⟨w.heap.size + 1, 3, none⟩ (.int .u32 r4)) := by
  have hz := hI.keep.1
  have hz3 := hb3.size
  refine ⟨below_set (below_set (below_set (below_set (below_step hI.bel hb3) (by omega)) (by omega)) (by omega)) (by omega), ⟨by simp; omega, fun k hk hne _ => ?_⟩, ?_⟩
  · rw [set4_other hne, hb3.block k (by omega)]
    exact hI.keep.2 k hk hne (by simp)
  · exact ((((hI.s.keep hb3).set (i := 0) (v := r1) (by simp)).set (i := 1) (v := r2) (by simp)).set (i := 2) (v := r3) (by simp)).set (i := 3) (v := r4) (by simp)
def md5_Sum.byte (S : T4) (i : Nat) : Int := (md5_Sum.sl S).getD (i / 4) 0 / 2 ^ (8 * (i % 4)) % 256
def md5_Sum.outs (S : T4) : Nat → List Int
  | 0 => List.replicate 16 0
  | i + 1 => (md5_Sum.outs S i).set i (md5_Sum.byte S i)
theorem md5_Sum.outs_length (S : T4) : ∀ i, (md5_Sum.outs S i).length = 16
  | 0 => rfl
  | i + 1 => by rw [md5_Sum.outs, List.length_set, md5_Sum.outs_length S i]
structure md5_Sum.LI (w : World) (S : T4) (D go : Nat) (os : List Int) (W : World) : Prop where
  bel : Below w.heap.size w W
  s : Nums W (w.heap.size + 1) 64 .u32 (md5_Sum.sl S)
  z : Nums W w.heap.size 22 .u8 (List.replicate 16 0)
  o : Nums W go 22 .u8 os
  d : W.heap[D]? = some (.deferred (some []))
  lt : w.heap.size + 1 < D
  lo : D < go
theorem md5_Sum.LI.put {w W : World} {S : T4} {D go i : Nat} {os : List Int} {v : Int} (h : md5_Sum.LI w S D go os W) (hi : i < os.length) : md5_Sum.LI w S D go (os.set i v) (W.setCell ⟨go, i, none⟩ (.int .u8 v)) := by
  have h1 := h.lt
  have h2 := h.lo
  exact ⟨below_set h.bel (by omega), h.s.far (by omega), h.z.far (by omega), h.o.set hi, (Below.heap_setCell W ⟨go, i, none⟩ _ D (by show D ≠ go; omega)).trans h.d, h1, h2⟩
theorem keepsO {W W' : World} (h : Below W.heap.size W W') : KeepsOthers W W' := ⟨h.size, fun k o hk _ => (h.block k (blk_lt hk)).trans hk⟩
set_option maxRecDepth 100000 in
set_option maxHeartbeats 8000000 in
theorem md5_Sum.sum_in (w : World) (k : Nat) (A0 : Option Addr) (c0 : Nat) (l0 p : List Int) (hr0 : Kd.C (Kd.int .u8) w A0 l0.length l0) (hc0 : l0.length ≤ c0) (hp : md5_Pad.f k l0 = some p) (n : Nat) (hn : p.length = 64 * n) (hn0 : 0 < n) (hmaxp : p.length ≤ 140737488355328) :
    CallsIn Fence.wide 5 Try.prog 27 #[.slice A0 l0.length c0] w fun e w' => e = .returned (.agg ((md5_Sum.outs (md5_Sum.st p (List.range n)) 16).map (Value.int .u8)).toArray) ∧ Below w.heap.size w w' := by
  refine callsIn_of_wp_marks Try.func27 rfl trivial ?_ rfl
  simp only [Try.ntmps27, List.size_toArray, List.length_cons, List.length_nil, Nat.reduceAdd, Nat.reduceSub, Array.replicate_succ, Array.replicate_zero, List.push_toArray, List.append_toArray, List.nil_append, List.cons_append]
  have HN := Aside0.mk hn
  have HR := Aside0.mk hr0
  clear hr0 hn
  gi_wp2
  refine ⟨trivial, ?_⟩
  refine (callsIn_wide.2 (md5_Pad.calls k A0 c0 l0 p _ (Kd.C_below HR.out (pA (pA (Below.refl _ _) _) _)) hc0 hp)).mono ?_
  rintro e W1 ⟨v, rfl, hr, hb⟩
  obtain ⟨A, c, rfl⟩ := Kd.R_slice hr
  obtain ⟨_, hpc, hC⟩ := Kd.R_reads' hr
  obtain ⟨ad, rfl, _⟩ := hC.2.2 (by have := HN.out; omega)
  have hz1 : Nums W1 w.heap.size 22 .u8 (List.replicate 16 0) := Nums.keep (blk_alloc (Nums.new (xs := List.replicate 16 0) rfl) _) hb
  have hs1 : Nums W1 (w.heap.size + 1) 64 .u32 [1732584193, 4023233417, 2562383102, 271733878] := Nums.keep (Nums.new (xs := [1732584193, 4023233417, 2562383102, 271733878]) (bsize _ _)) hb
  have hbel : Below w.heap.size w W1 := below_step (pA (pA (Below.refl _ _) _) _) hb
  have hadw : w.heap.size + 1 < ad.block := by have := Kd.R_base hr ad.block (by simp [Value.ownBlock]); rw [bsize, bsize] at this; omega
  have hadl : ad.block < W1.heap.size := Kd.R_lt hr ad.block (by simp [Value.ownBlock])
  clear hr hb
  gi_wp2
  refine ⟨trivial, ?_⟩
  refine (md5_Sum.chunk_in Fence.wide 4 trivial rfl W1 (some ad) p.length c).mono ?_
  rintro e W0 ⟨rfl, hW0⟩
  have hsz : W0.heap.size = W1.heap.size + 2 := by rw [hW0, bsize, bsize]
  have hb0 : Below W1.heap.size W1 W0 := by rw [hW0]; exact pA (pA (Below.refl _ _) _) _
  have hBb : W0.heap[W1.heap.size]? = some (.cells #[.slice (some ad) p.length c] 26 (0, 0)) := by rw [hW0]; exact blk_alloc (heap_alloc_new W1 _) _
  have hBn : W0.heap[W1.heap.size + 1]? = some (.cells #[.int .i64 64] 3 (0, 0)) := by rw [hW0]; have := heap_alloc_new (W1.alloc (.cells #[.slice (some ad) p.length c] 26)) (.cells #[.int .i64 64] 3); rw [bsize] at this; exact this
  have hz2 := hz1.keep hb0
  have hs2 := hs1.keep hb0
  have hC2 := Kd.C_below hC hb0
  have hbel2 := below_step hbel hb0
  clear hW0
  gi_wp2
  refine wpIn_rangeFunc_ownF rfl (by omega) (gf := 36) (lb := #[.pointer (some ⟨W1.heap.size, 0, none⟩), .pointer (some ⟨W1.heap.size + 1, 0, none⟩)]) rfl trivial (enters_of Try.func36 (by kernel_rfl) rfl)
    (md5_Sum.chunk1_in Fence.wide 4 trivial rfl (by omega) W0 ad p.length n c _ _ HN.out hmaxp hpc hBb hBn) (fun h k => ⟨k.1.trans h.1, k.2.trans h.2⟩) (fun W l o o' hl ho _ _ => ⟨World.putObj_heap_other (by omega), World.putObj_heap_other (by omega)⟩) (Below.refl _ _) (fun _ => rfl)
    (fun (pre : List (Fin n)) W => md5_Sum.SI w W0 (md5_Sum.sl (md5_Sum.st p (pre.map Fin.val))) W)
    (fun _ _ _ => False)
    (md5_Sum.own (by omega) _) (fun _ _ _ _ _ hs _ _ => hs)
    ⟨hbel2, ⟨Nat.le_refl _, fun _ _ _ _ => rfl⟩, hs2⟩
    (fun x => { tmps := #[.slice A0 l0.length c0, undef, .pointer (some ⟨w.heap.size, 0, none⟩), .pointer (some ⟨w.heap.size + 1, 0, none⟩), .slice (some (ad.add (64 * x.val))) 64 64, undef, undef, .agg #[.int .u32 1732584193, .int .u32 4023233417, .int .u32 2562383102, .int .u32 271733878], .slice A0 l0.length c0, .slice (some ad) p.length c, .func (.func 36) #[] #[.pointer (some ⟨W1.heap.size, 0, none⟩), .pointer (some ⟨W1.heap.size + 1, 0, none⟩)], .slice (some (ad.add (64 * x.val))) 64 64, undef, undef, undef, undef, undef, undef, undef, undef, undef, undef, undef, undef, undef, undef, undef, undef, undef, undef, undef], defers := [] }) ?assign ?body ?done ?stop
  case assign =>
    intro l x W K hK
    have e : ((#[11] : Array Tmp).zip (md5_Sum.enc ad x)).foldl (fun t (p, v) => t.setIfInBounds p v) #[.slice A0 l0.length c0, undef, .pointer (some ⟨w.heap.size, 0, none⟩), .pointer (some ⟨w.heap.size + 1, 0, none⟩), undef, undef, undef, .agg #[.int .u32 1732584193, .int .u32 4023233417, .int .u32 2562383102, .int .u32 271733878], .slice A0 l0.length c0, .slice (some ad) p.length c, .func (.func 36) #[] #[.pointer (some ⟨W1.heap.size, 0, none⟩), .pointer (some ⟨W1.heap.size + 1, 0, none⟩)], undef, undef, undef, undef, undef, undef, undef, undef, undef, undef, undef, undef, undef, undef, undef, undef, undef, undef, undef, undef] = #[.slice A0 l0.length c0, undef, .pointer (some ⟨w.heap.size, 0, none⟩), .pointer (some ⟨w.heap.size + 1, 0, none⟩), undef, undef, undef, .agg #[.int .u32 1732584193, .int .u32 4023233417, .int .u32 2562383102, .int .u32 271733878], .slice A0 l0.length c0, .slice (some ad) p.length c, .func (.func 36) #[] #[.pointer (some ⟨W1.heap.size, 0, none⟩), .pointer (some ⟨W1.heap.size + 1, 0, none⟩)], .slice (some (ad.add (64 * x.val))) 64 64, undef, undef, undef, undef, undef, undef, undef, undef, undef, undef, undef, undef, undef, undef, undef, undef, undef, undef, undef] := by simp [md5_Sum.enc]
    rw [e]
    gi_wp2
    exact hK
  case body =>
    rintro l pre x W hI hlen
    obtain ⟨s0, s1, s2, s3, f0, f1, f2, f3⟩ := bk4 (show W.heap[w.heap.size + 1]? = some (.cells #[.int .u32 (md5_Sum.st p (pre.map Fin.val)).1, .int .u32 (md5_Sum.st p (pre.map Fin.val)).2.1, .int .u32 (md5_Sum.st p (pre.map Fin.val)).2.2.1, .int .u32 (md5_Sum.st p (pre.map Fin.val)).2.2.2] 64 (0, 0)) from hI.s)
    obtain ⟨S, hS⟩ : ∃ S, md5_Sum.st p (pre.map Fin.val) = S := ⟨_, rfl⟩
    rw [hS] at s0 s1 s2 s3
    gi_wp2
    refine ⟨trivial, ?_⟩
    obtain ⟨⟨r1, r2, r3, r4⟩, hr4⟩ : ∃ r : T4, md5_Sum.one p S x.val = r := ⟨_, rfl⟩
    have hcall := md5_Block.calls 0 S.1 S.2.1 S.2.2.1 S.2.2.2 (some (ad.add (64 * x.val))) 64 ((p.take (64 * x.val + 64)).drop (64 * x.val)) r1 r2 r3 r4 W (md5_Sum.chunk_C HN.out x.isLt (Kd.C_keep 0 hC2 hI.keep (fun ad' e _ => by cases e; omega))) (by rw [md5_Sum.chunk_len HN.out x.isLt]; exact Nat.le_refl _) (by unfold md5_Block.f; rw [if_pos (by rw [md5_Sum.chunk_len HN.out x.isLt]; exact Nat.le_refl _)]; exact congrArg some hr4)
    rw [md5_Sum.chunk_len HN.out x.isLt] at hcall
    refine (CallsIn.inRound l (callsIn_wide.2 hcall)).mono ?_
    clear hcall
    rintro e W3 ⟨rfl, hb3⟩
    have hs3 := hI.s.keep hb3
    obtain ⟨t0, t1, t2, t3, f0, f1, f2, f3⟩ := bk4 (show W3.heap[w.heap.size + 1]? = some (.cells #[.int .u32 (md5_Sum.st p (pre.map Fin.val)).1, .int .u32 (md5_Sum.st p (pre.map Fin.val)).2.1, .int .u32 (md5_Sum.st p (pre.map Fin.val)).2.2.1, .int .u32 (md5_Sum.st p (pre.map Fin.val)).2.2.2] 64 (0, 0)) from hs3)
    gi_wp2
    have hst : md5_Sum.st p ((pre ++ [x]).map Fin.val) = (r1, r2, r3, r4) := by
      rw [← hr4, ← hS]
      unfold md5_Sum.st
      rw [List.map_append, List.foldl_append]
      simp only [List.map_cons, List.map_nil, List.foldl_cons, List.foldl_nil]
    have hz := hI.keep.1
    refine ⟨(keepsO hb3).trans ((((KeepsOthers.setCell _ _ _).trans (KeepsOthers.setCell _ _ _)).trans (KeepsOthers.setCell _ _ _)).trans (KeepsOthers.setCell _ _ _)), ⟨?_, ?_⟩, ?_⟩
    · rw [set4_other (by omega), hb3.block _ (by omega)]
    · rw [set4_other (by omega), hb3.block _ (by omega)]
    · show md5_Sum.SI w W0 (md5_Sum.sl (md5_Sum.st p ((pre ++ [x]).map Fin.val))) _
      rw [hst]
      replace hI : md5_Sum.SI w W0 (md5_Sum.sl (md5_Sum.st p (pre.map Fin.val))) W := hI
      rw [hS] at hI
      exact md5_Sum.SI.round (a := S.1) (b := S.2.1) (c := S.2.2.1) (d := S.2.2.2) hI hb3 (by omega)
  case done =>
    rintro D xs W hD rfl hI hK
    have hxs : (List.finRange n).map Fin.val = List.range n := by
      apply List.ext_getElem
      · simp
      · intro i h1 h2
        simp
    replace hI : md5_Sum.SI w W0 (md5_Sum.sl (md5_Sum.st p ((List.finRange n).map Fin.val))) W := hI
    rw [hxs] at hI
    obtain ⟨S, hS⟩ : ∃ S, md5_Sum.st p (List.range n) = S := ⟨_, rfl⟩
    rw [hS] at hI
    have hz3 : Nums W w.heap.size 22 .u8 (List.replicate 16 0) := (hI.keep.2 _ (by omega) (by omega) (by simp)).trans hz2
    have hDn : W0.heap.size ≤ D := hD
    have hDl := blk_lt hK
    have hsz2 := hI.keep.1
    have HL1 := Aside0.mk (show md5_Sum.LI w S D W.heap.size (md5_Sum.outs S 0) (W.alloc (.cells #[.int .u8 0, .int .u8 0, .int .u8 0, .int .u8 0, .int .u8 0, .int .u8 0, .int .u8 0, .int .u8 0, .int .u8 0, .int .u8 0, .int .u8 0, .int .u8 0, .int .u8 0, .int .u8 0, .int .u8 0, .int .u8 0] 22)) from
      ⟨pA hI.bel _, blk_alloc hI.s _, blk_alloc hz3 _, Nums.new (xs := List.replicate 16 0) rfl, blk_alloc hK _, by omega, hDl⟩)
    have HS := Aside0.mk hS
    clear hI hK hS hxs
    gi_wp2
    generalize W.alloc (.cells #[.int .u8 0, .int .u8 0, .int .u8 0, .int .u8 0, .int .u8 0, .int .u8 0, .int .u8 0, .int .u8 0, .int .u8 0, .int .u8 0, .int .u8 0, .int .u8 0, .int .u8 0, .int .u8 0, .int .u8 0, .int .u8 0] 22) = W2 at HL1 ⊢
    generalize W.heap.size = go at HL1 ⊢
    clear hz3 hDn hDl hsz2 hD hBb hBn hz2 hs2 hC2 hbel2 hb0 hsz hz1 hs1 hbel hadw hadl hC hpc
    gi_loopw [15] (fun v15 wr => ∃ i : Nat, i ≤ 16 ∧ v15 = .int .i64 i ∧ md5_Sum.LI w S D go (md5_Sum.outs S i) wr) (fun v15 _ => 16 - (intOf v15).toNat)
    case atStart => exact ⟨0, Nat.zero_le _, rfl, HL1.out⟩
    case round =>
      obtain ⟨i, hi, rfl, hm⟩ := hrel
      have HL2 := Aside0.mk hm
      clear hm HL1
      by_cases hlt : i < 16
      · have hlt' : (i : Int) < 16 := by omega
        clear hi
        obtain ⟨jj, hjj⟩ : ∃ jj, i % 4 = jj := ⟨_, rfl⟩
        have ii4 : (i : Int) / 4 < 4 := by omega
        have e3 : ((i : Nat) : Int).tmod 4 = (jj : Int) := by rw [Int.tmod_eq_emod_of_nonneg (by omega)]; omega
        obtain ⟨n8, hn8⟩ : ∃ n8, 8 * jj = n8 := ⟨_, rfl⟩
        have e5 : wrap64 (8 * (jj : Int)) = (n8 : Int) := by rw [wrap64_of]; omega
        have hcs := HL2.out.s.at_ (i := i / 4) (by show i / 4 < 4; omega)
        obtain ⟨sv, hsv⟩ : ∃ sv, (md5_Sum.sl S).getD (i / 4) 0 = sv := ⟨_, rfl⟩
        rw [hsv] at hcs
        have hlo := Aside0.mk (show i < (md5_Sum.outs S i).length by rw [md5_Sum.outs_length]; exact hlt)
        have hfz := HL2.out.o.frozen (i := i)
        have hcl := HL2.out.o.at_ hlo.out
        have HSV := Aside0.mk hsv
        have HIJ := Aside0.mk (And.intro hjj hn8)
        have HN8 := Aside0.mk (show min n8 32 = n8 by omega)
        clear hjj hn8 hsv
        gi_wp2
        go_roundw
        case rel => exact ⟨i + 1, hlt, by go_num, by
          have := HL2.out.put hlo.out (v := sv / 2 ^ n8 % 256)
          rw [md5_Sum.outs, md5_Sum.byte, HIJ.out.1, HIJ.out.2, HSV.out, HN8.out]
          exact this⟩
        case measure => simp only [intOf]; omega
      · obtain rfl : i = 16 := by omega
        clear hi hlt
        obtain ⟨y0, y1, y2, y3, y4, y5, y6, y7, y8, y9, y10, y11, y12, y13, y14, y15, hys⟩ := l16 (md5_Sum.outs_length S 16)
        have HYS := Aside0.mk hys
        rw [hys] at HL2
        clear hys
        obtain ⟨o0, o1, o2, o3, o4, o5, o6, o7, o8, o9, o10, o11, o12, o13, o14, o15, p0, p1, p2, p3, p4, p5, p6, p7, p8, p9, p10, p11, p12, p13, p14, p15⟩ := bk16 (show wr.heap[go]? = some (.cells #[.int .u8 y0, .int .u8 y1, .int .u8 y2, .int .u8 y3, .int .u8 y4, .int .u8 y5, .int .u8 y6, .int .u8 y7, .int .u8 y8, .int .u8 y9, .int .u8 y10, .int .u8 y11, .int .u8 y12, .int .u8 y13, .int .u8 y14, .int .u8 y15] 22 (0, 0)) from HL2.out.o)
        obtain ⟨z0, z1, z2, z3, z4, z5, z6, z7, z8, z9, z10, z11, z12, z13, z14, z15, q0, q1, q2, q3, q4, q5, q6, q7, q8, q9, q10, q11, q12, q13, q14, q15⟩ := bk16 (show wr.heap[w.heap.size]? = some (.cells #[.int .u8 0, .int .u8 0, .int .u8 0, .int .u8 0, .int .u8 0, .int .u8 0, .int .u8 0, .int .u8 0, .int .u8 0, .int .u8 0, .int .u8 0, .int .u8 0, .int .u8 0, .int .u8 0, .int .u8 0, .int .u8 0] 22 (0, 0)) from HL2.out.z)
        gi_wp2
        have hDw : D ≠ w.heap.size := by have := HL2.out.lt; omega
        have hK3 := ((Below.heap_setCell _ ⟨w.heap.size, 15, none⟩ (.int .u8 y15) D hDw).trans ((Below.heap_setCell _ ⟨w.heap.size, 14, none⟩ (.int .u8 y14) D hDw).trans ((Below.heap_setCell _ ⟨w.heap.size, 13, none⟩ (.int .u8 y13) D hDw).trans ((Below.heap_setCell _ ⟨w.heap.size, 12, none⟩ (.int .u8 y12) D hDw).trans ((Below.heap_setCell _ ⟨w.heap.size, 11, none⟩ (.int .u8 y11) D hDw).trans ((Below.heap_setCell _ ⟨w.heap.size, 10, none⟩ (.int .u8 y10) D hDw).trans ((Below.heap_setCell _ ⟨w.heap.size, 9, none⟩ (.int .u8 y9) D hDw).trans ((Below.heap_setCell _ ⟨w.heap.size, 8, none⟩ (.int .u8 y8) D hDw).trans ((Below.heap_setCell _ ⟨w.heap.size, 7, none⟩ (.int .u8 y7) D hDw).trans ((Below.heap_setCell _ ⟨w.heap.size, 6, none⟩ (.int .u8 y6) D hDw).trans ((Below.heap_setCell _ ⟨w.heap.size, 5, none⟩ (.int .u8 y5) D hDw).trans ((Below.heap_setCell _ ⟨w.heap.size, 4, none⟩ (.int .u8 y4) D hDw).trans ((Below.heap_setCell _ ⟨w.heap.size, 3, none⟩ (.int .u8 y3) D hDw).trans ((Below.heap_setCell _ ⟨w.heap.size, 2, none⟩ (.int .u8 y2) D hDw).trans ((Below.heap_setCell _ ⟨w.heap.size, 1, none⟩ (.int .u8 y1) D hDw).trans ((Below.heap_setCell _ ⟨w.heap.size, 0, none⟩ (.int .u8 y0) D hDw).trans HL2.out.d))))))))))))))))
        refine ⟨by simp, .inl ⟨_, _, rfl, run_takeDeferred hK3, ?_⟩⟩
        have hzf := ((((((((((((((((HL2.out.z.set (i := 0) (v := y0) (by simp)).set (i := 1) (v := y1) (by simp)).set (i := 2) (v := y2) (by simp)).set (i := 3) (v := y3) (by simp)).set (i := 4) (v := y4) (by simp)).set (i := 5) (v := y5) (by simp)).set (i := 6) (v := y6) (by simp)).set (i := 7) (v := y7) (by simp)).set (i := 8) (v := y8) (by simp)).set (i := 9) (v := y9) (by simp)).set (i := 10) (v := y10) (by simp)).set (i := 11) (v := y11) (by simp)).set (i := 12) (v := y12) (by simp)).set (i := 13) (v := y13) (by simp)).set (i := 14) (v := y14) (by simp)).set (i := 15) (v := y15) (by simp))
        have hlt := HL2.out.lt
        refine ⟨.agg #[.int .u8 y0, .int .u8 y1, .int .u8 y2, .int .u8 y3, .int .u8 y4, .int .u8 y5, .int .u8 y6, .int .u8 y7, .int .u8 y8, .int .u8 y9, .int .u8 y10, .int .u8 y11, .int .u8 y12, .int .u8 y13, .int .u8 y14, .int .u8 y15], results_cell_row rfl _ _ w.heap.size 22 #[.int .u8 y0, .int .u8 y1, .int .u8 y2, .int .u8 y3, .int .u8 y4, .int .u8 y5, .int .u8 y6, .int .u8 y7, .int .u8 y8, .int .u8 y9, .int .u8 y10, .int .u8 y11, .int .u8 y12, .int .u8 y13, .int .u8 y14, .int .u8 y15] (0, 0) _ rfl ((World.putObj_heap_other (by omega)).trans hzf) Try.underlying22 rfl (by kernel_rfl), ?_, ?_⟩
        · rw [HS.out, HYS.out]
          rfl
        · exact (below_set (below_set (below_set (below_set (below_set (below_set (below_set (below_set (below_set (below_set (below_set (below_set (below_set (below_set (below_set (below_set HL2.out.bel (Nat.le_refl _)) (Nat.le_refl _)) (Nat.le_refl _)) (Nat.le_refl _)) (Nat.le_refl _)) (Nat.le_refl _)) (Nat.le_refl _)) (Nat.le_refl _)) (Nat.le_refl _)) (Nat.le_refl _)) (Nat.le_refl _)) (Nat.le_refl _)) (Nat.le_refl _)) (Nat.le_refl _)) (Nat.le_refl _)) (Nat.le_refl _)).trans (belowK_b (w := w) (Nat.le_refl _) _ D _ _ (by omega) hK3 rfl rfl)
  case stop =>
    rintro D c pre W _ _ h _
    exact h.elim
def md5_Sum.f (k : Nat) (l0 : List Int) : Option (Int × Int × Int × Int × Int × Int × Int × Int × Int × Int × Int × Int × Int × Int × Int × Int) := (md5_Pad.f k l0).bind fun p => if p.length % 64 = 0 ∧ 0 < p.length ∧ p.length ≤ 140737488355328 then some (tup16 (md5_Sum.outs (md5_Sum.st p (List.range (p.length / 64))) 16)) else none
theorem md5_Sum.mono : ∀ (l0 : List Int) (k : Nat), LeO (md5_Sum.f k l0) (md5_Sum.f (k + 1) l0) := by
  intro l0 k
  unfold md5_Sum.f
  exact LeO.bind (md5_Pad.mono _ _) (fun _ => LeO.refl _)
theorem md5_Sum.calls (k : Nat) (A0 : Option Addr) (c0 : Nat) (l0 : List Int) (r1 : Int) (r2 : Int) (r3 : Int) (r4 : Int) (r5 : Int) (r6 : Int) (r7 : Int) (r8 : Int) (r9 : Int) (r10 : Int) (r11 : Int) (r12 : Int) (r13 : Int) (r14 : Int) (r15 : Int) (r16 : Int) (w : World) (hr0 : Kd.C (Kd.int .u8) w A0 l0.length l0) (hc0 : l0.length ≤ c0) (h : md5_Sum.f k l0 = some (r1, r2, r3, r4, r5, r6, r7, r8, r9, r10, r11, r12, r13, r14, r15, r16)) :
    Calls Try.prog 27 #[.slice A0 l0.length c0] w fun e w' => e = .returned (.agg #[.int .u8 r1, .int .u8 r2, .int .u8 r3, .int .u8 r4, .int .u8 r5, .int .u8 r6, .int .u8 r7, .int .u8 r8, .int .u8 r9, .int .u8 r10, .int .u8 r11, .int .u8 r12, .int .u8 r13, .int .u8 r14, .int .u8 r15, .int .u8 r16]) ∧ Below w.heap.size w w' := by
  unfold md5_Sum.f at h
  obtain ⟨p, hp, h⟩ := Option.bind_eq_some_iff.1 h
  split at h
  · rename_i hc
    obtain ⟨h1, h2, h3⟩ := hc
    have h := Option.some.inj h
    refine (callsIn_wide.1 (md5_Sum.sum_in w k A0 c0 l0 p hr0 hc0 hp (p.length / 64) (by omega) (by omega) h3)).mono ?_
    rintro e w' ⟨rfl, hb⟩
    refine ⟨?_, hb⟩
    obtain ⟨y0, y1, y2, y3, y4, y5, y6, y7, y8, y9, y10, y11, y12, y13, y14, y15, hy⟩ := l16 (md5_Sum.outs_length (md5_Sum.st p (List.range (p.length / 64))) 16)
    rw [hy] at h ⊢
    simp only [tup16, Prod.mk.injEq] at h
    obtain ⟨rfl, rfl, rfl, rfl, rfl, rfl, rfl, rfl, rfl, rfl, rfl, rfl, rfl, rfl, rfl, rfl⟩ := h
    rfl
  · cases h
end

end Go.Proofs.Ytpbkdphilcodmaa.Q
