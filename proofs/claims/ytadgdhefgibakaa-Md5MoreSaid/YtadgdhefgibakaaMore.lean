/- The walk of the law on more: a digest of a row that fills whole blocks, with another row behind, goes on from the state of these blocks. -/
import Derived.Test.YtadgdhefgibakaaBase
import Derived.Test.YtadgdhefgibakaaEq
import Derived.Test.YtadgdhefgibakaaArr
import Derived.Test.YtadgdhefgibakaaRow
import Derived.Test.YtadgdhefgibakaaNm
import Derived.Test.YtadgdhefgibakaaBlocks
import Derived.Test.YtadgdhefgibakaaQx3
import Derived.Test.YtadgdhefgibakaaQx4
import Derived.Test.YtadgdhefgibakaaQx6
import Derived.Test.YtadgdhefgibakaaQx8
namespace Go.Proofs.Ytadgdhefgibakaa.Q
open Go.RowKit Go.Proofs.YtadgdhefgibakaaW.PrintWords Go.Proofs.YtadgdhefgibakaaW.PrintLast Go.Proofs.YtadgdhefgibakaaW.PrintMore
open Go.Proofs.YtadgdhefgibakaaV Go.Proofs.Ytadgdhefgibakaa.Pure
attribute [local go_sem] max2_int min2_int max_two min_two max_three min_three max_four min_four
set_option linter.unusedVariables false
set_option linter.unusedSimpArgs false
structure more_M (w : World) (gs g3 : Nat) (ms : List Int) (S : T4) (all : List Int) (v : Value) (W : World) : Prop where
  bel : Below w.heap.size w W
  s : Nums W gs 24 .u32 [S.1, S.2.1, S.2.2.1, S.2.2.2]
  m : Nums W g3 25 .u8 ms
  v : Kd.R (Kd.int .u8) 5 W (gs + 1) (fun _ => True) v all
  lo : w.heap.size ≤ gs
  lt : g3 < gs
  sz : gs + 1 ≤ W.heap.size
theorem more_M.grow {w W W' : World} {gs g3 : Nat} {ms : List Int} {S : T4} {all all' : List Int} {v v' : Value} (h : more_M w gs g3 ms S all v W) (hb : Below (gs + 1) W W') (hv : Kd.R (Kd.int .u8) 5 W' (gs + 1) (fun _ => True) v' all') : more_M w gs g3 ms S all' v' W' :=
  ⟨h.bel.trans (hb.mono (by have := h.lo; omega)), (hb.block gs (by omega)).trans h.s, (hb.block g3 (by have := h.lt; omega)).trans h.m, hv, h.lo, h.lt, Nat.le_trans h.sz hb.size⟩
theorem more_eval {ms : List Int} {a : Act} {x : Operand} {A : Option Addr} (h : ms.length = 64) (hx : a.eval x = .slice A 64 64) : a.eval x = .slice A ms.length 64 := by rw [h]; exact hx
theorem more_C {W : World} {g : Nat} {ms : List Int} (h : Nums W g 25 .u8 ms) (hl : ms.length = 64) : Kd.C (Kd.int .u8) W (some ⟨g, 0, none⟩) 64 ms := by
  have := C_nums h (by omega)
  rwa [hl] at this
theorem more_C' {W : World} {g : Nat} {ms : List Int} (h : Nums W g 25 .u8 ms) (hl : ms.length = 64) : Kd.C (Kd.int .u8) W (some ⟨g, 0, none⟩) ms.length ms := C_nums h (by omega)
theorem more_f {ms : List Int} {S : T4} {r1 r2 r3 r4 : Int} (hl : ms.length = 64) (hr : md5_Block.fin S.1 S.2.1 S.2.2.1 S.2.2.2 ms = (r1, r2, r3, r4)) : md5_Block.f 0 S.1 S.2.1 S.2.2.1 S.2.2.2 ms = some (r1, r2, r3, r4) := by
  unfold md5_Block.f
  rw [if_pos (by omega)]
  exact congrArg some hr
/-- The state behind k blocks of ms. -/
def mst (ms : List Int) : Nat → T4
  | 0 => (1732584193, 4023233417, 2562383102, 271733878)
  | k + 1 => md5_Block.fin (mst ms k).1 (mst ms k).2.1 (mst ms k).2.2.1 (mst ms k).2.2.2 ms
theorem more_M.keep {w W W' : World} {gs g3 : Nat} {ms : List Int} {S : T4} {all : List Int} {v : Value} (h : more_M w gs g3 ms S all v W) (hb : Below W.heap.size W W') : more_M w gs g3 ms S all v W' :=
  ⟨below_step h.bel hb, h.s.keep hb, h.m.keep hb, Kd.R_mono (Kd.R_move (Kd.R_bound h.v) (fun k hk => hb.block k hk.2.2.1)) (fun _ _ => trivial), h.lo, h.lt, Nat.le_trans h.sz hb.size⟩
theorem more_M.put {w W : World} {gs g3 i : Nat} {ms : List Int} {S S' : T4} {all : List Int} {u : Value} {v : Int} (h : more_M w gs g3 ms S all u W) (hi : i < 4) (hS : [S.1, S.2.1, S.2.2.1, S.2.2.2].set i v = [S'.1, S'.2.1, S'.2.2.1, S'.2.2.2]) : more_M w gs g3 ms S' all u (W.setCell ⟨gs, i, none⟩ (.int .u32 v)) :=
  ⟨below_set h.bel h.lo, by have := h.s.set (v := v) hi; rw [hS] at this; exact this, h.m.far (by have := h.lt; omega), Kd.R_mono (Kd.R_move (Kd.R_bound h.v) (fun k hk => Below.heap_setCell W _ _ k (by have := hk.2.1; show k ≠ gs; omega))) (fun _ _ => trivial), h.lo, h.lt, by have := h.sz; simpa [World.setCell] using this⟩
theorem more_M.put4 {w W : World} {gs g3 : Nat} {ms : List Int} {S : T4} {all : List Int} {u : Value} {r1 r2 r3 r4 : Int} (h : more_M w gs g3 ms S all u W) : more_M w gs g3 ms (r1, r2, r3, r4) all u ((((W.setCell ⟨gs, 0, none⟩ (.int .u32 r1)).setCell ⟨gs, 1, none⟩ (.int .u32 r2)).setCell ⟨gs, 2, none⟩ (.int .u32 r3)).setCell ⟨gs, 3, none⟩ (.int .u32 r4)) := by
  obtain ⟨a, b, c, d⟩ := S
  exact (((h.put (S' := (r1, b, c, d)) (by omega) rfl).put (S' := (r1, r2, c, d)) (by omega) rfl).put (S' := (r1, r2, r3, d)) (by omega) rfl).put (S' := (r1, r2, r3, r4)) (by omega) rfl
theorem more_cut (A : Option Addr) {N j c : Nat} (hj : j ≤ N) (hc : N ≤ c) (W : World) : (Instr.slice 22 (.slice A N c) none (some (.int .i64 (j : Int))) none).run Try.prog W = .ok (.slice A j c) W := by
  obtain ⟨i04, hi04, _, hsz4, _⟩ := info_parts info5
  have := cut_to (P := Try.prog) 22 5 .i64 Try.underlying22 hi04 A N c (j : Int) (by omega) (by omega) hc W
  rwa [Int.toNat_natCast] at this
theorem more_st (ms rest : List Int) (h : ms.length = 64) (k : Nat) : ∀ i, i ≤ k → md5_Sum.st (rep k ms ++ rest) (List.range i) = mst ms i
  | 0, _ => rfl
  | i + 1, hi => by
    rw [blocks_st, more_st ms rest h k i (by omega), mst]
    unfold md5_Sum.one
    rw [rep_chunk ms rest h k i (by omega)]
/-- What is left of the walk behind the first loop: the padded row, all, and the state. -/
structure more_P (w : World) (gs : Nat) (ad : Addr) (p : List Int) (A9 : Option Addr) (all : List Int) (S : T4) (W : World) : Prop where
  bel : Below w.heap.size w W
  s : Nums W gs 24 .u32 [S.1, S.2.1, S.2.2.1, S.2.2.2]
  p : Kd.C (Kd.int .u8) W (some ad) p.length p
  a : Kd.C (Kd.int .u8) W A9 all.length all
  lo : w.heap.size ≤ gs
  ne : ad.block ≠ gs
  na : ∀ ad', A9 = some ad' → ad'.block ≠ gs
theorem more_P.keep {w W W' : World} {gs : Nat} {ad : Addr} {p all : List Int} {A9 : Option Addr} {S : T4} (h : more_P w gs ad p A9 all S W) (hb : Below W.heap.size W W') : more_P w gs ad p A9 all S W' := ⟨below_step h.bel hb, h.s.keep hb, Kd.C_below h.p hb, Kd.C_below h.a hb, h.lo, h.ne, h.na⟩
theorem more_P.put {w W : World} {gs i : Nat} {ad : Addr} {p all : List Int} {A9 : Option Addr} {S S' : T4} {v : Int} (h : more_P w gs ad p A9 all S W) (hi : i < 4) (hS : [S.1, S.2.1, S.2.2.1, S.2.2.2].set i v = [S'.1, S'.2.1, S'.2.2.1, S'.2.2.2]) : more_P w gs ad p A9 all S' (W.setCell ⟨gs, i, none⟩ (.int .u32 v)) :=
  ⟨below_set h.bel h.lo, by have := h.s.set (v := v) hi; rw [hS] at this; exact this, Kd.C_keep 0 h.p ⟨by simp, fun k _ hne _ => Below.heap_setCell W ⟨gs, i, none⟩ _ k hne⟩ (fun ad' e _ => by cases e; exact h.ne), Kd.C_keep 0 h.a ⟨by simp, fun k _ hne _ => Below.heap_setCell W ⟨gs, i, none⟩ _ k hne⟩ (fun ad' e _ => h.na ad' e), h.lo, h.ne, h.na⟩
theorem more_P.put4 {w W : World} {gs : Nat} {ad : Addr} {p all : List Int} {A9 : Option Addr} {S : T4} {r1 r2 r3 r4 : Int} (h : more_P w gs ad p A9 all S W) : more_P w gs ad p A9 all (r1, r2, r3, r4) ((((W.setCell ⟨gs, 0, none⟩ (.int .u32 r1)).setCell ⟨gs, 1, none⟩ (.int .u32 r2)).setCell ⟨gs, 2, none⟩ (.int .u32 r3)).setCell ⟨gs, 3, none⟩ (.int .u32 r4)) := by
  obtain ⟨a, b, c, d⟩ := S
  exact (((h.put (S' := (r1, b, c, d)) (by omega) rfl).put (S' := (r1, r2, c, d)) (by omega) rfl).put (S' := (r1, r2, r3, d)) (by omega) rfl).put (S' := (r1, r2, r3, r4)) (by omega) rfl
theorem more_take {i : Nat} {ms l : List Int} {k64 : Nat} (h : (rep i ms).length = k64) : (pad (rep i ms ++ l)).take k64 = rep i ms := by
  unfold pad
  simp only [List.append_assoc]
  exact List.take_left' h
theorem more_pad (a l : List Int) : pad (a ++ l) = a ++ (l ++ ([128] ++ (List.replicate (zn (a ++ l).length) 0 ++ lb (a ++ l).length))) := by
  unfold pad
  simp only [List.append_assoc]
theorem more_drawn {W W' : World} (h : Drawn0 W W') : Below W.heap.size W W' := by
  obtain ⟨n, rfl⟩ := h
  exact pN (Below.refl _ _) _
theorem more_ctake {W : World} {A : Option Addr} {p : List Int} {j : Nat} (h : Kd.C (Kd.int .u8) W A p.length p) (hj : j ≤ p.length) : Kd.C (Kd.int .u8) W A j (p.take j) := by
  have := Kd.C_take (m := j) h hj
  rwa [show (p.take j).length = j by rw [List.length_take]; omega] at this
theorem more_num {S : T4} {y0 y1 y2 y3 : Int} (hu : u32T S) (h0 : y0 = md5_Sum.byte S 0) (h1 : y1 = md5_Sum.byte S 1) (h2 : y2 = md5_Sum.byte S 2) (h3 : y3 = md5_Sum.byte S 3) :
    (0 ≤ y0 ∧ y0 ≤ 255) ∧ (0 ≤ y1 ∧ y1 ≤ 255) ∧ (0 ≤ y2 ∧ y2 ≤ 255) ∧ (0 ≤ y3 ∧ y3 ≤ 255) ∧ y0 + 256 * y1 + 65536 * y2 + 16777216 * y3 = S.1 ∧ 0 ≤ S.1 ∧ S.1 ≤ 4294967295 := by
  obtain ⟨hl, hr⟩ := hu S.1 (by simp)
  have b0 : md5_Sum.byte S 0 = S.1 % 256 := by have := blocks_byte S 0 0 (by omega); simpa [md5_Sum.sl] using this
  have b1 : md5_Sum.byte S 1 = S.1 / 256 % 256 := by have := blocks_byte S 0 1 (by omega); rw [show (2 : Int) ^ (8 * 1) = 256 by decide] at this; exact this
  have b2 : md5_Sum.byte S 2 = S.1 / 65536 % 256 := by have := blocks_byte S 0 2 (by omega); rw [show (2 : Int) ^ (8 * 2) = 65536 by decide] at this; exact this
  have b3 : md5_Sum.byte S 3 = S.1 / 16777216 % 256 := by have := blocks_byte S 0 3 (by omega); rw [show (2 : Int) ^ (8 * 3) = 16777216 by decide] at this; exact this
  rw [h0, h1, h2, h3, b0, b1, b2, b3]
  omega
theorem more_sum {y0 y1 y2 y3 s : Int} (h : (0 ≤ y0 ∧ y0 ≤ 255) ∧ (0 ≤ y1 ∧ y1 ≤ 255) ∧ (0 ≤ y2 ∧ y2 ≤ 255) ∧ (0 ≤ y3 ∧ y3 ≤ 255) ∧ y0 + 256 * y1 + 65536 * y2 + 16777216 * y3 = s ∧ 0 ≤ s ∧ s ≤ 4294967295) :
    wrap64 (wrap64 (wrap64 (wrap64 y0 + wrap64 (256 * wrap64 y1)) + wrap64 (65536 * wrap64 y2)) + wrap64 (16777216 * wrap64 y3)) = wrap64 s := by
  unfold wrap64
  omega
set_option maxHeartbeats 8000000 in
set_option maxRecDepth 100000 in
theorem more_calls (ms : List Int) (hms : ms.length = 64) (a1 : Int) (h1 : 0 ≤ a1 ∧ a1 ≤ 255) (l : List Int) (A : Option Addr) (cl : Nat) (w : World) (hr : Kd.C (Kd.int .u8) w A l.length l) (hcl : l.length ≤ cl) :
    Calls Try.prog 6 #[.agg (ms.map (Value.int .u8)).toArray, .int .u8 a1, .slice A l.length cl] w fun e w' => e = .returned (.bool true) ∧ Below w.heap.size w w' := by
  have HR := Aside0.mk hr
  have HCL := Aside0.mk hcl
  have HMS := Aside0.mk hms
  clear hr hcl hms
  go_enter Try.func6, Try.ntmps6
  go_upto_if 18 with (first
    | ((with_reducible refine gate_dst (N := 3) rfl ?_); refine box_event ?hg (N := 3) ?hd (cs := (ms.map (Value.int .u8)).toArray) (t := 25) ?hr ?_; (case hd => rfl); (case hg => rfl); (case hr => first | (go_simp; done) | (go_simp; rfl)); intro g3 hg w1 hbox hb; have B3 := Aside0.mk (show Nums w1 g3 25 .u8 ms from hbox); have HB := Aside0.mk hb; clear hbox hb)
    | (go_at_call 8; refine (portreevelaw02_shown.calls 100 true _ (shown_f 100 (by omega))).mono ?_; rintro e w2 ⟨rfl, hb⟩; have n0 := Aside0.mk (below_step HB.out hb); have n1 := Aside0.mk (B3.out.keep hb); clear HB B3 hb; have HB := n0; have B3 := n1; clear n0 n1))
  by_cases hlen : (l.length : Int) > 300
  · have hlen2 : (300 : Int) < (l.length : Int) := hlen
    go_wp2
    go_ret
    exact ⟨rfl, HB.out⟩
  · have hlen2 : ¬ (300 : Int) < (l.length : Int) := hlen
    have hlen3 := Aside0.mk (show l.length ≤ 300 by omega)
    clear hlen
    obtain ⟨k, hk⟩ : ∃ k, k = (a1 % 8).toNat := ⟨_, rfl⟩
    have HK := Aside0.mk (show k < 8 by omega)
    have e8 : Int.tmod a1 8 = (k : Int) := by rw [Int.tmod_eq_emod_of_nonneg h1.1]; omega
    have e8' : a1 % 8 = (k : Int) := by omega
    have e9 : wrap64 (k : Int) = (k : Int) := by rw [wrap64_of] <;> omega
    have e10 : IntKind.u8.wrap (k : Int) = (k : Int) := by rw [Go.Proofs.YtadgdhefgibakaaK.wu8]; omega
    clear hk
    go_wp2
    subst hg
    have HM := Aside0.mk (show more_M w w2.heap.size w.heap.size ms (mst ms 0) (rep 0 ms) (.slice none 0 0) (w2.alloc (.cells #[.int .u32 1732584193, .int .u32 4023233417, .int .u32 2562383102, .int .u32 271733878] 24)) from
      ⟨pA HB.out _, Nums.new (xs := [1732584193, 4023233417, 2562383102, 271733878]) rfl, blk_alloc B3.out _, Kd.R_nil _ _ _ _ _, HB.out.size, blk_lt B3.out, by rw [bsize]; exact Nat.le_refl _⟩)
    clear HB B3
    generalize w2.alloc (.cells #[.int .u32 1732584193, .int .u32 4023233417, .int .u32 2562383102, .int .u32 271733878] 24) = w3 at HM ⊢
    generalize w2.heap.size = gs at HM ⊢
    go_loopw [9, 11] (fun v9 v11 wr => ∃ i : Nat, i ≤ k ∧ v11 = .int .i64 i ∧ more_M w gs w.heap.size ms (mst ms i) (rep i ms) v9 wr) (fun v9 v11 _ => k - (intOf v11).toNat)
    case atStart => exact ⟨0, Nat.zero_le _, rfl, HM.out⟩
    case round =>
      obtain ⟨i, hi, rfl, hm⟩ := hrel
      have hK := HK.out
      obtain ⟨S, hS⟩ : ∃ S, mst ms i = S := ⟨_, rfl⟩
      rw [hS] at hm
      have HS := Aside0.mk hS
      clear hS
      have HM1 := Aside0.mk hm
      clear hm HM
      by_cases hlt : i < k
      · have hlt' : (i : Int) < (k : Int) := by omega
        go_upto_region 11 with (first
          | ((with_reducible refine gate_builtin (b := .append) (xs := #[.tmp 29, .tmp 30]) rfl ?_); at_builtin; refine Kd.R_append_rows (Kd.int .u8) (gs + 1) rfl (.tmp 29) (.tmp 30) 22 5 (.int .u8 0) 1 rfl Try.underlying22 info5 rfl (by decide) (by omega) _ (rep i ms) ms _ _ _ (fun _ => True) (fun _ => False) rfl rfl HM1.out.v (more_C HM1.out.m HMS.out) (fun _ _ h => h) (fun _ h => h.elim) (fun _ _ => trivial) (Below.refl _ _) HM1.out.sz ?aL ?_; (case aL => rw [rep_length ms HMS.out]; omega); intro v31 w4 ho hb hg hat; clear hg hat; have HM2 := Aside0.mk (HM1.out.grow hb ho); clear HM1 ho hb))
        obtain ⟨hc0, hc1, hc2, hc3, hf0, hf1, hf2, hf3⟩ := bk4 HM2.out.s
        refine start_ (n := 4) (S := fun w' => w'.cell? ⟨gs, 0, none⟩ = some (.int .u32 S.1) ∧ w'.cell? ⟨gs, 1, none⟩ = some (.int .u32 S.2.1) ∧ w'.cell? ⟨gs, 2, none⟩ = some (.int .u32 S.2.2.1) ∧ w'.cell? ⟨gs, 3, none⟩ = some (.int .u32 S.2.2.2)) (ds := [3]) #[false, false, false, false] (by kernel_rfl) rfl rfl ⟨hc0, hc1, hc2, hc3⟩ (fun hHeld => ?_)
        clear hc0 hc1 hc2 hc3 hf0 hf1 hf2 hf3
        have HM3 := Aside0.mk (HM2.out.keep (pD (Below.refl _ _)))
        clear HM2
        generalize w4.drew = w5 at HM3 hHeld ⊢
        refine take_ (i := 0) (N := some 32) (v := ?_) (a' := ?_) #[true, false, false, false] rfl rfl (by kernel_rfl) (fun _ _ _ h => h) (Or.inl ⟨by rfl, ?_⟩) hHeld ?_ ?_
        rotate_left
        · rintro w' ⟨c0, c1, c2, c3⟩
          go_simp
          with_reducible rfl
        rotate_left
        · simp only [Act.put, sT, s0, s1, i64_w, i32_w]
          rfl
        refine pure_ (i := 1) (N := some 33) (v := ?_) (a' := ?_) #[true, true, false, false] rfl rfl (by kernel_rfl) (fun _ _ _ h => h) (Or.inl ⟨by rfl, ?_⟩) ?_ ?_
        rotate_left
        · intro w'
          go_simp
          with_reducible rfl
        rotate_left
        · simp only [Act.put, sT, s0, s1, i64_w, i32_w]
          rfl
        refine one_ (i := 2) (N := some 34) #[true, true, true, false] rfl rfl (by kernel_rfl) (by decide) (fun K hK => ?_)
        obtain ⟨⟨r1, r2, r3, r4⟩, hr4⟩ : ∃ r : T4, md5_Block.fin S.1 S.2.1 S.2.2.1 S.2.2.2 ms = r := ⟨_, rfl⟩
        have hcall := md5_Block.calls 0 S.1 S.2.1 S.2.2.1 S.2.2.2 _ 64 ms r1 r2 r3 r4 w5 (more_C' HM3.out.m HMS.out) (by rw [HMS.out]; omega) (more_f HMS.out hr4)
        rw [HMS.out] at hcall
        refine goes_ Try.func14 (by kernel_rfl) rfl #[.agg #[.int .u32 S.1, .int .u32 S.2.1, .int .u32 S.2.2.1, .int .u32 S.2.2.2], .slice (some ⟨w.heap.size, 0, none⟩) 64 64] (by rfl) rfl rfl (by simp only [List.map_toArray, List.map_cons, List.map_nil]; rfl) ?_
        refine hcall.mono ?_
        clear hcall
        rintro e w6 ⟨rfl, hb⟩
        refine ⟨_, rfl, ?_⟩
        have HM4 := Aside0.mk (HM3.out.keep hb)
        refine hK.out _ _ ⟨(hb.cell (World.block_lt_of_cell? _ _ hHeld.1)).trans hHeld.1, (hb.cell (World.block_lt_of_cell? _ _ hHeld.2.1)).trans hHeld.2.1, (hb.cell (World.block_lt_of_cell? _ _ hHeld.2.2.1)).trans hHeld.2.2.1, (hb.cell (World.block_lt_of_cell? _ _ hHeld.2.2.2)).trans hHeld.2.2.2⟩ (fun _ => ?_)
        clear hK K hHeld HM3 hb
        refine norm_ (a' := ?_) ?_ ?_
        rotate_left
        · show Act.put _ (some 34) _ = _
          simp only [Act.put, sT, s0, s1, i64_w, i32_w]
          rfl
        refine last_ (i := 3) (N := none) #[true, true, true, true] rfl rfl (by kernel_rfl) (by decide) (fun K hK => ?_)
        obtain ⟨hc0, hc1, hc2, hc3, hf0, hf1, hf2, hf3⟩ := bk4 HM4.out.s
        refine skip_ (w1 := ?_) (by rfl) rfl ?_ ?_
        rotate_left
        · go_simp
          rfl
        refine hK.out _ _ ?_
        clear hK K hc0 hc1 hc2 hc3 hf0 hf1 hf2 hf3
        have HM5 := Aside0.mk (HM4.out.put4 (r1 := r1) (r2 := r2) (r3 := r3) (r4 := r4))
        clear HM4
        refine done_ (by kernel_rfl) ?_
        go_wp2
        go_roundw
        case rel => exact ⟨i + 1, by omega, by go_num, by rw [mst, HS.out, hr4, rep_snoc]; exact HM5.out⟩
        case measure => simp [intOf]; omega
      · obtain rfl : i = k := by omega
        clear hlt hi
        obtain ⟨A9, c9, rfl⟩ := Kd.R_slice HM1.out.v
        have HA9 := Aside0.mk (Kd.R_reads' HM1.out.v)
        have hl9 := rep_length ms HMS.out i
        obtain ⟨k64, hk64⟩ : ∃ k64, 64 * i = k64 := ⟨_, rfl⟩
        have e11 : wrap64 (64 * (i : Int)) = (k64 : Int) := by rw [wrap64_of] <;> omega
        obtain ⟨q, hq⟩ : ∃ q, q = rep i ms ++ l := ⟨_, rfl⟩
        obtain ⟨p, hp⟩ : ∃ p, p = pad q := ⟨_, rfl⟩
        obtain ⟨n, hn⟩ : ∃ n, p.length = 64 * n := ⟨p.length / 64, by have := pad_mod q; rw [← hp] at this; omega⟩
        have hql : q.length = 64 * i + l.length := by rw [hq, List.length_append, hl9]
        have hpl : q.length + 9 ≤ p.length ∧ p.length ≤ 9000 := by have h1 := pad_length q; have h2 := zn_lt q.length; rw [← hp] at h1; have := hlen3.out; omega
        have HP := Aside0.mk (show md5_Pad.f 100 q = some p by rw [hp]; exact pad_f q 100 (by have := hlen3.out; omega) (by omega))
        have HQ := Aside0.mk hq
        have HPQ := Aside0.mk hp
        have HN := Aside0.mk hn
        have HPL := Aside0.mk hpl
        have HQL := Aside0.mk hql
        have HL9 := Aside0.mk hl9
        have HK64 := Aside0.mk hk64
        clear hq hp hn hpl hql hl9 hk64 hK e8 e8' e9 e10
        go_upto_region 13 with (first
          | ((with_reducible refine gate_dst (N := 35) rfl ?_); refine Kd.R_lit (Kd.int .u8) wr.heap.size 5 ?hg (N := 35) ?hd (xs := ([] : List Int)) (inner := []) (ok := fun _ => True) (okp := fun _ => True) ?hr ?hp (fun _ hk => hk) trivial (Below.refl _ _) (Nat.le_refl _) (by simp) ?_; (case hd => rfl); (case hg => rfl); (case hr => first | (go_simp; done) | (go_simp; rfl)); (case hp => exact (Reps.none _ _)); intro v35 w5 ho hb hg hn; clear hg hn; have HO := Aside0.mk ho; have HB := Aside0.mk hb; clear ho hb)
          | ((with_reducible refine gate_builtin (b := .append) (xs := #[.tmp 35, .tmp 36]) rfl ?_); at_builtin; refine Kd.R_append_rows (Kd.int .u8) (w0 := wr) wr.heap.size rfl (.tmp 35) (.tmp 36) 22 5 (.int .u8 0) 1 rfl Try.underlying22 info5 rfl (by decide) (by omega) _ [] (rep i ms) _ _ _ (fun _ => True) (fun _ => False) rfl rfl HO.out (Kd.C_below HA9.out.2.2 HB.out) (fun _ _ h => h) (fun _ h => h.elim) (fun _ _ => trivial) HB.out HB.out.size ?aL ?_; (case aL => rw [HL9.out]; simp only [List.length_nil]; have := HK.out; omega); intro v37 w6 ho hb hg hat; clear HO HB hg hat; rw [List.nil_append] at ho; have HO := Aside0.mk ho; have HB := Aside0.mk hb; clear ho hb)
          | ((with_reducible refine gate_builtin (b := .append) (xs := #[.tmp 37, .tmp 38]) rfl ?_); at_builtin; refine Kd.R_append_rows (Kd.int .u8) (w0 := wr) wr.heap.size rfl (.tmp 37) (.tmp 38) 22 5 (.int .u8 0) 1 rfl Try.underlying22 info5 rfl (by decide) (by omega) _ (rep i ms) l _ _ _ (fun _ => True) (fun _ => False) rfl rfl HO.out (Kd.C_below HR.out (below_step HM1.out.bel HB.out)) (fun _ _ h => h) (fun _ h => h.elim) (fun _ _ => trivial) HB.out HB.out.size ?aL ?_; (case aL => rw [HL9.out]; have := hlen3.out; have := HK.out; omega); intro v39 w7 ho hb hg hat; clear HO HB hg hat; rw [← HQ.out] at ho; obtain ⟨A10, c10, rfl⟩ := Kd.R_slice ho; have HO := Aside0.mk (Kd.R_reads' ho); have HM2 := Aside0.mk (HM1.out.keep hb); have HC2 := Aside0.mk (Kd.C_below HA9.out.2.2 hb); clear ho hb)
          | (go_at_call 12; refine (md5_Pad.calls 100 A10 c10 q p _ HO.out.2.2 HO.out.2.1 HP.out).mono ?_; rintro e w8 ⟨v40, rfl, hr2, hb2⟩; obtain ⟨A2, c, rfl⟩ := Kd.R_slice hr2; obtain ⟨ad, rfl, _⟩ := (Kd.R_reads' hr2).2.2.2.2 (by have := HPL.out; omega); have HPC := Aside0.mk (Kd.R_reads' hr2).2.1; have HX := Aside0.mk (show more_P w gs ad p A9 (rep i ms) S w8 from ⟨below_step HM2.out.bel hb2, HM2.out.s.keep hb2, (Kd.R_reads' hr2).2.2, Kd.C_below HC2.out hb2, HM2.out.lo, by have := Kd.R_base hr2 ad.block (by simp [Value.ownBlock]); have := HM2.out.sz; omega, fun ad' e => by have := Kd.R_base HM2.out.v ad'.block (by rw [e]; simp [Value.ownBlock]); omega⟩); clear hr2 hb2 HO HM2 HC2))
        have h64 : ¬ (p.length : Int) < (k64 : Int) := by have := HPL.out; have := HQL.out; have := HK64.out; omega
        have hcut := more_cut (some ad) (j := k64) (show k64 ≤ p.length by omega) HPC.out
        have hrow := row 100000 (p.take k64) (rep i ms) (by rw [List.length_take]; have := HPL.out; omega) (by rw [List.length_take]; have := HPL.out; omega)
        rw [decide_eq_true (show p.take k64 = rep i ms by rw [HPQ.out, HQ.out]; exact more_take (by rw [HL9.out]; exact HK64.out))] at hrow
        have hptl : (p.take k64).length = k64 := by rw [List.length_take]; omega
        have hrl : (rep i ms).length = k64 := HL9.out.trans HK64.out
        have hcall := fun W h1 h2 => portreeveref01_Row.calls 100000 (some ad) c (p.take k64) A9 c9 (rep i ms) true W h1 (by rw [hptl]; have := HPC.out; omega) h2 HA9.out.2.1 hrow
        rw [hptl] at hcall
        have HCALL := Aside0.mk hcall
        clear hcall hrow hptl hrl
        go_wp2_with (first
          | (go_at_call 11; (refine (HCALL.out _ (more_ctake HX.out.p (by omega)) HX.out.a).mono ?_; rintro e w9 ⟨rfl, hd⟩; have HX2 := Aside0.mk (HX.out.keep (more_drawn hd)); clear HX HCALL hd)))
        clear hcut h64
        rw [← HS.out] at HX2
        have hst : md5_Sum.st p (List.range i) = mst ms i := by rw [HPQ.out, HQ.out, more_pad]; exact more_st ms _ HMS.out i i (Nat.le_refl _)
        go_loopw [13] (fun v13 wr2 => ∃ i2 j : Nat, i2 ≤ n ∧ j = 64 * i2 ∧ v13 = .int .i64 j ∧ more_P w gs ad p A9 (rep i ms) (md5_Sum.st p (List.range i2)) wr2) (fun v13 _ => p.length - (intOf v13).toNat)
        case atStart => exact ⟨i, k64, by have := HPL.out; have := HQL.out; have := HN.out; omega, HK64.out.symm, by first | rfl | (rw [e11]), by rw [hst]; exact HX2.out⟩
        case round =>
          obtain ⟨i2, j, hi, hj, rfl, hm⟩ := hrel
          obtain ⟨S2, hS2⟩ : ∃ S2, md5_Sum.st p (List.range i2) = S2 := ⟨_, rfl⟩
          rw [hS2] at hm
          have HM3 := Aside0.mk hm
          clear hm HX2 hst
          have hN := HN.out
          have hPL := HPL.out
          obtain ⟨j2, hj2⟩ : ∃ j2, j + 64 = j2 := ⟨_, rfl⟩
          have e1 : wrap64 ((j : Int) + 64) = (j2 : Int) := by rw [wrap64_of] <;> omega
          by_cases hlt : i2 < n
          · have hle : (j2 : Int) ≤ (p.length : Int) := by omega
            have hjp : j + 64 ≤ p.length := by omega
            have HJ := Aside0.mk hj
            have HJ2 := Aside0.mk hj2
            clear hj hN hPL hj2
            go_upto_region 18 with (fail)
            have hj2 := HJ2.out
            obtain ⟨hc0, hc1, hc2, hc3, hf0, hf1, hf2, hf3⟩ := bk4 HM3.out.s
            have hcut := blocks_cut ad c (N := p.length) (j := j) hj2 hjp HPC.out
            clear hj2
            refine start_ (n := 8) (S := fun w' => w'.cell? ⟨gs, 0, none⟩ = some (.int .u32 S2.1) ∧ w'.cell? ⟨gs, 1, none⟩ = some (.int .u32 S2.2.1) ∧ w'.cell? ⟨gs, 2, none⟩ = some (.int .u32 S2.2.2.1) ∧ w'.cell? ⟨gs, 3, none⟩ = some (.int .u32 S2.2.2.2)) (ds := [7]) #[false, false, false, false, false, false, false, false] (by kernel_rfl) rfl rfl ⟨hc0, hc1, hc2, hc3⟩ (fun hHeld => ?_)
            clear hc0 hc1 hc2 hc3 hf0 hf1 hf2 hf3
            have HM4 := Aside0.mk (HM3.out.keep (pD (Below.refl _ _)))
            clear HM3
            generalize wr.drew = w10 at HM4 hHeld ⊢
            refine take_ (i := 0) (N := some 64) (v := ?_) (a' := ?_) #[true, false, false, false, false, false, false, false] rfl rfl (by kernel_rfl) (fun _ _ _ h => h) (Or.inl ⟨by rfl, ?_⟩) hHeld ?_ ?_
            rotate_left
            · rintro w' ⟨c0, c1, c2, c3⟩
              go_simp
              with_reducible rfl
            rotate_left
            · simp only [Act.put, sT, s0, s1, i64_w, i32_w]
              rfl
            refine pure_ (i := 1) (N := some 65) (v := ?_) (a' := ?_) #[true, true, false, false, false, false, false, false] rfl rfl (by kernel_rfl) (fun _ _ _ h => h) (Or.inl ⟨by rfl, ?_⟩) ?_ ?_
            rotate_left
            · intro w'
              go_simp
              with_reducible rfl
            rotate_left
            · simp only [Act.put, sT, s0, s1, i64_w, i32_w]
              rfl
            refine pure_ (i := 2) (N := some 66) (v := ?_) (a' := ?_) #[true, true, true, false, false, false, false, false] rfl rfl (by kernel_rfl) (fun _ _ _ h => h) (Or.inl ⟨by rfl, ?_⟩) ?_ ?_
            rotate_left
            · intro w'
              go_simp
              with_reducible rfl
            rotate_left
            · simp only [Act.put, sT, s0, s1, i64_w, i32_w]
              rfl
            refine pure_ (i := 3) (N := some 67) (v := ?_) (a' := ?_) #[true, true, true, true, false, false, false, false] rfl rfl (by kernel_rfl) (fun _ _ _ h => h) (Or.inl ⟨by rfl, ?_⟩) ?_ ?_
            rotate_left
            · intro w'
              go_simp
              with_reducible rfl
            rotate_left
            · simp only [Act.put, sT, s0, s1, i64_w, i32_w]
              rfl
            refine pure_ (i := 4) (N := some 68) (v := ?_) (a' := ?_) #[true, true, true, true, true, false, false, false] rfl rfl (by kernel_rfl) (fun _ _ _ h => h) (Or.inl ⟨by rfl, ?_⟩) ?_ ?_
            rotate_left
            · intro w'
              go_simp
              with_reducible rfl
            rotate_left
            · simp only [Act.put, sT, s0, s1, i64_w, i32_w, e1]
              rfl
            refine pure_ (i := 5) (N := some 69) (v := ?_) (a' := ?_) #[true, true, true, true, true, true, false, false] rfl rfl (by kernel_rfl) (fun _ _ _ h => h) (Or.inl ⟨by rfl, ?_⟩) ?_ ?_
            rotate_left
            · intro w'
              go_simp
              with_reducible rfl
            rotate_left
            · simp only [Act.put, sT, s0, s1, i64_w, i32_w]
              rfl
            refine one_ (i := 6) (N := some 70) #[true, true, true, true, true, true, true, false] rfl rfl (by kernel_rfl) (by decide) (fun K hK => ?_)
            obtain ⟨⟨r1, r2, r3, r4⟩, hr4⟩ : ∃ r : T4, md5_Sum.one p S2 i2 = r := ⟨_, rfl⟩
            have hcall := md5_Block.calls 0 S2.1 S2.2.1 S2.2.2.1 S2.2.2.2 _ (c - j) ((p.take (j + 64)).drop j) r1 r2 r3 r4 w10 (blocks_C (c := c) hjp HPC.out HM4.out.p) (by rw [blocks_len hjp]; have := HPC.out; omega) (blocks_h HJ.out hjp hr4)
            rw [blocks_len hjp] at hcall
            refine goes_ Try.func14 (by kernel_rfl) rfl #[.agg #[.int .u32 S2.1, .int .u32 S2.2.1, .int .u32 S2.2.2.1, .int .u32 S2.2.2.2], .slice (if c = j then some ad else some (ad.add j)) 64 (c - j)] (by rfl) rfl rfl (by simp only [List.map_toArray, List.map_cons, List.map_nil]; rfl) ?_
            refine hcall.mono ?_
            clear hcall
            rintro e w11 ⟨rfl, hb⟩
            refine ⟨_, rfl, ?_⟩
            have HM5 := Aside0.mk (HM4.out.keep hb)
            refine hK.out _ _ ⟨(hb.cell (World.block_lt_of_cell? _ _ hHeld.1)).trans hHeld.1, (hb.cell (World.block_lt_of_cell? _ _ hHeld.2.1)).trans hHeld.2.1, (hb.cell (World.block_lt_of_cell? _ _ hHeld.2.2.1)).trans hHeld.2.2.1, (hb.cell (World.block_lt_of_cell? _ _ hHeld.2.2.2)).trans hHeld.2.2.2⟩ (fun _ => ?_)
            clear hK K hHeld HM4 hb hcut
            refine norm_ (a' := ?_) ?_ ?_
            rotate_left
            · show Act.put _ (some 70) _ = _
              simp only [Act.put, sT, s0, s1, i64_w, i32_w]
              rfl
            refine last_ (i := 7) (N := none) #[true, true, true, true, true, true, true, true] rfl rfl (by kernel_rfl) (by decide) (fun K hK => ?_)
            obtain ⟨hc0, hc1, hc2, hc3, hf0, hf1, hf2, hf3⟩ := bk4 HM5.out.s
            refine skip_ (w1 := ?_) (by rfl) rfl ?_ ?_
            rotate_left
            · go_simp
              rfl
            refine hK.out _ _ ?_
            clear hK K hc0 hc1 hc2 hc3 hf0 hf1 hf2 hf3
            have HM6 := Aside0.mk (HM5.out.put4 (r1 := r1) (r2 := r2) (r3 := r3) (r4 := r4))
            clear HM5
            refine done_ (by kernel_rfl) ?_
            go_wp2
            go_roundw
            case rel => exact ⟨i2 + 1, j2, by omega, by have := HJ.out; have := HJ2.out; omega, by first | go_num | (rw [e1]; rfl), by rw [blocks_st, hS2, hr4]; exact HM6.out⟩
            case measure =>
              rw [e1]
              exact blocks_dec hjp HJ2.out
          · obtain rfl : i2 = n := by omega
            have hle : ¬ (j2 : Int) ≤ (p.length : Int) := by omega
            have HS2 := Aside0.mk hS2
            clear hS2 hi hlt hj hN hPL hj2
            have hsum := fun W A c (hC : Kd.C (Kd.int .u8) W A q.length q) hc => callsIn_wide.1 (md5_Sum.sum_in W 100 A c q p hC hc HP.out i2 HN.out (by have := HPL.out; have := HN.out; omega) (by have := HPL.out; omega))
            rw [HS2.out] at hsum
            have hu := st_u32 p i2 (by have := HPL.out; have := HN.out; omega)
            rw [HS2.out] at hu
            have hget := outs_get S2 16 (Nat.le_refl _)
            obtain ⟨y0, y1, y2, y3, y4, y5, y6, y7, y8, y9, y10, y11, y12, y13, y14, y15, hys⟩ := l16 (md5_Sum.outs_length S2 16)
            rw [hys] at hsum hget
            have HSUM := Aside0.mk (show ∀ W A c, Kd.C (Kd.int .u8) W A q.length q → q.length ≤ c → Calls Try.prog 9 #[.slice A q.length c] W fun e w' => e = .returned (.agg #[.int .u8 y0, .int .u8 y1, .int .u8 y2, .int .u8 y3, .int .u8 y4, .int .u8 y5, .int .u8 y6, .int .u8 y7, .int .u8 y8, .int .u8 y9, .int .u8 y10, .int .u8 y11, .int .u8 y12, .int .u8 y13, .int .u8 y14, .int .u8 y15]) ∧ Below W.heap.size W w' from hsum)
            have HNUM := Aside0.mk (more_num (y0 := y0) (y1 := y1) (y2 := y2) (y3 := y3) hu (hget 0 (by omega)) (hget 1 (by omega)) (hget 2 (by omega)) (hget 3 (by omega)))
            clear hsum hu hget hys
            go_upto_region 20 with (first
              | ((with_reducible refine gate_dst (N := 71) rfl ?_); refine Kd.R_lit (Kd.int .u8) wr.heap.size 5 ?hg (N := 71) ?hd (xs := ([] : List Int)) (inner := []) (ok := fun _ => True) (okp := fun _ => True) ?hr ?hp (fun _ hk => hk) trivial (Below.refl _ _) (Nat.le_refl _) (by simp) ?_; (case hd => rfl); (case hg => rfl); (case hr => first | (go_simp; done) | (go_simp; rfl)); (case hp => exact (Reps.none _ _)); intro v71 w12 ho hb hg hn; clear hg hn; have HO := Aside0.mk ho; have HB := Aside0.mk hb; clear ho hb)
              | ((with_reducible refine gate_builtin (b := .append) (xs := #[.tmp 71, .tmp 72]) rfl ?_); at_builtin; refine Kd.R_append_rows (Kd.int .u8) (w0 := wr) wr.heap.size rfl (.tmp 71) (.tmp 72) 22 5 (.int .u8 0) 1 rfl Try.underlying22 info5 rfl (by decide) (by omega) _ [] (rep i ms) _ _ _ (fun _ => True) (fun _ => False) rfl rfl HO.out (Kd.C_below HM3.out.a HB.out) (fun _ _ h => h) (fun _ h => h.elim) (fun _ _ => trivial) HB.out HB.out.size ?aL ?_; (case aL => rw [HL9.out]; simp only [List.length_nil]; have := HK.out; omega); intro v73 w13 ho hb hg hat; clear HO HB hg hat; rw [List.nil_append] at ho; have HO := Aside0.mk ho; have HB := Aside0.mk hb; clear ho hb)
              | ((with_reducible refine gate_builtin (b := .append) (xs := #[.tmp 73, .tmp 74]) rfl ?_); at_builtin; refine Kd.R_append_rows (Kd.int .u8) (w0 := wr) wr.heap.size rfl (.tmp 73) (.tmp 74) 22 5 (.int .u8 0) 1 rfl Try.underlying22 info5 rfl (by decide) (by omega) _ (rep i ms) l _ _ _ (fun _ => True) (fun _ => False) rfl rfl HO.out (Kd.C_below HR.out (below_step HM3.out.bel HB.out)) (fun _ _ h => h) (fun _ h => h.elim) (fun _ _ => trivial) HB.out HB.out.size ?aL ?_; (case aL => rw [HL9.out]; have := hlen3.out; have := HK.out; omega); intro v75 w14 ho hb hg hat; clear HO HB hg hat; rw [← HQ.out] at ho; obtain ⟨A12, c12, rfl⟩ := Kd.R_slice ho; have HO := Aside0.mk (Kd.R_reads' ho); have HM4 := Aside0.mk (HM3.out.keep hb); clear HM3 ho hb)
              | (go_at_call 9; refine (HSUM.out _ _ _ HO.out.2.2 HO.out.2.1).mono ?_; rintro e w15 ⟨rfl, hb⟩; have HM5 := Aside0.mk (HM4.out.keep hb); clear HM4 HO HSUM hb))
            have HZ := Aside0.mk (show blocks_X w gs w15.heap.size S2 [y0, y1, y2, y3, y4, y5, y6, y7, y8, y9, y10, y11, y12, y13, y14, y15] (w15.alloc (.cells #[.int .u8 y0, .int .u8 y1, .int .u8 y2, .int .u8 y3, .int .u8 y4, .int .u8 y5, .int .u8 y6, .int .u8 y7, .int .u8 y8, .int .u8 y9, .int .u8 y10, .int .u8 y11, .int .u8 y12, .int .u8 y13, .int .u8 y14, .int .u8 y15] 26)) from ⟨pA HM5.out.bel _, blk_alloc HM5.out.s _, Nums.new (xs := [y0, y1, y2, y3, y4, y5, y6, y7, y8, y9, y10, y11, y12, y13, y14, y15]) rfl⟩)
            clear HM5
            generalize w15.alloc (.cells #[.int .u8 y0, .int .u8 y1, .int .u8 y2, .int .u8 y3, .int .u8 y4, .int .u8 y5, .int .u8 y6, .int .u8 y7, .int .u8 y8, .int .u8 y9, .int .u8 y10, .int .u8 y11, .int .u8 y12, .int .u8 y13, .int .u8 y14, .int .u8 y15] 26) = w16 at HZ ⊢
            generalize w15.heap.size = gx at HZ ⊢
            have hd0 : w16.cell? ⟨gx, 0, none⟩ = some (.int .u8 y0) := HZ.out.x.at_ (i := 0) (by simp)
            have hd1 : w16.cell? ⟨gx, 1, none⟩ = some (.int .u8 y1) := HZ.out.x.at_ (i := 1) (by simp)
            have hd2 : w16.cell? ⟨gx, 2, none⟩ = some (.int .u8 y2) := HZ.out.x.at_ (i := 2) (by simp)
            have hd3 : w16.cell? ⟨gx, 3, none⟩ = some (.int .u8 y3) := HZ.out.x.at_ (i := 3) (by simp)
            have hds : w16.cell? ⟨gs, 0, none⟩ = some (.int .u32 S2.1) := HZ.out.s.at_ (i := 0) (by simp)
            obtain ⟨sv, hsv⟩ : ∃ sv, S2.1 = sv := ⟨_, rfl⟩
            rw [hsv] at hds HNUM
            have hsum := more_sum HNUM.out
            clear hsv HNUM e1 hle
            go_wp2
            go_ret
            exact ⟨rfl, HZ.out.bel⟩
end Go.Proofs.Ytadgdhefgibakaa.Q
