/- The walk of the law on blocks: a digest is what blocks of what is padded come to. -/
import Derived.Test.YtadgdhefgibakaaBase
import Derived.Test.YtadgdhefgibakaaNm
import Derived.Test.YtadgdhefgibakaaQx3
import Derived.Test.YtadgdhefgibakaaQx4
import Derived.Test.YtadgdhefgibakaaQx6
import Derived.Test.YtadgdhefgibakaaQx8
namespace Go.Proofs.Ytadgdhefgibakaa.Q
open Go.RowKit Go.Proofs.YtadgdhefgibakaaW.PrintWords Go.Proofs.YtadgdhefgibakaaW.PrintLast Go.Proofs.YtadgdhefgibakaaW.PrintMore
open Go.Proofs.YtadgdhefgibakaaV Go.Proofs.Ytadgdhefgibakaa.Pure
attribute [local go_sem] max2_int min2_int max_two min_two max_three min_three max_four min_four
set_option linter.unusedVariables false
set_option linter.unusedSimpArgs false
theorem blocks_cut (ad : Addr) (c : Nat) {N j j2 : Nat} (h2 : j + 64 = j2) (hN : j + 64 ≤ N) (hc : N ≤ c) (W : World) : (Instr.slice 22 (.slice (some ad) N c) (some (.int .i64 (j : Int))) (some (.int .i64 (j2 : Int))) none).run Try.prog W = .ok (.slice (if c = j then some ad else some (ad.add j)) 64 (c - j)) W := by
  subst h2
  obtain ⟨i04, hi04, _, hsz4, _⟩ := info_parts info5
  have := cut_mid (P := Try.prog) 22 5 .i64 .i64 Try.underlying22 hi04 1 hsz4 (some ad) N c (j : Int) ((j + 64 : Nat) : Int) (by omega) (by omega) (by omega) hc W
  rw [this, Int.toNat_natCast, Int.toNat_natCast, show j + 64 - j = 64 by omega, Nat.mul_one]
  rfl
theorem blocks_len {p : List Int} {j : Nat} (h : j + 64 ≤ p.length) : ((p.take (j + 64)).drop j).length = 64 := by
  rw [List.length_drop, List.length_take]; omega
theorem blocks_C {W : World} {ad : Addr} {p : List Int} {j c : Nat} (h : j + 64 ≤ p.length) (hc : p.length ≤ c) (hC : Kd.C (Kd.int .u8) W (some ad) p.length p) : Kd.C (Kd.int .u8) W (if c = j then some ad else some (ad.add j)) ((p.take (j + 64)).drop j).length ((p.take (j + 64)).drop j) := by
  have := C_cut (c := c) (lo := j) (hi := j + 64) hC (by omega) h hc
  rw [show j + 64 - j = 64 by omega] at this
  rw [blocks_len h]
  have this2 : Kd.C (Kd.int .u8) W (if c = j then some ad else some (ad.add (j * 1))) 64 ((p.take (j + 64)).drop j) := this
  rwa [Nat.mul_one] at this2
theorem blocks_st (p : List Int) (i : Nat) : md5_Sum.st p (List.range (i + 1)) = md5_Sum.one p (md5_Sum.st p (List.range i)) i := by
  unfold md5_Sum.st
  rw [List.range_succ, List.foldl_append]
  rfl
theorem blocks_h {p : List Int} {S : T4} {i j : Nat} {r1 r2 r3 r4 : Int} (hj : j = 64 * i) (hjp : j + 64 ≤ p.length) (hr : md5_Sum.one p S i = (r1, r2, r3, r4)) : md5_Block.f 0 S.1 S.2.1 S.2.2.1 S.2.2.2 ((p.take (j + 64)).drop j) = some (r1, r2, r3, r4) := by
  have hl := blocks_len hjp
  subst hj
  unfold md5_Block.f
  rw [if_pos (by omega)]
  exact congrArg some hr
theorem blocks_dec {N j j2 : Nat} (h1 : j + 64 ≤ N) (h2 : j + 64 = j2) : N - ((j2 : Nat) : Int).toNat < N - ((j : Nat) : Int).toNat := by
  rw [Int.toNat_natCast, Int.toNat_natCast]
  omega
structure blocks_M (w : World) (gs : Nat) (ad : Addr) (p : List Int) (S : T4) (W : World) : Prop where
  bel : Below w.heap.size w W
  s : Nums W gs 24 .u32 [S.1, S.2.1, S.2.2.1, S.2.2.2]
  p : Kd.C (Kd.int .u8) W (some ad) p.length p
  lo : w.heap.size ≤ gs
  ne : ad.block ≠ gs
theorem blocks_M.keep {w W W' : World} {gs : Nat} {ad : Addr} {p : List Int} {S : T4} (h : blocks_M w gs ad p S W) (hb : Below W.heap.size W W') : blocks_M w gs ad p S W' := ⟨below_step h.bel hb, h.s.keep hb, Kd.C_below h.p hb, h.lo, h.ne⟩
theorem blocks_M.put {w W : World} {gs i : Nat} {ad : Addr} {p : List Int} {S S' : T4} {v : Int} (h : blocks_M w gs ad p S W) (hi : i < 4) (hS : [S.1, S.2.1, S.2.2.1, S.2.2.2].set i v = [S'.1, S'.2.1, S'.2.2.1, S'.2.2.2]) : blocks_M w gs ad p S' (W.setCell ⟨gs, i, none⟩ (.int .u32 v)) :=
  ⟨below_set h.bel h.lo, by have := h.s.set (v := v) hi; rw [hS] at this; exact this, Kd.C_keep 0 h.p ⟨by simp, fun k _ hne _ => Below.heap_setCell W ⟨gs, i, none⟩ _ k hne⟩ (fun ad' e _ => by cases e; exact h.ne), h.lo, h.ne⟩
theorem blocks_M.put4 {w W : World} {gs : Nat} {ad : Addr} {p : List Int} {S : T4} {r1 r2 r3 r4 : Int} (h : blocks_M w gs ad p S W) : blocks_M w gs ad p (r1, r2, r3, r4) ((((W.setCell ⟨gs, 0, none⟩ (.int .u32 r1)).setCell ⟨gs, 1, none⟩ (.int .u32 r2)).setCell ⟨gs, 2, none⟩ (.int .u32 r3)).setCell ⟨gs, 3, none⟩ (.int .u32 r4)) := by
  obtain ⟨a, b, c, d⟩ := S
  exact (((h.put (S' := (r1, b, c, d)) (by omega) rfl).put (S' := (r1, r2, c, d)) (by omega) rfl).put (S' := (r1, r2, r3, d)) (by omega) rfl).put (S' := (r1, r2, r3, r4)) (by omega) rfl
structure blocks_X (w : World) (gs gx : Nat) (S : T4) (ys : List Int) (W : World) : Prop where
  bel : Below w.heap.size w W
  s : Nums W gs 24 .u32 [S.1, S.2.1, S.2.2.1, S.2.2.2]
  x : Nums W gx 26 .u8 ys
theorem blocks_X.keep {w W W' : World} {gs gx : Nat} {S : T4} {ys : List Int} (h : blocks_X w gs gx S ys W) (hb : Below W.heap.size W W') : blocks_X w gs gx S ys W' := ⟨below_step h.bel hb, h.s.keep hb, h.x.keep hb⟩
theorem outs_get (S : T4) : ∀ n, n ≤ 16 → ∀ m, m < n → (md5_Sum.outs S n).getD m 0 = md5_Sum.byte S m
  | 0, _, m, hm => absurd hm (Nat.not_lt_zero m)
  | n + 1, hn, m, hm => by
    have hl := md5_Sum.outs_length S n
    rw [md5_Sum.outs, List.getD_eq_getElem?_getD, List.getElem?_set]
    by_cases h : n = m
    · subst h
      rw [if_pos rfl, if_pos (by omega)]
      rfl
    · rw [if_neg h, ← List.getD_eq_getElem?_getD]
      exact outs_get S n (by omega) m (by omega)
def u32T (S : T4) : Prop := ∀ x ∈ [S.1, S.2.1, S.2.2.1, S.2.2.2], 0 ≤ x ∧ x ≤ 4294967295
theorem fin_u32 (a b c d : Int) (l : List Int) : u32T (md5_Block.fin a b c d l) := by
  unfold md5_Block.fin
  have h : ∀ x, 0 ≤ u32w x ∧ u32w x ≤ 4294967295 := fun x => by unfold u32w; rw [Go.Proofs.YtadgdhefgibakaaK.wu32]; omega
  intro x hx
  simp only [List.mem_cons, List.not_mem_nil, or_false] at hx
  rcases hx with rfl | rfl | rfl | rfl <;> exact h _
theorem st_u32 (p : List Int) (n : Nat) (hn : 0 < n) : u32T (md5_Sum.st p (List.range n)) := by
  obtain ⟨n, rfl⟩ : ∃ m, n = m + 1 := ⟨n - 1, by omega⟩
  rw [blocks_st]
  exact fin_u32 _ _ _ _ _
theorem blocks_mem (S : T4) (q : Nat) (hq : q < 4) : (md5_Sum.sl S).getD q 0 ∈ [S.1, S.2.1, S.2.2.1, S.2.2.2] := by
  have h : q = 0 ∨ q = 1 ∨ q = 2 ∨ q = 3 := by omega
  rcases h with rfl | rfl | rfl | rfl <;> simp [md5_Sum.sl]
theorem blocks_byte (S : T4) (q j : Nat) (hj : j < 4) : md5_Sum.byte S (4 * q + j) = (md5_Sum.sl S).getD q 0 / 2 ^ (8 * j) % 256 := by
  unfold md5_Sum.byte
  rw [show (4 * q + j) / 4 = q by omega, show (4 * q + j) % 4 = j by omega]
set_option maxHeartbeats 8000000 in
set_option maxRecDepth 100000 in
theorem blocks_calls (l : List Int) (A : Option Addr) (cl : Nat) (w : World) (hr : Kd.C (Kd.int .u8) w A l.length l) (hcl : l.length ≤ cl) :
    Calls Try.prog 4 #[.slice A l.length cl] w fun e w' => e = .returned (.bool true) ∧ Below w.heap.size w w' := by
  have HR := Aside0.mk hr
  have HCL := Aside0.mk hcl
  clear hr hcl
  go_enter Try.func4, Try.ntmps4
  go_upto_if 13 with (first
    | (go_at_call 8; refine (portreevelaw02_shown.calls 100 true _ (shown_f 100 (by omega))).mono ?_; rintro e w1 ⟨rfl, hb⟩; have HB1 := Aside0.mk hb; clear hb))
  by_cases hlen : (l.length : Int) > 1000
  · have hlen2 : (1000 : Int) < (l.length : Int) := hlen
    go_wp2
    go_ret
    exact ⟨rfl, HB1.out⟩
  · have hlen2 : ¬ (1000 : Int) < (l.length : Int) := hlen
    have hlen3 := Aside0.mk (show l.length ≤ 8000 by omega)
    clear hlen
    obtain ⟨p, hp⟩ : ∃ p, p = pad l := ⟨_, rfl⟩
    obtain ⟨n, hn⟩ : ∃ n, p.length = 64 * n := ⟨p.length / 64, by have := pad_mod l; rw [← hp] at this; omega⟩
    have hpl : 9 ≤ p.length ∧ p.length ≤ 9000 := by have h1 := pad_length l; have h2 := zn_lt l.length; rw [← hp] at h1; have := hlen3.out; omega
    have HP := Aside0.mk (show md5_Pad.f 100 l = some p by rw [hp]; exact pad_f l 100 hlen3.out (by omega))
    have HN := Aside0.mk hn
    have hmod : (p.length : Int).tmod 64 = 0 := by rw [Int.tmod_eq_emod_of_nonneg (by omega)]; omega
    have HPL := Aside0.mk hpl
    clear hp hn hpl
    go_wp2_with (first
      | (go_at_call 12; refine (md5_Pad.calls 100 A cl l p _ (Kd.C_below HR.out HB1.out) HCL.out HP.out).mono ?_; rintro e w2 ⟨v2, rfl, hr2, hb2⟩; obtain ⟨A2, c, rfl⟩ := Kd.R_slice hr2; obtain ⟨ad, rfl, _⟩ := (Kd.R_reads' hr2).2.2.2.2 (by have := HPL.out; omega); have HPC := Aside0.mk (Kd.R_reads' hr2).2.1; have HC2 := Aside0.mk (Kd.R_reads' hr2).2.2; have HL2 := Aside0.mk (Kd.R_lt hr2 ad.block (by simp [Value.ownBlock])); have HB2 := Aside0.mk (below_step HB1.out hb2); clear hr2 hb2 HB1))
    have HM := Aside0.mk (show blocks_M w w2.heap.size ad p (md5_Sum.st p (List.range 0)) (w2.alloc (.cells #[.int .u32 1732584193, .int .u32 4023233417, .int .u32 2562383102, .int .u32 271733878] 24)) from
      ⟨pA HB2.out _, Nums.new (xs := [1732584193, 4023233417, 2562383102, 271733878]) rfl, Kd.C_alloc HC2.out _, HB2.out.size, Nat.ne_of_lt HL2.out⟩)
    clear HC2 HL2 HB2 hmod
    generalize w2.alloc (.cells #[.int .u32 1732584193, .int .u32 4023233417, .int .u32 2562383102, .int .u32 271733878] 24) = w3 at HM ⊢
    generalize w2.heap.size = gs at HM ⊢
    go_loopw [6] (fun v6 wr => ∃ i j : Nat, i ≤ n ∧ j = 64 * i ∧ v6 = .int .i64 j ∧ blocks_M w gs ad p (md5_Sum.st p (List.range i)) wr) (fun v6 _ => p.length - (intOf v6).toNat)
    case atStart => exact ⟨0, 0, Nat.zero_le _, rfl, rfl, HM.out⟩
    case round =>
      obtain ⟨i, j, hi, hj, rfl, hm⟩ := hrel
      obtain ⟨S, hS⟩ : ∃ S, md5_Sum.st p (List.range i) = S := ⟨_, rfl⟩
      rw [hS] at hm
      have HM1 := Aside0.mk hm
      clear hm HM
      have hN := HN.out
      have hPL := HPL.out
      obtain ⟨j2, hj2⟩ : ∃ j2, j + 64 = j2 := ⟨_, rfl⟩
      have e1 : wrap64 ((j : Int) + 64) = (j2 : Int) := by rw [wrap64_of] <;> omega
      by_cases hlt : i < n
      · have hle : (j2 : Int) ≤ (p.length : Int) := by omega
        have hjp : j + 64 ≤ p.length := by omega
        have HJ := Aside0.mk hj
        have HJ2 := Aside0.mk hj2
        clear hj hN hPL hj2
        go_upto_region 11 with (fail)
        have hj2 := HJ2.out
        obtain ⟨hc0, hc1, hc2, hc3, hf0, hf1, hf2, hf3⟩ := bk4 HM1.out.s
        have hcut := blocks_cut ad c (N := p.length) (j := j) hj2 hjp HPC.out
        clear hj2
        refine start_ (n := 8) (S := fun w' => w'.cell? ⟨gs, 0, none⟩ = some (.int .u32 S.1) ∧ w'.cell? ⟨gs, 1, none⟩ = some (.int .u32 S.2.1) ∧ w'.cell? ⟨gs, 2, none⟩ = some (.int .u32 S.2.2.1) ∧ w'.cell? ⟨gs, 3, none⟩ = some (.int .u32 S.2.2.2)) (ds := [7]) #[false, false, false, false, false, false, false, false] (by kernel_rfl) rfl rfl ⟨hc0, hc1, hc2, hc3⟩ (fun hHeld => ?_)
        clear hc0 hc1 hc2 hc3 hf0 hf1 hf2 hf3
        have HM2 := Aside0.mk (HM1.out.keep (pD (Below.refl _ _)))
        clear HM1
        generalize wr.drew = w5 at HM2 hHeld ⊢
        refine take_ (i := 0) (N := some 29) (v := ?_) (a' := ?_) #[true, false, false, false, false, false, false, false] rfl rfl (by kernel_rfl) (fun _ _ _ h => h) (Or.inl ⟨by rfl, ?_⟩) hHeld ?_ ?_
        rotate_left
        · rintro w' ⟨c0, c1, c2, c3⟩
          go_simp
          with_reducible rfl
        rotate_left
        · simp only [Act.put, sT, s0, s1, i64_w, i32_w]
          rfl
        refine pure_ (i := 1) (N := some 30) (v := ?_) (a' := ?_) #[true, true, false, false, false, false, false, false] rfl rfl (by kernel_rfl) (fun _ _ _ h => h) (Or.inl ⟨by rfl, ?_⟩) ?_ ?_
        rotate_left
        · intro w'
          go_simp
          with_reducible rfl
        rotate_left
        · simp only [Act.put, sT, s0, s1, i64_w, i32_w]
          rfl
        refine pure_ (i := 2) (N := some 31) (v := ?_) (a' := ?_) #[true, true, true, false, false, false, false, false] rfl rfl (by kernel_rfl) (fun _ _ _ h => h) (Or.inl ⟨by rfl, ?_⟩) ?_ ?_
        rotate_left
        · intro w'
          go_simp
          with_reducible rfl
        rotate_left
        · simp only [Act.put, sT, s0, s1, i64_w, i32_w]
          rfl
        refine pure_ (i := 3) (N := some 32) (v := ?_) (a' := ?_) #[true, true, true, true, false, false, false, false] rfl rfl (by kernel_rfl) (fun _ _ _ h => h) (Or.inl ⟨by rfl, ?_⟩) ?_ ?_
        rotate_left
        · intro w'
          go_simp
          with_reducible rfl
        rotate_left
        · simp only [Act.put, sT, s0, s1, i64_w, i32_w]
          rfl
        refine pure_ (i := 4) (N := some 33) (v := ?_) (a' := ?_) #[true, true, true, true, true, false, false, false] rfl rfl (by kernel_rfl) (fun _ _ _ h => h) (Or.inl ⟨by rfl, ?_⟩) ?_ ?_
        rotate_left
        · intro w'
          go_simp
          with_reducible rfl
        rotate_left
        · simp only [Act.put, sT, s0, s1, i64_w, i32_w, e1]
          rfl
        refine pure_ (i := 5) (N := some 34) (v := ?_) (a' := ?_) #[true, true, true, true, true, true, false, false] rfl rfl (by kernel_rfl) (fun _ _ _ h => h) (Or.inl ⟨by rfl, ?_⟩) ?_ ?_
        rotate_left
        · intro w'
          go_simp
          with_reducible rfl
        rotate_left
        · simp only [Act.put, sT, s0, s1, i64_w, i32_w]
          rfl
        refine one_ (i := 6) (N := some 35) #[true, true, true, true, true, true, true, false] rfl rfl (by kernel_rfl) (by decide) (fun K hK => ?_)
        obtain ⟨⟨r1, r2, r3, r4⟩, hr4⟩ : ∃ r : T4, md5_Sum.one p S i = r := ⟨_, rfl⟩
        have hcall := md5_Block.calls 0 S.1 S.2.1 S.2.2.1 S.2.2.2 _ (c - j) ((p.take (j + 64)).drop j) r1 r2 r3 r4 w5 (blocks_C (c := c) hjp HPC.out HM2.out.p) (by rw [blocks_len hjp]; have := HPC.out; omega) (blocks_h HJ.out hjp hr4)
        rw [blocks_len hjp] at hcall
        refine goes_ Try.func14 (by kernel_rfl) rfl #[.agg #[.int .u32 S.1, .int .u32 S.2.1, .int .u32 S.2.2.1, .int .u32 S.2.2.2], .slice (if c = j then some ad else some (ad.add j)) 64 (c - j)] (by rfl) rfl rfl (by simp only [List.map_toArray, List.map_cons, List.map_nil]; rfl) ?_
        refine hcall.mono ?_
        clear hcall
        rintro e w6 ⟨rfl, hb⟩
        refine ⟨_, rfl, ?_⟩
        have HM3 := Aside0.mk (HM2.out.keep hb)
        refine hK.out _ _ ⟨(hb.cell (World.block_lt_of_cell? _ _ hHeld.1)).trans hHeld.1, (hb.cell (World.block_lt_of_cell? _ _ hHeld.2.1)).trans hHeld.2.1, (hb.cell (World.block_lt_of_cell? _ _ hHeld.2.2.1)).trans hHeld.2.2.1, (hb.cell (World.block_lt_of_cell? _ _ hHeld.2.2.2)).trans hHeld.2.2.2⟩ (fun _ => ?_)
        clear hK K hHeld HM2 hb hcut
        refine norm_ (a' := ?_) ?_ ?_
        rotate_left
        · show Act.put _ (some 35) _ = _
          simp only [Act.put, sT, s0, s1, i64_w, i32_w]
          rfl
        refine last_ (i := 7) (N := none) #[true, true, true, true, true, true, true, true] rfl rfl (by kernel_rfl) (by decide) (fun K hK => ?_)
        obtain ⟨hc0, hc1, hc2, hc3, hf0, hf1, hf2, hf3⟩ := bk4 HM3.out.s
        refine skip_ (w1 := ?_) (by rfl) rfl ?_ ?_
        rotate_left
        · go_simp
          rfl
        refine hK.out _ _ ?_
        clear hK K hc0 hc1 hc2 hc3 hf0 hf1 hf2 hf3
        have HM4 := Aside0.mk (HM3.out.put4 (r1 := r1) (r2 := r2) (r3 := r3) (r4 := r4))
        clear HM3
        refine done_ (by kernel_rfl) ?_
        go_wp2
        go_roundw
        case rel => exact ⟨i + 1, j2, by omega, by have := HJ.out; have := HJ2.out; omega, by first | go_num | (rw [e1]; rfl), by rw [blocks_st, hS, hr4]; exact HM4.out⟩
        case measure =>
          rw [e1]
          exact blocks_dec hjp HJ2.out
      · obtain rfl : i = n := by omega
        have hle : ¬ (j2 : Int) ≤ (p.length : Int) := by omega
        have HS := Aside0.mk hS
        have HN2 := Aside0.mk hN
        clear hS hi hlt hj hN hPL hj2
        have hsum := fun W hC => callsIn_wide.1 (md5_Sum.sum_in W 100 A cl l p hC HCL.out HP.out i HN2.out (by have := HPL.out; have := HN2.out; omega) (by have := HPL.out; omega))
        rw [HS.out] at hsum
        have hu := st_u32 p i (by have := HPL.out; have := HN2.out; omega)
        rw [HS.out] at hu
        have hget := outs_get S 16 (Nat.le_refl _)
        obtain ⟨y0, y1, y2, y3, y4, y5, y6, y7, y8, y9, y10, y11, y12, y13, y14, y15, hys⟩ := l16 (md5_Sum.outs_length S 16)
        rw [hys] at hsum hget
        have HSUM := Aside0.mk (show ∀ W, Kd.C (Kd.int .u8) W A l.length l → Calls Try.prog 9 #[.slice A l.length cl] W fun e w' => e = .returned (.agg #[.int .u8 y0, .int .u8 y1, .int .u8 y2, .int .u8 y3, .int .u8 y4, .int .u8 y5, .int .u8 y6, .int .u8 y7, .int .u8 y8, .int .u8 y9, .int .u8 y10, .int .u8 y11, .int .u8 y12, .int .u8 y13, .int .u8 y14, .int .u8 y15]) ∧ Below W.heap.size W w' from hsum)
        have HU := Aside0.mk hu
        have HG := Aside0.mk hget
        clear hsum hu hget hys
        go_wp2_with (first
          | (go_at_call 9; refine (HSUM.out _ (Kd.C_below HR.out HM1.out.bel)).mono ?_; rintro e w7 ⟨rfl, hb7⟩; have HM2 := Aside0.mk (HM1.out.keep hb7); clear HM1 hb7))
        have HX := Aside0.mk (show blocks_X w gs w7.heap.size S [y0, y1, y2, y3, y4, y5, y6, y7, y8, y9, y10, y11, y12, y13, y14, y15] (w7.alloc (.cells #[.int .u8 y0, .int .u8 y1, .int .u8 y2, .int .u8 y3, .int .u8 y4, .int .u8 y5, .int .u8 y6, .int .u8 y7, .int .u8 y8, .int .u8 y9, .int .u8 y10, .int .u8 y11, .int .u8 y12, .int .u8 y13, .int .u8 y14, .int .u8 y15] 26)) from ⟨pA HM2.out.bel _, blk_alloc HM2.out.s _, Nums.new (xs := [y0, y1, y2, y3, y4, y5, y6, y7, y8, y9, y10, y11, y12, y13, y14, y15]) rfl⟩)
        clear HM2
        generalize w7.alloc (.cells #[.int .u8 y0, .int .u8 y1, .int .u8 y2, .int .u8 y3, .int .u8 y4, .int .u8 y5, .int .u8 y6, .int .u8 y7, .int .u8 y8, .int .u8 y9, .int .u8 y10, .int .u8 y11, .int .u8 y12, .int .u8 y13, .int .u8 y14, .int .u8 y15] 26) = w8 at HX ⊢
        generalize w7.heap.size = gx at HX ⊢
        go_loopw [8] (fun v8 wr => ∃ i : Nat, i ≤ 4 ∧ v8 = .int .i64 i ∧ blocks_X w gs gx S [y0, y1, y2, y3, y4, y5, y6, y7, y8, y9, y10, y11, y12, y13, y14, y15] wr) (fun v8 _ => 4 - (intOf v8).toNat)
        case atStart => exact ⟨0, Nat.zero_le _, rfl, HX.out⟩
        case round =>
          obtain ⟨q, hq, rfl, hm⟩ := hrel
          have HX2 := Aside0.mk hm
          clear hm HX
          by_cases hlt : q < 4
          · have hlt' : (q : Int) < 4 := by omega
            clear hq
            obtain ⟨a0, ha0⟩ : ∃ a0, 4 * q = a0 := ⟨_, rfl⟩
            obtain ⟨a1, ha1⟩ : ∃ a1, 4 * q + 1 = a1 := ⟨_, rfl⟩
            obtain ⟨a2, ha2⟩ : ∃ a2, 4 * q + 2 = a2 := ⟨_, rfl⟩
            obtain ⟨a3, ha3⟩ : ∃ a3, 4 * q + 3 = a3 := ⟨_, rfl⟩
            have e0 : wrap64 (4 * (q : Int)) = (a0 : Int) := by rw [wrap64_of]; omega
            have e1 : wrap64 ((a0 : Int) + 1) = (a1 : Int) := by rw [wrap64_of]; omega
            have e2 : wrap64 ((a0 : Int) + 2) = (a2 : Int) := by rw [wrap64_of]; omega
            have e3 : wrap64 ((a0 : Int) + 3) = (a3 : Int) := by rw [wrap64_of]; omega
            have l0 : (a0 : Int) < 16 := by omega
            have l1 : (a1 : Int) < 16 := by omega
            have l2 : (a2 : Int) < 16 := by omega
            have l3 : (a3 : Int) < 16 := by omega
            have hd0 := HX2.out.x.at_ (i := a0) (by show a0 < 16; omega)
            have hd1 := HX2.out.x.at_ (i := a1) (by show a1 < 16; omega)
            have hd2 := HX2.out.x.at_ (i := a2) (by show a2 < 16; omega)
            have hd3 := HX2.out.x.at_ (i := a3) (by show a3 < 16; omega)
            rw [HG.out a0 (by omega)] at hd0
            rw [HG.out a1 (by omega)] at hd1
            rw [HG.out a2 (by omega)] at hd2
            rw [HG.out a3 (by omega)] at hd3
            obtain ⟨sv, hsv⟩ : ∃ sv, (md5_Sum.sl S).getD q 0 = sv := ⟨_, rfl⟩
            have hu := HU.out sv (by rw [← hsv]; exact blocks_mem S q hlt)
            have b0 : md5_Sum.byte S a0 = sv % 256 := by rw [← hsv, ← ha0]; have := blocks_byte S q 0 (by omega); simpa using this
            have b1 : md5_Sum.byte S a1 = sv / 256 % 256 := by rw [← hsv, ← ha1]; have := blocks_byte S q 1 (by omega); rw [show (2 : Int) ^ (8 * 1) = 256 by decide] at this; exact this
            have b2 : md5_Sum.byte S a2 = sv / 65536 % 256 := by rw [← hsv, ← ha2]; have := blocks_byte S q 2 (by omega); rw [show (2 : Int) ^ (8 * 2) = 65536 by decide] at this; exact this
            have b3 : md5_Sum.byte S a3 = sv / 16777216 % 256 := by rw [← hsv, ← ha3]; have := blocks_byte S q 3 (by omega); rw [show (2 : Int) ^ (8 * 3) = 16777216 by decide] at this; exact this
            rw [b0] at hd0
            rw [b1] at hd1
            rw [b2] at hd2
            rw [b3] at hd3
            obtain ⟨v0, hv0⟩ : ∃ v0, sv % 256 = v0 := ⟨_, rfl⟩
            obtain ⟨v1, hv1⟩ : ∃ v1, sv / 256 % 256 = v1 := ⟨_, rfl⟩
            obtain ⟨v2, hv2⟩ : ∃ v2, sv / 65536 % 256 = v2 := ⟨_, rfl⟩
            obtain ⟨v3, hv3⟩ : ∃ v3, sv / 16777216 % 256 = v3 := ⟨_, rfl⟩
            rw [hv0] at hd0
            rw [hv1] at hd1
            rw [hv2] at hd2
            rw [hv3] at hd3
            have HV := Aside0.mk (And.intro hu (And.intro hv0 (And.intro hv1 (And.intro hv2 hv3))))
            have HSV := Aside0.mk hsv
            clear hv0 hv1 hv2 hv3 hu b0 b1 b2 b3 ha0 ha1 ha2 ha3 hsv
            go_upto_region 16 with (fail)
            refine start_ (n := 30) (S := fun w' => w'.cell? ⟨gx, a0, none⟩ = some (.int .u8 v0) ∧ w'.cell? ⟨gx, a1, none⟩ = some (.int .u8 v1) ∧ w'.cell? ⟨gx, a2, none⟩ = some (.int .u8 v2) ∧ w'.cell? ⟨gx, a3, none⟩ = some (.int .u8 v3)) (ds := []) #[false, false, false, false, false, false, false, false, false, false, false, false, false, false, false, false, false, false, false, false, false, false, false, false, false, false, false, false, false, false] (by kernel_rfl) rfl rfl ⟨hd0, hd1, hd2, hd3⟩ (fun hHeld => ?_)
            clear hd0 hd1 hd2 hd3
            have HX3 := Aside0.mk (HX2.out.keep (pD (Below.refl _ _)))
            clear HX2
            generalize wr.drew = w8 at HX3 hHeld ⊢
            refine pure_ (i := 0) (N := some 42) (v := ?_) (a' := ?_) #[true, false, false, false, false, false, false, false, false, false, false, false, false, false, false, false, false, false, false, false, false, false, false, false, false, false, false, false, false, false] rfl rfl (by kernel_rfl) (fun _ _ _ h => h) (Or.inl ⟨by rfl, ?_⟩) ?_ ?_
            rotate_left
            · intro w'
              go_simp
              with_reducible rfl
            rotate_left
            · simp only [Act.put, sT, s0, s1, i64_w, i32_w, e0, e1, e2, e3]
              rfl
            refine pure_ (i := 1) (N := some 43) (v := ?_) (a' := ?_) #[true, true, false, false, false, false, false, false, false, false, false, false, false, false, false, false, false, false, false, false, false, false, false, false, false, false, false, false, false, false] rfl rfl (by kernel_rfl) (fun _ _ _ h => h) (Or.inl ⟨by rfl, ?_⟩) ?_ ?_
            rotate_left
            · intro w'
              go_simp
              with_reducible rfl
            rotate_left
            · simp only [Act.put, sT, s0, s1, i64_w, i32_w, e0, e1, e2, e3]
              rfl
            refine pure_ (i := 2) (N := some 44) (v := ?_) (a' := ?_) #[true, true, true, false, false, false, false, false, false, false, false, false, false, false, false, false, false, false, false, false, false, false, false, false, false, false, false, false, false, false] rfl rfl (by kernel_rfl) (fun _ _ _ h => h) (Or.inl ⟨by rfl, ?_⟩) ?_ ?_
            rotate_left
            · intro w'
              go_simp
              with_reducible rfl
            rotate_left
            · simp only [Act.put, sT, s0, s1, i64_w, i32_w, e0, e1, e2, e3]
              rfl
            refine take_ (i := 3) (N := some 45) (v := ?_) (a' := ?_) #[true, true, true, true, false, false, false, false, false, false, false, false, false, false, false, false, false, false, false, false, false, false, false, false, false, false, false, false, false, false] rfl rfl (by kernel_rfl) (fun _ _ _ h => h) (Or.inl ⟨by rfl, ?_⟩) hHeld ?_ ?_
            rotate_left
            · rintro w' ⟨c0, c1, c2, c3⟩
              go_simp
              with_reducible rfl
            rotate_left
            · simp only [Act.put, sT, s0, s1, i64_w, i32_w]
              rfl
            refine pure_ (i := 4) (N := some 46) (v := ?_) (a' := ?_) #[true, true, true, true, true, false, false, false, false, false, false, false, false, false, false, false, false, false, false, false, false, false, false, false, false, false, false, false, false, false] rfl rfl (by kernel_rfl) (fun _ _ _ h => h) (Or.inl ⟨by rfl, ?_⟩) ?_ ?_
            rotate_left
            · intro w'
              go_simp
              with_reducible rfl
            rotate_left
            · simp only [Act.put, sT, s0, s1, i64_w, i32_w, e0, e1, e2, e3]
              rfl
            refine pure_ (i := 5) (N := some 47) (v := ?_) (a' := ?_) #[true, true, true, true, true, true, false, false, false, false, false, false, false, false, false, false, false, false, false, false, false, false, false, false, false, false, false, false, false, false] rfl rfl (by kernel_rfl) (fun _ _ _ h => h) (Or.inl ⟨by rfl, ?_⟩) ?_ ?_
            rotate_left
            · intro w'
              go_simp
              with_reducible rfl
            rotate_left
            · simp only [Act.put, sT, s0, s1, i64_w, i32_w, e0, e1, e2, e3]
              rfl
            refine pure_ (i := 6) (N := some 48) (v := ?_) (a' := ?_) #[true, true, true, true, true, true, true, false, false, false, false, false, false, false, false, false, false, false, false, false, false, false, false, false, false, false, false, false, false, false] rfl rfl (by kernel_rfl) (fun _ _ _ h => h) (Or.inl ⟨by rfl, ?_⟩) ?_ ?_
            rotate_left
            · intro w'
              go_simp
              with_reducible rfl
            rotate_left
            · simp only [Act.put, sT, s0, s1, i64_w, i32_w, e0, e1, e2, e3]
              rfl
            refine pure_ (i := 7) (N := some 49) (v := ?_) (a' := ?_) #[true, true, true, true, true, true, true, true, false, false, false, false, false, false, false, false, false, false, false, false, false, false, false, false, false, false, false, false, false, false] rfl rfl (by kernel_rfl) (fun _ _ _ h => h) (Or.inl ⟨by rfl, ?_⟩) ?_ ?_
            rotate_left
            · intro w'
              go_simp
              with_reducible rfl
            rotate_left
            · simp only [Act.put, sT, s0, s1, i64_w, i32_w, e0, e1, e2, e3]
              rfl
            refine pure_ (i := 8) (N := some 50) (v := ?_) (a' := ?_) #[true, true, true, true, true, true, true, true, true, false, false, false, false, false, false, false, false, false, false, false, false, false, false, false, false, false, false, false, false, false] rfl rfl (by kernel_rfl) (fun _ _ _ h => h) (Or.inl ⟨by rfl, ?_⟩) ?_ ?_
            rotate_left
            · intro w'
              go_simp
              with_reducible rfl
            rotate_left
            · simp only [Act.put, sT, s0, s1, i64_w, i32_w, e0, e1, e2, e3]
              rfl
            refine take_ (i := 9) (N := some 51) (v := ?_) (a' := ?_) #[true, true, true, true, true, true, true, true, true, true, false, false, false, false, false, false, false, false, false, false, false, false, false, false, false, false, false, false, false, false] rfl rfl (by kernel_rfl) (fun _ _ _ h => h) (Or.inl ⟨by rfl, ?_⟩) hHeld ?_ ?_
            rotate_left
            · rintro w' ⟨c0, c1, c2, c3⟩
              go_simp
              with_reducible rfl
            rotate_left
            · simp only [Act.put, sT, s0, s1, i64_w, i32_w]
              rfl
            refine pure_ (i := 10) (N := some 52) (v := ?_) (a' := ?_) #[true, true, true, true, true, true, true, true, true, true, true, false, false, false, false, false, false, false, false, false, false, false, false, false, false, false, false, false, false, false] rfl rfl (by kernel_rfl) (fun _ _ _ h => h) (Or.inl ⟨by rfl, ?_⟩) ?_ ?_
            rotate_left
            · intro w'
              go_simp
              with_reducible rfl
            rotate_left
            · simp only [Act.put, sT, s0, s1, i64_w, i32_w, e0, e1, e2, e3]
              rfl
            refine pure_ (i := 11) (N := some 53) (v := ?_) (a' := ?_) #[true, true, true, true, true, true, true, true, true, true, true, true, false, false, false, false, false, false, false, false, false, false, false, false, false, false, false, false, false, false] rfl rfl (by kernel_rfl) (fun _ _ _ h => h) (Or.inl ⟨by rfl, ?_⟩) ?_ ?_
            rotate_left
            · intro w'
              go_simp
              with_reducible rfl
            rotate_left
            · simp only [Act.put, sT, s0, s1, i64_w, i32_w, e0, e1, e2, e3]
              rfl
            refine pure_ (i := 12) (N := some 54) (v := ?_) (a' := ?_) #[true, true, true, true, true, true, true, true, true, true, true, true, true, false, false, false, false, false, false, false, false, false, false, false, false, false, false, false, false, false] rfl rfl (by kernel_rfl) (fun _ _ _ h => h) (Or.inl ⟨by rfl, ?_⟩) ?_ ?_
            rotate_left
            · intro w'
              go_simp
              with_reducible rfl
            rotate_left
            · simp only [Act.put, sT, s0, s1, i64_w, i32_w, e0, e1, e2, e3]
              rfl
            refine pure_ (i := 13) (N := some 55) (v := ?_) (a' := ?_) #[true, true, true, true, true, true, true, true, true, true, true, true, true, true, false, false, false, false, false, false, false, false, false, false, false, false, false, false, false, false] rfl rfl (by kernel_rfl) (fun _ _ _ h => h) (Or.inl ⟨by rfl, ?_⟩) ?_ ?_
            rotate_left
            · intro w'
              go_simp
              with_reducible rfl
            rotate_left
            · simp only [Act.put, sT, s0, s1, i64_w, i32_w, e0, e1, e2, e3]
              rfl
            refine pure_ (i := 14) (N := some 56) (v := ?_) (a' := ?_) #[true, true, true, true, true, true, true, true, true, true, true, true, true, true, true, false, false, false, false, false, false, false, false, false, false, false, false, false, false, false] rfl rfl (by kernel_rfl) (fun _ _ _ h => h) (Or.inl ⟨by rfl, ?_⟩) ?_ ?_
            rotate_left
            · intro w'
              go_simp
              with_reducible rfl
            rotate_left
            · simp only [Act.put, sT, s0, s1, i64_w, i32_w, e0, e1, e2, e3]
              rfl
            refine pure_ (i := 15) (N := some 57) (v := ?_) (a' := ?_) #[true, true, true, true, true, true, true, true, true, true, true, true, true, true, true, true, false, false, false, false, false, false, false, false, false, false, false, false, false, false] rfl rfl (by kernel_rfl) (fun _ _ _ h => h) (Or.inl ⟨by rfl, ?_⟩) ?_ ?_
            rotate_left
            · intro w'
              go_simp
              with_reducible rfl
            rotate_left
            · simp only [Act.put, sT, s0, s1, i64_w, i32_w, e0, e1, e2, e3]
              rfl
            refine pure_ (i := 16) (N := some 58) (v := ?_) (a' := ?_) #[true, true, true, true, true, true, true, true, true, true, true, true, true, true, true, true, true, false, false, false, false, false, false, false, false, false, false, false, false, false] rfl rfl (by kernel_rfl) (fun _ _ _ h => h) (Or.inl ⟨by rfl, ?_⟩) ?_ ?_
            rotate_left
            · intro w'
              go_simp
              with_reducible rfl
            rotate_left
            · simp only [Act.put, sT, s0, s1, i64_w, i32_w, e0, e1, e2, e3]
              rfl
            refine take_ (i := 17) (N := some 59) (v := ?_) (a' := ?_) #[true, true, true, true, true, true, true, true, true, true, true, true, true, true, true, true, true, true, false, false, false, false, false, false, false, false, false, false, false, false] rfl rfl (by kernel_rfl) (fun _ _ _ h => h) (Or.inl ⟨by rfl, ?_⟩) hHeld ?_ ?_
            rotate_left
            · rintro w' ⟨c0, c1, c2, c3⟩
              go_simp
              with_reducible rfl
            rotate_left
            · simp only [Act.put, sT, s0, s1, i64_w, i32_w]
              rfl
            refine pure_ (i := 18) (N := some 60) (v := ?_) (a' := ?_) #[true, true, true, true, true, true, true, true, true, true, true, true, true, true, true, true, true, true, true, false, false, false, false, false, false, false, false, false, false, false] rfl rfl (by kernel_rfl) (fun _ _ _ h => h) (Or.inl ⟨by rfl, ?_⟩) ?_ ?_
            rotate_left
            · intro w'
              go_simp
              with_reducible rfl
            rotate_left
            · simp only [Act.put, sT, s0, s1, i64_w, i32_w, e0, e1, e2, e3]
              rfl
            refine pure_ (i := 19) (N := some 61) (v := ?_) (a' := ?_) #[true, true, true, true, true, true, true, true, true, true, true, true, true, true, true, true, true, true, true, true, false, false, false, false, false, false, false, false, false, false] rfl rfl (by kernel_rfl) (fun _ _ _ h => h) (Or.inl ⟨by rfl, ?_⟩) ?_ ?_
            rotate_left
            · intro w'
              go_simp
              with_reducible rfl
            rotate_left
            · simp only [Act.put, sT, s0, s1, i64_w, i32_w, e0, e1, e2, e3]
              rfl
            refine pure_ (i := 20) (N := some 62) (v := ?_) (a' := ?_) #[true, true, true, true, true, true, true, true, true, true, true, true, true, true, true, true, true, true, true, true, true, false, false, false, false, false, false, false, false, false] rfl rfl (by kernel_rfl) (fun _ _ _ h => h) (Or.inl ⟨by rfl, ?_⟩) ?_ ?_
            rotate_left
            · intro w'
              go_simp
              with_reducible rfl
            rotate_left
            · simp only [Act.put, sT, s0, s1, i64_w, i32_w, e0, e1, e2, e3]
              rfl
            refine pure_ (i := 21) (N := some 63) (v := ?_) (a' := ?_) #[true, true, true, true, true, true, true, true, true, true, true, true, true, true, true, true, true, true, true, true, true, true, false, false, false, false, false, false, false, false] rfl rfl (by kernel_rfl) (fun _ _ _ h => h) (Or.inl ⟨by rfl, ?_⟩) ?_ ?_
            rotate_left
            · intro w'
              go_simp
              with_reducible rfl
            rotate_left
            · simp only [Act.put, sT, s0, s1, i64_w, i32_w, e0, e1, e2, e3]
              rfl
            refine pure_ (i := 22) (N := some 64) (v := ?_) (a' := ?_) #[true, true, true, true, true, true, true, true, true, true, true, true, true, true, true, true, true, true, true, true, true, true, true, false, false, false, false, false, false, false] rfl rfl (by kernel_rfl) (fun _ _ _ h => h) (Or.inl ⟨by rfl, ?_⟩) ?_ ?_
            rotate_left
            · intro w'
              go_simp
              with_reducible rfl
            rotate_left
            · simp only [Act.put, sT, s0, s1, i64_w, i32_w, e0, e1, e2, e3]
              rfl
            refine pure_ (i := 23) (N := some 65) (v := ?_) (a' := ?_) #[true, true, true, true, true, true, true, true, true, true, true, true, true, true, true, true, true, true, true, true, true, true, true, true, false, false, false, false, false, false] rfl rfl (by kernel_rfl) (fun _ _ _ h => h) (Or.inl ⟨by rfl, ?_⟩) ?_ ?_
            rotate_left
            · intro w'
              go_simp
              with_reducible rfl
            rotate_left
            · simp only [Act.put, sT, s0, s1, i64_w, i32_w, e0, e1, e2, e3]
              rfl
            refine pure_ (i := 24) (N := some 66) (v := ?_) (a' := ?_) #[true, true, true, true, true, true, true, true, true, true, true, true, true, true, true, true, true, true, true, true, true, true, true, true, true, false, false, false, false, false] rfl rfl (by kernel_rfl) (fun _ _ _ h => h) (Or.inl ⟨by rfl, ?_⟩) ?_ ?_
            rotate_left
            · intro w'
              go_simp
              with_reducible rfl
            rotate_left
            · simp only [Act.put, sT, s0, s1, i64_w, i32_w, e0, e1, e2, e3]
              rfl
            refine take_ (i := 25) (N := some 67) (v := ?_) (a' := ?_) #[true, true, true, true, true, true, true, true, true, true, true, true, true, true, true, true, true, true, true, true, true, true, true, true, true, true, false, false, false, false] rfl rfl (by kernel_rfl) (fun _ _ _ h => h) (Or.inl ⟨by rfl, ?_⟩) hHeld ?_ ?_
            rotate_left
            · rintro w' ⟨c0, c1, c2, c3⟩
              go_simp
              with_reducible rfl
            rotate_left
            · simp only [Act.put, sT, s0, s1, i64_w, i32_w]
              rfl
            refine pure_ (i := 26) (N := some 68) (v := ?_) (a' := ?_) #[true, true, true, true, true, true, true, true, true, true, true, true, true, true, true, true, true, true, true, true, true, true, true, true, true, true, true, false, false, false] rfl rfl (by kernel_rfl) (fun _ _ _ h => h) (Or.inl ⟨by rfl, ?_⟩) ?_ ?_
            rotate_left
            · intro w'
              go_simp
              with_reducible rfl
            rotate_left
            · simp only [Act.put, sT, s0, s1, i64_w, i32_w, e0, e1, e2, e3]
              rfl
            refine pure_ (i := 27) (N := some 69) (v := ?_) (a' := ?_) #[true, true, true, true, true, true, true, true, true, true, true, true, true, true, true, true, true, true, true, true, true, true, true, true, true, true, true, true, false, false] rfl rfl (by kernel_rfl) (fun _ _ _ h => h) (Or.inl ⟨by rfl, ?_⟩) ?_ ?_
            rotate_left
            · intro w'
              go_simp
              with_reducible rfl
            rotate_left
            · simp only [Act.put, sT, s0, s1, i64_w, i32_w, e0, e1, e2, e3]
              rfl
            refine pure_ (i := 28) (N := some 70) (v := ?_) (a' := ?_) #[true, true, true, true, true, true, true, true, true, true, true, true, true, true, true, true, true, true, true, true, true, true, true, true, true, true, true, true, true, false] rfl rfl (by kernel_rfl) (fun _ _ _ h => h) (Or.inl ⟨by rfl, ?_⟩) ?_ ?_
            rotate_left
            · intro w'
              go_simp
              with_reducible rfl
            rotate_left
            · simp only [Act.put, sT, s0, s1, i64_w, i32_w, e0, e1, e2, e3]
              rfl
            refine pure_ (i := 29) (N := some 9) (v := ?_) (a' := ?_) #[true, true, true, true, true, true, true, true, true, true, true, true, true, true, true, true, true, true, true, true, true, true, true, true, true, true, true, true, true, true] rfl rfl (by kernel_rfl) (fun _ _ _ h => h) (Or.inl ⟨by rfl, ?_⟩) ?_ ?_
            rotate_left
            · intro w'
              go_simp
              with_reducible rfl
            rotate_left
            · simp only [Act.put, sT, s0, s1, i64_w, i32_w]
              rfl
            refine done_ (by kernel_rfl) ?_
            clear hHeld
            obtain ⟨⟨hu1, hu2⟩, hv0, hv1, hv2, hv3⟩ := HV.out
            have hsum : IntKind.u32.wrap (IntKind.u32.wrap (IntKind.u32.wrap (IntKind.u32.wrap v0 + IntKind.u32.wrap (256 * IntKind.u32.wrap v1)) + IntKind.u32.wrap (65536 * IntKind.u32.wrap v2)) + IntKind.u32.wrap (16777216 * IntKind.u32.wrap v3)) = sv := by
              simp only [Go.Proofs.YtadgdhefgibakaaK.wu32]
              omega
            rw [hsum]
            clear hsum hu1 hu2 hv0 hv1 hv2 hv3 HV e0 e1 e2 e3 l0 l1 l2 l3
            have hcs := HX3.out.s.at_ (i := q) (by show q < 4; exact hlt)
            rw [show ([S.1, S.2.1, S.2.2.1, S.2.2.2] : List Int).getD q 0 = sv from HSV.out] at hcs
            have hbe : (sv == sv) = true := beq_self_eq_true sv
            go_wp2
            go_roundw
            case rel => exact ⟨q + 1, hlt, by go_num, HX3.out⟩
            case measure => simp [intOf]; omega
          · obtain rfl : q = 4 := by omega
            clear hq hlt
            go_wp2
            go_ret
            exact ⟨rfl, HX2.out.bel⟩
end Go.Proofs.Ytadgdhefgibakaa.Q
