-- written by this session's own program (wip/tools/myprint.py), over the kit's print
import Derived.Test.YtpbkdphilcodmaaQx0
import Derived.Test.YtpbkdphilcodmaaQx11
import Derived.Test.YtpbkdphilcodmaaQx12
import Derived.Test.YtpbkdphilcodmaaNm
namespace Go.Proofs.Ytpbkdphilcodmaa.Q
open Go.RowKit Go.Proofs.YtpbkdphilcodmaaW.PrintWords Go.Proofs.YtpbkdphilcodmaaW.PrintLast Go.Proofs.YtpbkdphilcodmaaW.PrintMore
open Go.Proofs.YtpbkdphilcodmaaV
attribute [local go_sem] max2_int min2_int max_two min_two max_three min_three max_four min_four   -- for this text's walks alone
set_option linter.unusedVariables false
set_option linter.unusedSimpArgs false

/-! ref02.Sum: the blocks of what is padded, one behind the other; then sixteen bytes. -/
abbrev T4r := Int × Int × Int × Int
theorem portreeveref02_Sum.cut (ad : Addr) (c : Nat) {N j j2 : Nat} (h2 : j + 64 = j2) (hN : j + 64 ≤ N) (hc : N ≤ c) (W : World) : (Instr.slice 26 (.slice (some ad) N c) (some (.int .i64 (j : Int))) (some (.int .i64 (j2 : Int))) none).run Try.prog W = .ok (.slice (if c = j then some ad else some (ad.add j)) 64 (c - j)) W := by
  subst h2
  obtain ⟨i04, hi04, _, hsz4, _⟩ := info_parts info5
  have := cut_mid (P := Try.prog) 26 5 .i64 .i64 Try.underlying26 hi04 1 hsz4 (some ad) N c (j : Int) ((j + 64 : Nat) : Int) (by omega) (by omega) (by omega) hc W
  rw [this, Int.toNat_natCast, Int.toNat_natCast, show j + 64 - j = 64 by omega, Nat.mul_one]
  rfl
theorem portreeveref02_Sum.clen {p : List Int} {j : Nat} (h : j + 64 ≤ p.length) : ((p.take (j + 64)).drop j).length = 64 := by
  rw [List.length_drop, List.length_take]; omega
theorem portreeveref02_Sum.cC {W : World} {ad : Addr} {p : List Int} {j c : Nat} (h : j + 64 ≤ p.length) (hc : p.length ≤ c) (hC : Kd.C (Kd.int .u8) W (some ad) p.length p) : Kd.C (Kd.int .u8) W (if c = j then some ad else some (ad.add j)) ((p.take (j + 64)).drop j).length ((p.take (j + 64)).drop j) := by
  have := C_cut (c := c) (lo := j) (hi := j + 64) hC (by omega) h hc
  rw [show j + 64 - j = 64 by omega] at this
  rw [portreeveref02_Sum.clen h]
  have this2 : Kd.C (Kd.int .u8) W (if c = j then some ad else some (ad.add (j * 1))) 64 ((p.take (j + 64)).drop j) := this
  rwa [Nat.mul_one] at this2
theorem portreeveref02_Sum.dec {N j j2 : Nat} (h1 : j + 64 ≤ N) (h2 : j + 64 = j2) : N - ((j2 : Nat) : Int).toNat < N - ((j : Nat) : Int).toNat := by
  rw [Int.toNat_natCast, Int.toNat_natCast]
  omega
def portreeveref02_Sum.st (k : Nat) (p : List Int) : Nat → Option T4r
  | 0 => some (1732584193, 4023233417, 2562383102, 271733878)
  | i + 1 => (portreeveref02_Sum.st k p i).bind fun s => portreeveref02_Block.f k s.1 s.2.1 s.2.2.1 s.2.2.2 ((p.take (64 * i + 64)).drop (64 * i))
theorem portreeveref02_Sum.st_some {k : Nat} {p : List Int} : ∀ {n : Nat} {s : T4r}, portreeveref02_Sum.st k p n = some s → ∀ {i : Nat}, i ≤ n → ∃ s', portreeveref02_Sum.st k p i = some s'
  | 0, s, h, i, hi => by
    obtain rfl : i = 0 := by omega
    exact ⟨s, h⟩
  | n + 1, s, h, i, hi => by
    by_cases he : i = n + 1
    · subst he
      exact ⟨s, h⟩
    · rw [portreeveref02_Sum.st] at h
      obtain ⟨s', h', _⟩ := Option.bind_eq_some_iff.1 h
      exact portreeveref02_Sum.st_some h' (by omega)
theorem portreeveref02_Sum.step {k : Nat} {p : List Int} {S r : T4r} {i j : Nat} (hj : j = 64 * i) (hs : portreeveref02_Sum.st k p i = some S) (hr : portreeveref02_Sum.st k p (i + 1) = some r) : portreeveref02_Block.f k S.1 S.2.1 S.2.2.1 S.2.2.2 ((p.take (j + 64)).drop j) = some r := by
  subst hj
  rw [portreeveref02_Sum.st, hs] at hr
  exact hr
structure portreeveref02_Sum.M (w : World) (ad : Addr) (p : List Int) (S : T4r) (W : World) : Prop where
  bel : Below w.heap.size w W
  z : Nums W w.heap.size 22 .u8 (List.replicate 16 0)
  s : Nums W (w.heap.size + 1) 64 .u32 [S.1, S.2.1, S.2.2.1, S.2.2.2]
  p : Kd.C (Kd.int .u8) W (some ad) p.length p
  ne : w.heap.size + 1 < ad.block
theorem portreeveref02_Sum.M.keep {w W W' : World} {ad : Addr} {p : List Int} {S : T4r} (h : portreeveref02_Sum.M w ad p S W) (hb : Below W.heap.size W W') : portreeveref02_Sum.M w ad p S W' := ⟨below_step h.bel hb, h.z.keep hb, h.s.keep hb, Kd.C_below h.p hb, h.ne⟩
theorem portreeveref02_Sum.M.put {w W : World} {i : Nat} {ad : Addr} {p : List Int} {S S' : T4r} {v : Int} (h : portreeveref02_Sum.M w ad p S W) (hi : i < 4) (hS : [S.1, S.2.1, S.2.2.1, S.2.2.2].set i v = [S'.1, S'.2.1, S'.2.2.1, S'.2.2.2]) : portreeveref02_Sum.M w ad p S' (W.setCell ⟨w.heap.size + 1, i, none⟩ (.int .u32 v)) :=
  ⟨below_set h.bel (by show w.heap.size ≤ w.heap.size + 1; omega), h.z.far (by omega), by have := h.s.set (v := v) hi; rw [hS] at this; exact this, Kd.C_keep 0 h.p ⟨by simp, fun k _ hne _ => Below.heap_setCell W ⟨w.heap.size + 1, i, none⟩ _ k hne⟩ (fun ad' e _ => by cases e; have := h.ne; show ad.block ≠ w.heap.size + 1; omega), h.ne⟩
theorem portreeveref02_Sum.M.put4 {w W : World} {ad : Addr} {p : List Int} {S : T4r} {r1 r2 r3 r4 : Int} (h : portreeveref02_Sum.M w ad p S W) : portreeveref02_Sum.M w ad p (r1, r2, r3, r4) ((((W.setCell ⟨w.heap.size + 1, 0, none⟩ (.int .u32 r1)).setCell ⟨w.heap.size + 1, 1, none⟩ (.int .u32 r2)).setCell ⟨w.heap.size + 1, 2, none⟩ (.int .u32 r3)).setCell ⟨w.heap.size + 1, 3, none⟩ (.int .u32 r4)) := by
  obtain ⟨a, b, c, d⟩ := S
  exact (((h.put (S' := (r1, b, c, d)) (by omega) rfl).put (S' := (r1, r2, c, d)) (by omega) rfl).put (S' := (r1, r2, r3, d)) (by omega) rfl).put (S' := (r1, r2, r3, r4)) (by omega) rfl
def portreeveref02_Sum.dv (n : Int) : Nat → Int
  | 0 => n
  | j + 1 => IntKind.u32.wrap ((portreeveref02_Sum.dv n j).tdiv 256)
def portreeveref02_Sum.byte (S : T4r) (i : Nat) : Int := IntKind.u8.wrap ((portreeveref02_Sum.dv ([S.1, S.2.1, S.2.2.1, S.2.2.2].getD (i / 4) 0) (i % 4)).tmod 256)
def portreeveref02_Sum.outs (S : T4r) : Nat → List Int
  | 0 => List.replicate 16 0
  | i + 1 => (portreeveref02_Sum.outs S i).set i (portreeveref02_Sum.byte S i)
theorem portreeveref02_Sum.outs_length (S : T4r) : ∀ i, (portreeveref02_Sum.outs S i).length = 16
  | 0 => rfl
  | i + 1 => by rw [portreeveref02_Sum.outs, List.length_set, portreeveref02_Sum.outs_length S i]
structure portreeveref02_Sum.X (w : World) (go : Nat) (S : T4r) (os : List Int) (W : World) : Prop where
  bel : Below w.heap.size w W
  z : Nums W w.heap.size 22 .u8 (List.replicate 16 0)
  s : Nums W (w.heap.size + 1) 64 .u32 [S.1, S.2.1, S.2.2.1, S.2.2.2]
  o : Nums W go 22 .u8 os
  lo : w.heap.size + 1 < go
theorem portreeveref02_Sum.X.put {w W : World} {go i : Nat} {S : T4r} {os : List Int} {v : Int} (h : portreeveref02_Sum.X w go S os W) (hi : i < os.length) : portreeveref02_Sum.X w go S (os.set i v) (W.setCell ⟨go, i, none⟩ (.int .u8 v)) := by
  have h2 := h.lo
  exact ⟨below_set h.bel (by omega), h.z.far (by omega), h.s.far (by omega), h.o.set hi, h2⟩
set_option maxHeartbeats 8000000 in
set_option maxRecDepth 100000 in
theorem portreeveref02_Sum.walk (k : Nat) (A0 : Option Addr) (c0 : Nat) (l0 p : List Int) (w : World) (hr0 : Kd.C (Kd.int .u8) w A0 l0.length l0) (hc0 : l0.length ≤ c0) (hp : portreeveref02_Pad.f k l0 = some p) (n : Nat) (hn : p.length = 64 * n) (hn0 : 0 < n) (hmaxp : p.length ≤ 140737488355328) (SF : T4r) (hst : portreeveref02_Sum.st k p n = some SF) :
    Calls Try.prog 29 #[.slice A0 l0.length c0] w fun e w' => e = .returned (.agg ((portreeveref02_Sum.outs SF 16).map (Value.int .u8)).toArray) ∧ Below w.heap.size w w' := by
  have HR := Aside0.mk hr0
  have HC0 := Aside0.mk hc0
  have HP := Aside0.mk hp
  have HN := Aside0.mk (And.intro hn (And.intro hn0 hmaxp))
  have HST := Aside0.mk hst
  clear hr0 hc0 hp hn hn0 hmaxp hst
  go_enter Try.func29, Try.ntmps29
  go_wp2_with (first
    | (go_at_call 34; refine (portreeveref02_Pad.calls k A0 c0 l0 p _ (Kd.C_below HR.out (pA (pA (Below.refl _ _) _) _)) HC0.out HP.out).mono ?_; rintro e w1 ⟨v1, rfl, hr1, hb1⟩; obtain ⟨A2, c, rfl⟩ := Kd.R_slice hr1; obtain ⟨ad, rfl, _⟩ := (Kd.R_reads' hr1).2.2.2.2 (by have := HN.out; omega); have HPC := Aside0.mk (Kd.R_reads' hr1).2.1; have HC2 := Aside0.mk (Kd.R_reads' hr1).2.2; have HB := Aside0.mk (Kd.R_base hr1 ad.block (by simp [Value.ownBlock])); have HM := Aside0.mk (show portreeveref02_Sum.M w ad p (1732584193, 4023233417, 2562383102, 271733878) w1 from ⟨below_step (pA (pA (Below.refl _ _) _) _) hb1, Nums.keep (blk_alloc (Nums.new (xs := List.replicate 16 0) rfl) _) hb1, Nums.keep (Nums.new (xs := [1732584193, 4023233417, 2562383102, 271733878]) (bsize _ _)) hb1, HC2.out, by have := HB.out; rw [bsize, bsize] at this; omega⟩); clear hr1 hb1 HC2 HB))
  go_loopw [5] (fun v5 wr => ∃ (i j : Nat) (S : T4r), i ≤ n ∧ j = 64 * i ∧ v5 = .int .i64 j ∧ portreeveref02_Sum.st k p i = some S ∧ portreeveref02_Sum.M w ad p S wr) (fun v5 _ => p.length - (intOf v5).toNat)
  case atStart => exact ⟨0, 0, (1732584193, 4023233417, 2562383102, 271733878), Nat.zero_le _, rfl, rfl, rfl, HM.out⟩
  case round =>
    obtain ⟨i, j, S, hi, hj, rfl, hS, hm⟩ := hrel
    have hSt := Aside0.mk hS
    have HM1 := Aside0.mk hm
    clear hm HM hS
    obtain ⟨hN, hN0, hmax⟩ := HN.out
    obtain ⟨j2, hj2⟩ : ∃ j2, j + 64 = j2 := ⟨_, rfl⟩
    by_cases hlt : i < n
    · have e1 : wrap64 ((j : Int) + 64) = (j2 : Int) := by rw [wrap64_of] <;> omega
      have hle : (j : Int) < (p.length : Int) := by omega
      have hjp : j + 64 ≤ p.length := by omega
      have HJ := Aside0.mk hj
      have HJ2 := Aside0.mk hj2
      clear hj hN hj2 hmax hN0
      go_upto_region 6 with (fail)
      have hj2 := HJ2.out
      obtain ⟨hc0, hc1, hc2, hc3, hf0, hf1, hf2, hf3⟩ := bk4 HM1.out.s
      have hcut := portreeveref02_Sum.cut ad c (N := p.length) (j := j) hj2 hjp HPC.out
      clear hj2
      refine start_ (n := 8) (S := fun w' => w'.cell? ⟨w.heap.size + 1, 0, none⟩ = some (.int .u32 S.1) ∧ w'.cell? ⟨w.heap.size + 1, 1, none⟩ = some (.int .u32 S.2.1) ∧ w'.cell? ⟨w.heap.size + 1, 2, none⟩ = some (.int .u32 S.2.2.1) ∧ w'.cell? ⟨w.heap.size + 1, 3, none⟩ = some (.int .u32 S.2.2.2)) (ds := [7]) #[false, false, false, false, false, false, false, false] (by kernel_rfl) rfl rfl ⟨hc0, hc1, hc2, hc3⟩ (fun hHeld => ?_)
      clear hc0 hc1 hc2 hc3 hf0 hf1 hf2 hf3
      have HM2 := Aside0.mk (HM1.out.keep (pD (Below.refl _ _)))
      clear HM1
      generalize wr.drew = w5 at HM2 hHeld ⊢
      refine take_ (i := 0) (N := some 19) (v := ?_) (a' := ?_) #[true, false, false, false, false, false, false, false] rfl rfl (by kernel_rfl) (fun _ _ _ h => h) (Or.inl ⟨by rfl, ?_⟩) hHeld ?_ ?_
      rotate_left
      · rintro w' ⟨c0, c1, c2, c3⟩
        go_simp
        with_reducible rfl
      rotate_left
      · simp only [Act.put, sT, s0, s1, i64_w, i32_w]
        rfl
      refine pure_ (i := 1) (N := some 20) (v := ?_) (a' := ?_) #[true, true, false, false, false, false, false, false] rfl rfl (by kernel_rfl) (fun _ _ _ h => h) (Or.inl ⟨by rfl, ?_⟩) ?_ ?_
      rotate_left
      · intro w'
        go_simp
        with_reducible rfl
      rotate_left
      · simp only [Act.put, sT, s0, s1, i64_w, i32_w]
        rfl
      refine pure_ (i := 2) (N := some 21) (v := ?_) (a' := ?_) #[true, true, true, false, false, false, false, false] rfl rfl (by kernel_rfl) (fun _ _ _ h => h) (Or.inl ⟨by rfl, ?_⟩) ?_ ?_
      rotate_left
      · intro w'
        go_simp
        with_reducible rfl
      rotate_left
      · simp only [Act.put, sT, s0, s1, i64_w, i32_w]
        rfl
      refine pure_ (i := 3) (N := some 22) (v := ?_) (a' := ?_) #[true, true, true, true, false, false, false, false] rfl rfl (by kernel_rfl) (fun _ _ _ h => h) (Or.inl ⟨by rfl, ?_⟩) ?_ ?_
      rotate_left
      · intro w'
        go_simp
        with_reducible rfl
      rotate_left
      · simp only [Act.put, sT, s0, s1, i64_w, i32_w]
        rfl
      refine pure_ (i := 4) (N := some 23) (v := ?_) (a' := ?_) #[true, true, true, true, true, false, false, false] rfl rfl (by kernel_rfl) (fun _ _ _ h => h) (Or.inl ⟨by rfl, ?_⟩) ?_ ?_
      rotate_left
      · intro w'
        go_simp
        with_reducible rfl
      rotate_left
      · simp only [Act.put, sT, s0, s1, i64_w, i32_w, e1]
        rfl
      refine pure_ (i := 5) (N := some 24) (v := ?_) (a' := ?_) #[true, true, true, true, true, true, false, false] rfl rfl (by kernel_rfl) (fun _ _ _ h => h) (Or.inl ⟨by rfl, ?_⟩) ?_ ?_
      rotate_left
      · intro w'
        go_simp
        with_reducible rfl
      rotate_left
      · simp only [Act.put, sT, s0, s1, i64_w, i32_w]
        rfl
      refine one_ (i := 6) (N := some 25) #[true, true, true, true, true, true, true, false] rfl rfl (by kernel_rfl) (by decide) (fun K hK => ?_)
      obtain ⟨⟨r1, r2, r3, r4⟩, hr4⟩ := portreeveref02_Sum.st_some HST.out (i := i + 1) (by omega)
      have hcall := portreeveref02_Block.calls k S.1 S.2.1 S.2.2.1 S.2.2.2 _ (c - j) ((p.take (j + 64)).drop j) r1 r2 r3 r4 w5 (portreeveref02_Sum.cC (c := c) hjp HPC.out HM2.out.p) (by rw [portreeveref02_Sum.clen hjp]; have := HPC.out; omega) (portreeveref02_Sum.step HJ.out hSt.out hr4)
      rw [portreeveref02_Sum.clen hjp] at hcall
      refine goes_ Try.func35 (by kernel_rfl) rfl #[.agg #[.int .u32 S.1, .int .u32 S.2.1, .int .u32 S.2.2.1, .int .u32 S.2.2.2], .slice (if c = j then some ad else some (ad.add j)) 64 (c - j)] (by rfl) rfl rfl (by simp only [List.map_toArray, List.map_cons, List.map_nil]; rfl) ?_
      refine hcall.mono ?_
      clear hcall
      rintro e w6 ⟨rfl, hb⟩
      refine ⟨_, rfl, ?_⟩
      have HM3 := Aside0.mk (HM2.out.keep hb)
      refine hK.out _ _ ⟨(hb.cell (World.block_lt_of_cell? _ _ hHeld.1)).trans hHeld.1, (hb.cell (World.block_lt_of_cell? _ _ hHeld.2.1)).trans hHeld.2.1, (hb.cell (World.block_lt_of_cell? _ _ hHeld.2.2.1)).trans hHeld.2.2.1, (hb.cell (World.block_lt_of_cell? _ _ hHeld.2.2.2)).trans hHeld.2.2.2⟩ (fun _ => ?_)
      clear hK K hHeld HM2 hb hcut
      refine norm_ (a' := ?_) ?_ ?_
      rotate_left
      · show Act.put _ (some 25) _ = _
        simp only [Act.put, sT, s0, s1, i64_w, i32_w]
        rfl
      refine last_ (i := 7) (N := none) #[true, true, true, true, true, true, true, true] rfl rfl (by kernel_rfl) (by decide) (fun K hK => ?_)
      obtain ⟨hc0, hc1, hc2, hc3, hf0, hf1, hf2, hf3⟩ := bk4 HM3.out.s
      refine skip_ (w1 := ?_) (by rfl) rfl ?_ ?_
      rotate_left
      · go_simp
        rfl
      refine hK.out _ _ ?_
      clear hK K hc0 hc1 hc2 hc3 hf0 hf1 hf2 hf3
      have HM4 := Aside0.mk (HM3.out.put4 (r1 := r1) (r2 := r2) (r3 := r3) (r4 := r4))
      clear HM3
      refine done_ (by kernel_rfl) ?_
      go_wp2
      go_roundw
      case rel => exact ⟨i + 1, j2, (r1, r2, r3, r4), by omega, by have := HJ.out; have := HJ2.out; omega, by first | go_num | (rw [e1]; rfl), hr4, HM4.out⟩
      case measure =>
        rw [e1]
        exact portreeveref02_Sum.dec hjp HJ2.out
    · obtain rfl : i = n := by omega
      have hle : ¬ (j : Int) < (p.length : Int) := by omega
      obtain rfl : SF = S := Option.some.inj (HST.out.symm.trans hSt.out)
      clear hi hlt hj hN hN0 hmax hj2
      have HX := Aside0.mk (show portreeveref02_Sum.X w wr.heap.size SF (portreeveref02_Sum.outs SF 0) (wr.alloc (.cells #[.int .u8 0, .int .u8 0, .int .u8 0, .int .u8 0, .int .u8 0, .int .u8 0, .int .u8 0, .int .u8 0, .int .u8 0, .int .u8 0, .int .u8 0, .int .u8 0, .int .u8 0, .int .u8 0, .int .u8 0, .int .u8 0] 22)) from ⟨pA HM1.out.bel _, blk_alloc HM1.out.z _, blk_alloc HM1.out.s _, Nums.new (xs := List.replicate 16 0) rfl, blk_lt HM1.out.s⟩)
      clear HM1
      go_wp2
      generalize wr.alloc (.cells #[.int .u8 0, .int .u8 0, .int .u8 0, .int .u8 0, .int .u8 0, .int .u8 0, .int .u8 0, .int .u8 0, .int .u8 0, .int .u8 0, .int .u8 0, .int .u8 0, .int .u8 0, .int .u8 0, .int .u8 0, .int .u8 0] 22) = w7 at HX ⊢
      generalize wr.heap.size = go at HX ⊢
      go_loopw [7] (fun v7 wk => ∃ i : Nat, i ≤ 16 ∧ v7 = .int .i64 i ∧ portreeveref02_Sum.X w go SF (portreeveref02_Sum.outs SF i) wk) (fun v7 _ => 16 - (intOf v7).toNat)
      case atStart => exact ⟨0, Nat.zero_le _, rfl, HX.out⟩
      case round =>
        obtain ⟨i, hi, rfl, hm⟩ := hrel
        have HX2 := Aside0.mk hm
        clear hm HX
        by_cases hlt : i < 16
        · have hlt' : (i : Int) < 16 := by omega
          clear hi
          obtain ⟨jj, hjj⟩ : ∃ jj, i % 4 = jj := ⟨_, rfl⟩
          have ii4 : (i : Int) / 4 < 4 := by omega
          have jj4 : jj < 4 := by omega
          have e3 : ((i : Nat) : Int).tmod 4 = (jj : Int) := by rw [Int.tmod_eq_emod_of_nonneg (by omega)]; omega
          have hcs := HX2.out.s.at_ (i := i / 4) (by show i / 4 < 4; omega)
          obtain ⟨sv, hsv⟩ : ∃ sv, ([SF.1, SF.2.1, SF.2.2.1, SF.2.2.2] : List Int).getD (i / 4) 0 = sv := ⟨_, rfl⟩
          rw [hsv] at hcs
          have HSV := Aside0.mk hsv
          have HIJ := Aside0.mk hjj
          clear hjj hsv
          have E3 := Aside0.mk e3
          clear e3
          go_wp2
          go_loopw [8, 9] (fun v8 v9 wk => ∃ q : Nat, q ≤ jj ∧ v8 = .int .u32 (portreeveref02_Sum.dv sv q) ∧ v9 = .int .i64 q ∧ portreeveref02_Sum.X w go SF (portreeveref02_Sum.outs SF i) wk) (fun _ v9 _ => jj - (intOf v9).toNat)
          case atStart => exact ⟨0, Nat.zero_le _, rfl, rfl, HX2.out⟩
          case round =>
            obtain ⟨q, hq, rfl, rfl, hm⟩ := hrel
            have HX3 := Aside0.mk hm
            clear hm HX2
            obtain ⟨dvq, hdv⟩ : ∃ d, portreeveref02_Sum.dv sv q = d := ⟨_, rfl⟩
            rw [hdv]
            have HDV := Aside0.mk hdv
            clear hdv
            have e3 := E3.out
            by_cases hqt : q < jj
            · have hqt' : (q : Int) < (jj : Int) := by omega
              go_wp2
              go_roundw
              case rel => exact ⟨q + 1, hqt, by rw [portreeveref02_Sum.dv, HDV.out]; rfl, by go_num, HX3.out⟩
              case measure => simp [intOf]; omega
            · obtain rfl : q = jj := by omega
              have hqt' : ¬ (q : Int) < (q : Int) := by omega
              have hlo := Aside0.mk (show i < (portreeveref02_Sum.outs SF i).length by rw [portreeveref02_Sum.outs_length]; exact hlt)
              have hfz := HX3.out.o.frozen (i := i)
              have hcl := HX3.out.o.at_ hlo.out
              go_wp2
              go_roundw
              case rel => exact ⟨i + 1, hlt, by go_num, by
                have := HX3.out.put hlo.out (v := IntKind.u8.wrap (dvq.tmod 256))
                rw [portreeveref02_Sum.outs, portreeveref02_Sum.byte, HSV.out, HIJ.out, HDV.out]
                exact this⟩
              case measure => simp [intOf]; omega
        · obtain rfl : i = 16 := by omega
          clear hi hlt
          obtain ⟨y0 , y1 , y2 , y3 , y4 , y5 , y6 , y7 , y8 , y9 , y10 , y11 , y12 , y13 , y14 , y15, hys⟩ := l16 (portreeveref02_Sum.outs_length SF 16)
          have HQE := Aside0.mk hys
          rw [hys] at HX2
          clear hys
          obtain ⟨o0, o1, o2, o3, o4, o5, o6, o7, o8, o9, o10, o11, o12, o13, o14, o15, p0, p1, p2, p3, p4, p5, p6, p7, p8, p9, p10, p11, p12, p13, p14, p15⟩ := bk16 (show wr.heap[go]? = some (.cells #[.int .u8 y0, .int .u8 y1, .int .u8 y2, .int .u8 y3, .int .u8 y4, .int .u8 y5, .int .u8 y6, .int .u8 y7, .int .u8 y8, .int .u8 y9, .int .u8 y10, .int .u8 y11, .int .u8 y12, .int .u8 y13, .int .u8 y14, .int .u8 y15] 22 (0, 0)) from HX2.out.o)
          have hz := HX2.out.z
          unfold Nums at hz
          go_wp2_with (refine wpList_store_rowTo rfl 22 (.tmp 2) (.tmp 48) rfl rfl w.heap.size #[.int .u8 y0, .int .u8 y1, .int .u8 y2, .int .u8 y3, .int .u8 y4, .int .u8 y5, .int .u8 y6, .int .u8 y7, .int .u8 y8, .int .u8 y9, .int .u8 y10, .int .u8 y11, .int .u8 y12, .int .u8 y13, .int .u8 y14, .int .u8 y15] rfl rfl 22 _ hz (by kernel_rfl) (by rfl) (by kernel_rfl) ?_)
          refine bodyPost_ret (results_cell_row rfl _ _ w.heap.size 22 #[.int .u8 y0, .int .u8 y1, .int .u8 y2, .int .u8 y3, .int .u8 y4, .int .u8 y5, .int .u8 y6, .int .u8 y7, .int .u8 y8, .int .u8 y9, .int .u8 y10, .int .u8 y11, .int .u8 y12, .int .u8 y13, .int .u8 y14, .int .u8 y15] (0, 0) _ rfl (setRow_heap _ _ _ _ 22 (0, 0) hz) Try.underlying22 rfl (by kernel_rfl)) rfl ?_
          exact ⟨by rw [HQE.out]; rfl, below_setRow HX2.out.bel (Nat.le_refl _) _⟩
def portreeveref02_Sum.f (k : Nat) (l0 : List Int) : Option (Int × Int × Int × Int × Int × Int × Int × Int × Int × Int × Int × Int × Int × Int × Int × Int) := (portreeveref02_Pad.f k l0).bind fun p => if p.length % 64 = 0 ∧ 0 < p.length ∧ p.length ≤ 140737488355328 then (portreeveref02_Sum.st k p (p.length / 64)).bind fun s => some (tup16 (portreeveref02_Sum.outs s 16)) else none
theorem portreeveref02_Sum.st_mono (k : Nat) (p : List Int) : ∀ n, LeO (portreeveref02_Sum.st k p n) (portreeveref02_Sum.st (k + 1) p n)
  | 0 => LeO.refl _
  | n + 1 => LeO.bind (portreeveref02_Sum.st_mono k p n) (fun _ => portreeveref02_Block.mono _ _ _ _ _ _)
theorem portreeveref02_Sum.mono : ∀ (l0 : List Int) (k : Nat), LeO (portreeveref02_Sum.f k l0) (portreeveref02_Sum.f (k + 1) l0) := by
  intro l0 k
  unfold portreeveref02_Sum.f
  exact LeO.bind (portreeveref02_Pad.mono _ _) (fun p => LeO.ite (LeO.bind (portreeveref02_Sum.st_mono k p _) (fun _ => LeO.refl _)) (LeO.refl _))
theorem portreeveref02_Sum.calls (k : Nat) (A0 : Option Addr) (c0 : Nat) (l0 : List Int) (r1 : Int) (r2 : Int) (r3 : Int) (r4 : Int) (r5 : Int) (r6 : Int) (r7 : Int) (r8 : Int) (r9 : Int) (r10 : Int) (r11 : Int) (r12 : Int) (r13 : Int) (r14 : Int) (r15 : Int) (r16 : Int) (w : World) (hr0 : Kd.C (Kd.int .u8) w A0 l0.length l0) (hc0 : l0.length ≤ c0) (h : portreeveref02_Sum.f k l0 = some (r1, r2, r3, r4, r5, r6, r7, r8, r9, r10, r11, r12, r13, r14, r15, r16)) :
    Calls Try.prog 29 #[.slice A0 l0.length c0] w fun e w' => e = .returned (.agg #[.int .u8 r1, .int .u8 r2, .int .u8 r3, .int .u8 r4, .int .u8 r5, .int .u8 r6, .int .u8 r7, .int .u8 r8, .int .u8 r9, .int .u8 r10, .int .u8 r11, .int .u8 r12, .int .u8 r13, .int .u8 r14, .int .u8 r15, .int .u8 r16]) ∧ Below w.heap.size w w' := by
  unfold portreeveref02_Sum.f at h
  obtain ⟨p, hp, h⟩ := Option.bind_eq_some_iff.1 h
  split at h
  · rename_i hc
    obtain ⟨h1, h2, h3⟩ := hc
    obtain ⟨SF, hs, h⟩ := Option.bind_eq_some_iff.1 h
    have h := Option.some.inj h
    refine (portreeveref02_Sum.walk k A0 c0 l0 p w hr0 hc0 hp (p.length / 64) (by omega) (by omega) h3 SF hs).mono ?_
    rintro e w' ⟨rfl, hb⟩
    refine ⟨?_, hb⟩
    obtain ⟨y0 , y1 , y2 , y3 , y4 , y5 , y6 , y7 , y8 , y9 , y10 , y11 , y12 , y13 , y14 , y15, hy⟩ := l16 (portreeveref02_Sum.outs_length SF 16)
    rw [hy] at h ⊢
    simp only [tup16, Prod.mk.injEq] at h
    obtain ⟨rfl, rfl, rfl, rfl, rfl, rfl, rfl, rfl, rfl, rfl, rfl, rfl, rfl, rfl, rfl, rfl⟩ := h
    rfl
  · cases h

end Go.Proofs.Ytpbkdphilcodmaa.Q
