-- written by this session's own program (wip/tools/myprint.py), over the kit's print
import Derived.Test.YtpbkdphilcodmaaQx0
import Derived.Test.YtpbkdphilcodmaaQx3
import Derived.Test.YtpbkdphilcodmaaNm
namespace Go.Proofs.Ytpbkdphilcodmaa.Q
open Go.RowKit Go.Proofs.YtpbkdphilcodmaaW.PrintWords Go.Proofs.YtpbkdphilcodmaaW.PrintLast Go.Proofs.YtpbkdphilcodmaaW.PrintMore
open Go.Proofs.YtpbkdphilcodmaaV
attribute [local go_sem] max2_int min2_int max_two min_two max_three min_three max_four min_four   -- for this text's walks alone
set_option linter.unusedVariables false
set_option linter.unusedSimpArgs false

/-! md5.Block: its words, its closures, its blocks of numbers; the walk's regions that draw their order are printed by gen02.py. -/
def md5_words.l : List Int := [3614090360, 3905402710, 606105819, 3250441966, 4118548399, 1200080426, 2821735955, 4249261313, 1770035416, 2336552879, 4294925233, 2304563134, 1804603682, 4254626195, 2792965006, 1236535329, 4129170786, 3225465664, 643717713, 3921069994, 3593408605, 38016083, 3634488961, 3889429448, 568446438, 3275163606, 4107603335, 1163531501, 2850285829, 4243563512, 1735328473, 2368359562, 4294588738, 2272392833, 1839030562, 4259657740, 2763975236, 1272893353, 4139469664, 3200236656, 681279174, 3936430074, 3572445317, 76029189, 3654602809, 3873151461, 530742520, 3299628645, 4096336452, 1126891415, 2878612391, 4237533241, 1700485571, 2399980690, 4293915773, 2240044497, 1873313359, 4264355552, 2734768916, 1309151649, 4149444226, 3174756917, 718787259, 3951481745]
set_option maxHeartbeats 8000000 in
set_option maxRecDepth 100000 in
theorem md5_words.calls (w : World) : Calls Try.prog 42 #[] w fun e w' => e = .returned (.agg (md5_words.l.map (Value.int .u32)).toArray) ∧ Below w.heap.size w w' := by
  go_enter Try.func42, Try.ntmps42
  go_wp2_with (first
    | ((with_reducible refine gate_dst (N := 1) rfl ?_); refine wpList_buildFlatArrTo rfl 77 63 64 _ rfl .u32 md5_words.l (some 1) rfl (by kernel_rfl) (by kernel_rfl) (by kernel_rfl) (by rfl) ?_)
    | (refine wpList_store_rowTo rfl 77 (.tmp 0) (.tmp 1) rfl rfl w.heap.size (md5_words.l.map (Value.int .u32)).toArray rfl rfl 77 _ (heap_alloc_new w _) (by kernel_rfl) (by rfl) (by kernel_rfl) ?_))
  refine bodyPost_ret (results_cell_row rfl _ _ w.heap.size 77 (md5_words.l.map (Value.int .u32)).toArray (0, 0) _ rfl (setRow_heap _ _ _ _ 77 (0, 0) (heap_alloc_new w _)) Try.underlying77 rfl (by kernel_rfl)) rfl ?_
  exact ⟨rfl, below_setRow (below_alloc (Below.refl _ _) _) (Nat.le_refl _) _⟩
structure BM (w0 : World) (s : List Int) (ms : List Int) (w : World) : Prop where
  below : Below w0.heap.size w0 w
  s : Nums w w0.heap.size 64 .u32 s
  z : Nums w (w0.heap.size + 1) 64 .u32 [0, 0, 0, 0]
  m : Nums w (w0.heap.size + 1 + 1) 74 .u32 ms
theorem BM.put {w0 w : World} {s ms : List Int} {i : Nat} {v : Int} (h : BM w0 s ms w) (hi : i < ms.length) : BM w0 s (ms.set i v) (w.setCell ⟨w0.heap.size + 1 + 1, i, none⟩ (.int .u32 v)) := ⟨below_set h.below (by omega), h.s.far (by omega), h.z.far (by omega), h.m.set hi⟩
theorem BM.row {w0 w : World} {s ms : List Int} {g : Nat} {cs : Array Value} (h : BM w0 s ms w) (hg : w0.heap.size + 1 + 1 < g) : BM w0 s ms (w.setRow g cs) := ⟨below_setRow h.below (by omega) _, (setRow_other w g _ cs (by omega)).trans h.s, (setRow_other w g _ cs (by omega)).trans h.z, (setRow_other w g _ cs (by omega)).trans h.m⟩
theorem BM.keep {w0 w w' : World} {s ms : List Int} (h : BM w0 s ms w) (hb : Below w.heap.size w w') : BM w0 s ms w' := ⟨below_step h.below hb, h.s.keep hb, h.z.keep hb, h.m.keep hb⟩
def md5_turns.l : List Int := [7, 12, 17, 22, 5, 9, 14, 20, 4, 11, 16, 23, 6, 10, 15, 21]
def bor (m c : Int) (k : Nat) : Int := Go.bits .or .u32 m (IntKind.u32.wrap (IntKind.u32.wrap c * 2 ^ (8 * (k : Int)).toNat))
theorem rd_nat (l : List Int) (i k : Nat) : rd l (4 * (i : Int) + (k : Int)) = l.getD (4 * i + k) 0 := by unfold rd; congr 1
def bmi (l : List Int) (i : Nat) (ms : List Int) : Nat → List Int
  | 0 => ms
  | k + 1 => (bmi l i ms k).set i (bor ((bmi l i ms k).getD i 0) (l.getD (4 * i + k) 0) k)
def bm (l : List Int) : Nat → List Int
  | 0 => List.replicate 16 0
  | i + 1 => bmi l i (bm l i) 4
theorem bmi_length (l : List Int) (i : Nat) (ms : List Int) : ∀ k, (bmi l i ms k).length = ms.length
  | 0 => rfl
  | k + 1 => by rw [bmi, List.length_set, bmi_length l i ms k]
theorem bm_length (l : List Int) : ∀ i, (bm l i).length = 16
  | 0 => rfl
  | i + 1 => by rw [bm, bmi_length, bm_length l i]
theorem BM.far {w0 w : World} {s ms : List Int} {g i : Nat} {u : Value} (h : BM w0 s ms w) (hg : w0.heap.size + 1 + 1 < g) : BM w0 s ms (w.setCell ⟨g, i, none⟩ u) := ⟨below_set h.below (by omega), h.s.far (by omega), h.z.far (by omega), h.m.far (by omega)⟩
/-- The arrays of the main loop. -/
structure MB (w0 : World) (s ms : List Int) (g8 g9 g10 gx : Nat) (x : List Int) (w : World) : Prop where
  bm : BM w0 s ms w
  d : w.heap[g8]? = some (.cells #[.func (.func 38) #[] #[], .func (.func 39) #[] #[], .func (.func 40) #[] #[], .func (.func 41) #[] #[]] 76 (0, 0))
  k : Nums w g9 77 .u32 md5_words.l
  r : Nums w g10 80 .i64 md5_turns.l
  x : Nums w gx 64 .u32 x
  o8 : w0.heap.size + 1 + 1 < g8
  o9 : g8 < g9
  o10 : g9 < g10
  ox : g10 < gx
theorem MB.keep {w0 w w' : World} {s ms x : List Int} {g8 g9 g10 gx : Nat} (h : MB w0 s ms g8 g9 g10 gx x w) (hb : Below w.heap.size w w') : MB w0 s ms g8 g9 g10 gx x w' :=
  ⟨h.bm.keep hb, (hb.block g8 (blk_lt h.d)).trans h.d, h.k.keep hb, h.r.keep hb, h.x.keep hb, h.o8, h.o9, h.o10, h.ox⟩
theorem MB.put {w0 w : World} {s ms x : List Int} {g8 g9 g10 gx i : Nat} {v : Int} (h : MB w0 s ms g8 g9 g10 gx x w) (hi : i < x.length) : MB w0 s ms g8 g9 g10 gx (x.set i v) (w.setCell ⟨gx, i, none⟩ (.int .u32 v)) := by
  have h8 := h.o8
  have h9 := h.o9
  have h10 := h.o10
  have hx := h.ox
  exact ⟨h.bm.far (by omega), (Below.heap_setCell w ⟨gx, i, none⟩ _ g8 (by show g8 ≠ gx; omega)).trans h.d, h.k.far (by omega), h.r.far (by omega), h.x.set hi, h8, h9, h10, hx⟩
def bg (i : Nat) : Nat := if i < 16 then i else if i < 32 then 5 * i + 1 else if i < 48 then 3 * i + 5 else 7 * i
def bff (i : Nat) (b c d : Int) : Int :=
  if i < 16 then Go.bits .or .u32 (Go.bits .and .u32 b c) (Go.bits .and .u32 (Go.bits .xor .u32 IntKind.u32.max b) d)
  else if i < 32 then Go.bits .or .u32 (Go.bits .and .u32 d b) (Go.bits .and .u32 (Go.bits .xor .u32 IntKind.u32.max d) c)
  else if i < 48 then Go.bits .xor .u32 (Go.bits .xor .u32 b c) d
  else Go.bits .xor .u32 c (Go.bits .or .u32 b (Go.bits .xor .u32 IntKind.u32.max d))
theorem drawn_below {w w' : World} (h : Drawn0 w w') : Below w.heap.size w w' := by
  have := h
  obtain ⟨n, rfl⟩ := h
  exact pN (Below.refl _ _) _
/-- What stands in the i-th step's closure, and what a call of it gives. -/
theorem closure_ {i : Nat} (hi : i < 64) : ∃ (q : Nat) (fn : Func), Try.prog.funcs[q]? = some fn ∧ (fn.name == "runtime.NumGoroutine") = false ∧ fn.body.isSome = true ∧
    (∀ (w : World) (g : Nat), w.heap[g]? = some (.cells #[.func (.func 38) #[] #[], .func (.func 39) #[] #[], .func (.func 40) #[] #[], .func (.func 41) #[] #[]] 76 (0, 0)) → w.cell? ⟨g, i / 16, none⟩ = some (.func (.func q) #[] #[])) ∧
    ∀ (b c d : Int) (w : World), Calls Try.prog q #[.int .u32 b, .int .u32 c, .int .u32 d, .int .i64 (i : Int)] w fun e w' => e = .returned (.tuple #[.int .u32 (bff i b c d), .int .i64 (bg i : Nat)]) ∧ Below w.heap.size w w' := by
  by_cases h1 : i < 16
  · refine ⟨38, _, Try.func38, by kernel_rfl, rfl, fun w g h => (blk_cell h _).trans (by rw [show i / 16 = 0 by omega]; rfl), fun b c d w => ?_⟩
    refine (md5_Block_1.calls b c d i _ _ w rfl).mono ?_
    rintro e w' ⟨rfl, hd⟩
    refine ⟨?_, drawn_below hd⟩
    rw [bff, bg, if_pos h1, if_pos h1]
  · by_cases h2 : i < 32
    · refine ⟨39, _, Try.func39, by kernel_rfl, rfl, fun w g h => (blk_cell h _).trans (by rw [show i / 16 = 1 by omega]; rfl), fun b c d w => ?_⟩
      refine (md5_Block_2.calls b c d i _ _ w rfl).mono ?_
      rintro e w' ⟨rfl, hd⟩
      refine ⟨?_, drawn_below hd⟩
      rw [bff, bg, if_neg h1, if_neg h1, if_pos h2, if_pos h2, show wrap64 (wrap64 (5 * (i : Int)) + 1) = ((5 * i + 1 : Nat) : Int) by rw [wrap64_of (x := 5 * (i : Int)), wrap64_of]; omega]
    · by_cases h3 : i < 48
      · refine ⟨40, _, Try.func40, by kernel_rfl, rfl, fun w g h => (blk_cell h _).trans (by rw [show i / 16 = 2 by omega]; rfl), fun b c d w => ?_⟩
        refine (md5_Block_3.calls b c d i _ _ w rfl).mono ?_
        rintro e w' ⟨rfl, hd⟩
        refine ⟨?_, drawn_below hd⟩
        rw [bff, bg, if_neg h1, if_neg h1, if_neg h2, if_neg h2, if_pos h3, if_pos h3, show wrap64 (wrap64 (3 * (i : Int)) + 5) = ((3 * i + 5 : Nat) : Int) by rw [wrap64_of (x := 3 * (i : Int)), wrap64_of]; omega]
      · refine ⟨41, _, Try.func41, by kernel_rfl, rfl, fun w g h => (blk_cell h _).trans (by rw [show i / 16 = 3 by omega]; rfl), fun b c d w => ?_⟩
        refine (md5_Block_4.calls b c d i _ _ w rfl).mono ?_
        rintro e w' ⟨rfl, hd⟩
        refine ⟨?_, drawn_below hd⟩
        rw [bff, bg, if_neg h1, if_neg h1, if_neg h2, if_neg h2, if_neg h3, if_neg h3, show wrap64 (7 * (i : Int)) = ((7 * i : Nat) : Int) by rw [wrap64_of]; omega]
def u32w (x : Int) : Int := IntKind.u32.wrap x
def bstep (ms : List Int) (i : Nat) : Int × Int × Int × Int → Int × Int × Int × Int
  | (x0, x1, x2, x3) =>
    let f := u32w (bff i x1 x2 x3 + u32w (u32w (x0 + md5_words.l.getD i 0) + ms.getD (bg i % 16) 0))
    let n := (md5_turns.l.getD (4 * (i / 16) + i % 4) 0).toNat
    (x3, u32w (x1 + Go.bits .or .u32 (u32w (f * 2 ^ n)) (f / 2 ^ (32 - n))), x1, x2)
def bx (ms : List Int) (s : Int × Int × Int × Int) : Nat → Int × Int × Int × Int
  | 0 => s
  | i + 1 => bstep ms i (bx ms s i)
theorem turns_lt : ∀ k : Fin 16, ∃ n : Fin 32, md5_turns.l.getD k.val 0 = ((n.val : Nat) : Int) := by decide
def bs (s x : List Int) : Nat → List Int
  | 0 => s
  | j + 1 => (bs s x j).set j (u32w ((bs s x j).getD j 0 + x.getD j 0))
theorem bs_length (s x : List Int) : ∀ j, (bs s x j).length = s.length
  | 0 => rfl
  | j + 1 => by rw [bs, List.length_set, bs_length s x j]
theorem MB.sput {w0 w : World} {s ms x : List Int} {g8 g9 g10 gx i : Nat} {v : Int} (h : MB w0 s ms g8 g9 g10 gx x w) (hi : i < s.length) : MB w0 (s.set i v) ms g8 g9 g10 gx x (w.setCell ⟨w0.heap.size, i, none⟩ (.int .u32 v)) := by
  have h8 := h.o8
  have h9 := h.o9
  have h10 := h.o10
  have hx := h.ox
  exact ⟨⟨below_set h.bm.below (Nat.le_refl _), h.bm.s.set hi, h.bm.z.far (by omega), h.bm.m.far (by omega)⟩, (Below.heap_setCell w ⟨w0.heap.size, i, none⟩ _ g8 (by show g8 ≠ w0.heap.size; omega)).trans h.d, h.k.far (by omega), h.r.far (by omega), h.x.far (by omega), h8, h9, h10, hx⟩
def md5_Block.fin (a0_0 a0_1 a0_2 a0_3 : Int) (l1 : List Int) : Int × Int × Int × Int :=
  match bx (bm l1 16) (a0_0, a0_1, a0_2, a0_3) 64 with
  | (x0, x1, x2, x3) => (u32w (a0_0 + x0), u32w (a0_1 + x1), u32w (a0_2 + x2), u32w (a0_3 + x3))
set_option maxHeartbeats 8000000 in
set_option maxRecDepth 100000 in
theorem md5_Block.walk (a0_0 a0_1 a0_2 a0_3 : Int) (A1 : Option Addr) (c1 : Nat) (l1 : List Int) (w : World) (hr1 : Kd.C (Kd.int .u8) w A1 l1.length l1) (hc1 : l1.length ≤ c1) (hl : 64 ≤ l1.length) (r1 r2 r3 r4 : Int) (hr4 : md5_Block.fin a0_0 a0_1 a0_2 a0_3 l1 = (r1, r2, r3, r4)) :
    Calls Try.prog 32 #[.agg #[.int .u32 a0_0, .int .u32 a0_1, .int .u32 a0_2, .int .u32 a0_3], .slice A1 l1.length c1] w fun e w' => e = .returned (.agg #[.int .u32 r1, .int .u32 r2, .int .u32 r3, .int .u32 r4]) ∧ Below w.heap.size w w' := by
  have HR4 := Aside0.mk hr4
  clear hr4
  have HL := Aside0.mk hl
  have HR1 := Aside0.mk hr1
  have HC1 := Aside0.mk hc1
  clear hr1 hc1 hl
  go_enter Try.func32, Try.ntmps32
  go_wp2
  have HM := Aside0.mk (show BM w [a0_0, a0_1, a0_2, a0_3] (bm l1 0) (((w.alloc (.cells #[.int .u32 a0_0, .int .u32 a0_1, .int .u32 a0_2, .int .u32 a0_3] 64)).alloc (.cells #[.int .u32 0, .int .u32 0, .int .u32 0, .int .u32 0] 64)).alloc (.cells #[.int .u32 0, .int .u32 0, .int .u32 0, .int .u32 0, .int .u32 0, .int .u32 0, .int .u32 0, .int .u32 0, .int .u32 0, .int .u32 0, .int .u32 0, .int .u32 0, .int .u32 0, .int .u32 0, .int .u32 0, .int .u32 0] 74)) from
    ⟨pA (pA (pA (Below.refl _ _) _) _) _, qA (qA (Nums.new (xs := [a0_0, a0_1, a0_2, a0_3]) rfl) _) _, qA (Nums.new (xs := [0, 0, 0, 0]) (bsize _ _)) _, Nums.new (xs := List.replicate 16 0) (by rw [bsize, bsize])⟩)
  go_loopw [17] (fun v17 wr => ∃ i : Nat, i ≤ 16 ∧ v17 = .int .i64 i ∧ BM w [a0_0, a0_1, a0_2, a0_3] (bm l1 i) wr) (fun v17 _ => 16 - (intOf v17).toNat)
  case atStart => exact ⟨0, Nat.zero_le _, rfl, HM.out⟩
  case round =>
    obtain ⟨i, hi, rfl, hm⟩ := hrel
    have HM1 := Aside0.mk hm
    clear hm HM
    by_cases hlt : i < 16
    · have hlt' : (i : Int) < 16 := by omega
      clear hi
      go_wp2
      go_loopw [20] (fun v20 wk => ∃ k : Nat, k ≤ 4 ∧ v20 = .int .i64 k ∧ BM w [a0_0, a0_1, a0_2, a0_3] (bmi l1 i (bm l1 i) k) wk) (fun v20 _ => 4 - (intOf v20).toNat)
      case atStart => exact ⟨0, Nat.zero_le _, rfl, HM1.out⟩
      case round =>
        obtain ⟨k, hk, rfl, hm⟩ := hrel
        have HM2 := Aside0.mk hm
        clear hm
        by_cases hkt : k < 4
        · have hkt' : (k : Int) < 4 := by omega
          clear hk
          go_upto_region 8 with (fail)
          have hj : 4 * i + k < l1.length := by have := HL.out; omega
          have e1 : wrap64 (4 * (i : Int)) = ((4 * i : Nat) : Int) := by rw [wrap64_of]; omega
          have e2 : wrap64 (4 * (i : Int) + (k : Int)) = 4 * (i : Int) + (k : Int) := by rw [wrap64_of]
          have q0 : 0 ≤ 4 * (i : Int) + (k : Int) := by omega
          have q1 : 4 * (i : Int) + (k : Int) < (l1.length : Int) := by omega
          have e3 : wrap64 (8 * (k : Int)) = ((8 * k : Nat) : Int) := by rw [wrap64_of]; omega
          obtain ⟨ad, ead, hx⟩ := Kd.at_int HR1.out _ q0 q1
          replace q0 := eq_true q0
          replace q1 := eq_true q1
          subst ead
          have HD := Aside0.mk (show BM w [a0_0, a0_1, a0_2, a0_3] (bmi l1 i (bm l1 i) k) wr.drew from HM2.out.keep (pD (Below.refl _ _)))
          obtain ⟨mv, hmv⟩ : ∃ mv, (bmi l1 i (bm l1 i) k).getD i 0 = mv := ⟨_, rfl⟩
          have hlt2 := Aside0.mk (show i < (bmi l1 i (bm l1 i) k).length by rw [bmi_length, bm_length]; exact hlt)
          have HMV := Aside0.mk hmv
          obtain ⟨cv, hcv⟩ : ∃ cv, rd l1 (4 * (i : Int) + (k : Int)) = cv := ⟨_, rfl⟩
          rw [hcv] at hx
          have HCV := Aside0.mk hcv
          clear hcv
          refine start_ (n := 17) (S := fun w' => w'.cell? ⟨w.heap.size + 1 + 1, i, none⟩ = some (.int .u32 mv) ∧ w'.cell? (ad.add (4 * (i : Int) + (k : Int)).toNat) = some (.int .u8 cv)) (ds := [16]) #[false, false, false, false, false, false, false, false, false, false, false, false, false, false, false, false, false] (by kernel_rfl) rfl rfl ⟨(HD.out.m.at_ hlt2.out).trans (by rw [hmv]), pw_cell_below HD.out.below hx⟩ (fun hHeld => ?_)
          generalize wr.drew = wd at HD hHeld ⊢
          clear hmv
          refine pure_ (i := 0) (N := some 23) (v := ?_) (a' := ?_) #[true, false, false, false, false, false, false, false, false, false, false, false, false, false, false, false, false] rfl rfl (by kernel_rfl) (fun _ _ _ h => h) (Or.inl ⟨by rfl, ?_⟩) ?_ ?_
          rotate_left
          · intro w'
            go_simp
            with_reducible rfl
          rotate_left
          · simp only [Act.put, sT, s0, s1, i64_w, i32_w]
            rfl
          refine pure_ (i := 1) (N := some 24) (v := ?_) (a' := ?_) #[true, true, false, false, false, false, false, false, false, false, false, false, false, false, false, false, false] rfl rfl (by kernel_rfl) (fun _ _ _ h => h) (Or.inl ⟨by rfl, ?_⟩) ?_ ?_
          rotate_left
          · intro w'
            go_simp
            with_reducible rfl
          rotate_left
          · simp only [Act.put, sT, s0, s1, i64_w, i32_w]
            rfl
          refine take_ (i := 2) (N := some 25) (v := ?_) (a' := ?_) #[true, true, true, false, false, false, false, false, false, false, false, false, false, false, false, false, false] rfl rfl (by kernel_rfl) (fun _ _ _ h => h) (Or.inl ⟨by rfl, ?_⟩) hHeld ?_ ?_
          rotate_left
          · rintro w' ⟨s0, s1⟩
            go_simp
            with_reducible rfl
          rotate_left
          · simp only [Act.put, sT, s0, s1, i64_w, i32_w]
            rfl
          refine pure_ (i := 3) (N := some 26) (v := ?_) (a' := ?_) #[true, true, true, true, false, false, false, false, false, false, false, false, false, false, false, false, false] rfl rfl (by kernel_rfl) (fun _ _ _ h => h) (Or.inl ⟨by rfl, ?_⟩) ?_ ?_
          rotate_left
          · intro w'
            go_simp
            with_reducible rfl
          rotate_left
          · simp only [Act.put, sT, s0, s1, i64_w, i32_w]
            rfl
          refine pure_ (i := 4) (N := some 27) (v := ?_) (a' := ?_) #[true, true, true, true, true, false, false, false, false, false, false, false, false, false, false, false, false] rfl rfl (by kernel_rfl) (fun _ _ _ h => h) (Or.inl ⟨by rfl, ?_⟩) ?_ ?_
          rotate_left
          · intro w'
            go_simp
            with_reducible rfl
          rotate_left
          · simp only [Act.put, sT, s0, s1, i64_w, i32_w]
            rfl
          refine pure_ (i := 5) (N := some 28) (v := ?_) (a' := ?_) #[true, true, true, true, true, true, false, false, false, false, false, false, false, false, false, false, false] rfl rfl (by kernel_rfl) (fun _ _ _ h => h) (Or.inl ⟨by rfl, ?_⟩) ?_ ?_
          rotate_left
          · intro w'
            go_simp
            with_reducible rfl
          rotate_left
          · simp only [Act.put, sT, s0, s1, i64_w, i32_w, e1]
            rfl
          refine pure_ (i := 6) (N := some 29) (v := ?_) (a' := ?_) #[true, true, true, true, true, true, true, false, false, false, false, false, false, false, false, false, false] rfl rfl (by kernel_rfl) (fun _ _ _ h => h) (Or.inl ⟨by rfl, ?_⟩) ?_ ?_
          rotate_left
          · intro w'
            go_simp
            with_reducible rfl
          rotate_left
          · simp only [Act.put, sT, s0, s1, i64_w, i32_w]
            rfl
          refine pure_ (i := 7) (N := some 30) (v := ?_) (a' := ?_) #[true, true, true, true, true, true, true, true, false, false, false, false, false, false, false, false, false] rfl rfl (by kernel_rfl) (fun _ _ _ h => h) (Or.inl ⟨by rfl, ?_⟩) ?_ ?_
          rotate_left
          · intro w'
            go_simp
            with_reducible rfl
          rotate_left
          · simp only [Act.put, sT, s0, s1, i64_w, i32_w]
            rfl
          refine pure_ (i := 8) (N := some 31) (v := ?_) (a' := ?_) #[true, true, true, true, true, true, true, true, true, false, false, false, false, false, false, false, false] rfl rfl (by kernel_rfl) (fun _ _ _ h => h) (Or.inl ⟨by rfl, ?_⟩) ?_ ?_
          rotate_left
          · intro w'
            go_simp
            with_reducible rfl
          rotate_left
          · simp only [Act.put, sT, s0, s1, i64_w, i32_w]
            rfl
          refine take_ (i := 9) (N := some 32) (v := ?_) (a' := ?_) #[true, true, true, true, true, true, true, true, true, true, false, false, false, false, false, false, false] rfl rfl (by kernel_rfl) (fun _ _ _ h => h) (Or.inl ⟨by rfl, ?_⟩) hHeld ?_ ?_
          rotate_left
          · rintro w' ⟨s0, s1⟩
            go_simp
            with_reducible rfl
          rotate_left
          · simp only [Act.put, sT, s0, s1, i64_w, i32_w]
            rfl
          refine pure_ (i := 10) (N := some 33) (v := ?_) (a' := ?_) #[true, true, true, true, true, true, true, true, true, true, true, false, false, false, false, false, false] rfl rfl (by kernel_rfl) (fun _ _ _ h => h) (Or.inl ⟨by rfl, ?_⟩) ?_ ?_
          rotate_left
          · intro w'
            go_simp
            with_reducible rfl
          rotate_left
          · simp only [Act.put, sT, s0, s1, i64_w, i32_w]
            rfl
          refine pure_ (i := 11) (N := some 34) (v := ?_) (a' := ?_) #[true, true, true, true, true, true, true, true, true, true, true, true, false, false, false, false, false] rfl rfl (by kernel_rfl) (fun _ _ _ h => h) (Or.inl ⟨by rfl, ?_⟩) ?_ ?_
          rotate_left
          · intro w'
            go_simp
            with_reducible rfl
          rotate_left
          · simp only [Act.put, sT, s0, s1, i64_w, i32_w]
            rfl
          refine pure_ (i := 12) (N := some 35) (v := ?_) (a' := ?_) #[true, true, true, true, true, true, true, true, true, true, true, true, true, false, false, false, false] rfl rfl (by kernel_rfl) (fun _ _ _ h => h) (Or.inl ⟨by rfl, ?_⟩) ?_ ?_
          rotate_left
          · intro w'
            go_simp
            with_reducible rfl
          rotate_left
          · simp only [Act.put, sT, s0, s1, i64_w, i32_w, e3]
            rfl
          refine pure_ (i := 13) (N := some 36) (v := ?_) (a' := ?_) #[true, true, true, true, true, true, true, true, true, true, true, true, true, true, false, false, false] rfl rfl (by kernel_rfl) (fun _ _ _ h => h) (Or.inl ⟨by rfl, ?_⟩) ?_ ?_
          rotate_left
          · intro w'
            go_simp
            with_reducible rfl
          rotate_left
          · simp only [Act.put, sT, s0, s1, i64_w, i32_w]
            rfl
          refine pure_ (i := 14) (N := some 37) (v := ?_) (a' := ?_) #[true, true, true, true, true, true, true, true, true, true, true, true, true, true, true, false, false] rfl rfl (by kernel_rfl) (fun _ _ _ h => h) (Or.inl ⟨by rfl, ?_⟩) ?_ ?_
          rotate_left
          · intro w'
            go_simp
            with_reducible rfl
          rotate_left
          · simp only [Act.put, sT, s0, s1, i64_w, i32_w]
            rfl
          refine pure_ (i := 15) (N := some 38) (v := ?_) (a' := ?_) #[true, true, true, true, true, true, true, true, true, true, true, true, true, true, true, true, false] rfl rfl (by kernel_rfl) (fun _ _ _ h => h) (Or.inl ⟨by rfl, ?_⟩) ?_ ?_
          rotate_left
          · intro w'
            go_simp
            with_reducible rfl
          rotate_left
          · simp only [Act.put, sT, s0, s1, i64_w, i32_w]
            rfl
          refine last_ (i := 16) (N := none) #[true, true, true, true, true, true, true, true, true, true, true, true, true, true, true, true, true] rfl rfl (by kernel_rfl) (by decide) (fun K hK => ?_)
          have hfz : wd.frozen? ⟨w.heap.size + 1 + 1, i, none⟩ = false := HD.out.m.frozen
          have hcl := hHeld.1
          refine skip_ (w1 := ?_) (by rfl) rfl ?_ ?_
          rotate_left
          · go_simp
            rfl
          refine hK.out _ _ ?_
          clear hK K
          have HM3 := Aside0.mk (HD.out.put hlt2.out (v := bor mv cv k))
          clear hfz hcl hHeld HD HM2
          refine done_ (by kernel_rfl) ?_
          go_wp2
          go_roundw
          case rel => exact ⟨k + 1, hkt, by go_num, by rw [bmi, HMV.out, ← rd_nat, HCV.out]; exact HM3.out⟩
          case measure => simp [intOf]; omega
        · obtain rfl : k = 4 := by omega
          clear hk hkt
          go_wp2
          go_roundw
          case rel => exact ⟨i + 1, hlt, by go_num, HM2.out⟩
          case measure => simp [intOf]; omega
    · obtain rfl : i = 16 := by omega
      clear hi hlt
      have hw23 := md5_words.calls
      have ht24 := md5_turns.calls 7 12 17 22 5 9 14 20 4 11 16 23 6 10 15 21
      go_wp2_with (first
        | (refine wpList_store_rowTo rfl 76 (.tmp 8) (.tmp 41) rfl rfl wr.heap.size #[.func (.func 38) #[] #[], .func (.func 39) #[] #[], .func (.func 40) #[] #[], .func (.func 41) #[] #[]] rfl rfl 76 _ (heap_alloc_new wr _) (by kernel_rfl) (by rfl) (by kernel_rfl) ?_; rw [World.setRow_alloc_new]; have B8 := Aside0.mk (heap_alloc_new wr (.cells #[.func (.func 38) #[] #[], .func (.func 39) #[] #[], .func (.func 40) #[] #[], .func (.func 41) #[] #[]] 76)); have HM2 := Aside0.mk (HM1.out.keep (pA (Below.refl _ _) (.cells #[.func (.func 38) #[] #[], .func (.func 39) #[] #[], .func (.func 40) #[] #[], .func (.func 41) #[] #[]] 76))); have G8 := Aside0.mk (show w.heap.size + 1 + 1 < wr.heap.size from blk_lt HM1.out.m); clear HM1; generalize wr.alloc (.cells #[.func (.func 38) #[] #[], .func (.func 39) #[] #[], .func (.func 40) #[] #[], .func (.func 41) #[] #[]] 76) = w8 at B8 HM2 ⊢; generalize wr.heap.size = g8 at B8 G8 ⊢)
        | (go_at_call 42; refine (md5_words.calls _).mono ?_; rintro e w9 ⟨rfl, hb⟩; have n0 := Aside0.mk (HM2.out.keep hb); have n1 := Aside0.mk ((hb.block g8 (blk_lt B8.out)).trans B8.out); clear HM2 B8 hb; have HM2 := n0; have B8 := n1; clear n0 n1)
        | (go_at_call 43; refine (md5_turns.calls 7 12 17 22 5 9 14 20 4 11 16 23 6 10 15 21 _ rfl).mono ?_; rintro e w10 ⟨rfl, hb⟩; have n0 := Aside0.mk (HM2.out.keep hb); have n1 := Aside0.mk ((hb.block g8 (blk_lt B8.out)).trans B8.out); clear HM2 B8 hb; have HM2 := n0; have B8 := n1; clear n0 n1)
        | ((with_reducible refine gate_dst (N := 9) rfl ?_); refine box_event ?hg (N := 9) ?hd (cs := (List.replicate 64 (Value.int .u32 0)).toArray) (t := 77) ?hr ?_; (case hd => rfl); (case hg => rfl); (case hr => first | (go_simp; done) | (go_simp; rfl)); intro g9 hg w11 hbox hb; have B9 := Aside0.mk hbox; have G9 := Aside0.mk (show g8 < g9 by rw [hg]; exact blk_lt B8.out); have n0 := Aside0.mk (HM2.out.keep hb); have n1 := Aside0.mk ((hb.block g8 (blk_lt B8.out)).trans B8.out); clear HM2 B8 hb hbox hg; have HM2 := n0; have B8 := n1; clear n0 n1)
        | ((with_reducible refine gate_dst (N := 10) rfl ?_); refine box_event ?hg (N := 10) ?hd (cs := (List.replicate 16 (Value.int .i64 0)).toArray) (t := 80) ?hr ?_; (case hd => rfl); (case hg => rfl); (case hr => first | (go_simp; done) | (go_simp; rfl)); intro g10 hg w12 hbox hb; have B10 := Aside0.mk hbox; have G10 := Aside0.mk (show g9 < g10 by rw [hg]; exact blk_lt B9.out); have n0 := Aside0.mk (HM2.out.keep hb); have n1 := Aside0.mk ((hb.block g8 (blk_lt B8.out)).trans B8.out); have n2 := Aside0.mk ((hb.block g9 (blk_lt B9.out)).trans B9.out); clear HM2 B8 B9 hb hbox hg; have HM2 := n0; have B8 := n1; have B9 := n2; clear n0 n1 n2)
        | (refine wpList_store_rowTo rfl 77 (.tmp 9) (.tmp 42) rfl rfl g9 (md5_words.l.map (Value.int .u32)).toArray rfl rfl 77 _ B9.out (by kernel_rfl) (by rfl) (by kernel_rfl) ?_; have n0 := Aside0.mk (HM2.out.row (g := g9) (cs := (md5_words.l.map (Value.int .u32)).toArray) (Nat.lt_trans G8.out G9.out)); have n1 := Aside0.mk ((setRow_other _ g9 g8 (md5_words.l.map (Value.int .u32)).toArray (Nat.ne_of_lt G9.out)).trans B8.out); have n2 := Aside0.mk (setRow_heap _ g9 _ (md5_words.l.map (Value.int .u32)).toArray 77 (0, 0) B9.out); have n3 := Aside0.mk ((setRow_other _ g9 g10 (md5_words.l.map (Value.int .u32)).toArray (Nat.ne_of_gt G10.out)).trans B10.out); clear HM2 B8 B9 B10; have HM2 := n0; have B8 := n1; have B9 := n2; have B10 := n3; clear n0 n1 n2 n3; generalize w12.setRow g9 (md5_words.l.map (Value.int .u32)).toArray = w13 at HM2 B8 B9 B10 ⊢)
        | (refine wpList_store_rowTo rfl 80 (.tmp 10) (.tmp 43) rfl rfl g10 (md5_turns.l.map (Value.int .i64)).toArray rfl rfl 80 _ B10.out (by kernel_rfl) (by rfl) (by kernel_rfl) ?_; have n0 := Aside0.mk (HM2.out.row (g := g10) (cs := (md5_turns.l.map (Value.int .i64)).toArray) (Nat.lt_trans G8.out (Nat.lt_trans G9.out G10.out))); have n1 := Aside0.mk ((setRow_other _ g10 g8 (md5_turns.l.map (Value.int .i64)).toArray (Nat.ne_of_lt (Nat.lt_trans G9.out G10.out))).trans B8.out); have n2 := Aside0.mk ((setRow_other _ g10 g9 (md5_turns.l.map (Value.int .i64)).toArray (Nat.ne_of_lt G10.out)).trans B9.out); have n3 := Aside0.mk (setRow_heap _ g10 _ (md5_turns.l.map (Value.int .i64)).toArray 80 (0, 0) B10.out); clear HM2 B8 B9 B10; have HM2 := n0; have B8 := n1; have B9 := n2; have B10 := n3; clear n0 n1 n2 n3; generalize w13.setRow g10 (md5_turns.l.map (Value.int .i64)).toArray = w14 at HM2 B8 B9 B10 ⊢; obtain ⟨hs0, hs1, hs2, hs3, hf0, hf1, hf2, hf3⟩ := bk4 HM2.out.s))
      have GX := Aside0.mk (show g10 < w14.heap.size from blk_lt B10.out)
      have HM := Aside0.mk (show MB w [a0_0, a0_1, a0_2, a0_3] (bm l1 16) g8 g9 g10 w14.heap.size [a0_0, a0_1, a0_2, a0_3] (w14.alloc (.cells #[.int .u32 a0_0, .int .u32 a0_1, .int .u32 a0_2, .int .u32 a0_3] 64)) from
        ⟨HM2.out.keep (pA (Below.refl _ _) _), blk_alloc B8.out _, blk_alloc B9.out _, blk_alloc B10.out _, Nums.new (xs := [a0_0, a0_1, a0_2, a0_3]) rfl, G8.out, G9.out, G10.out, GX.out⟩)
      clear HM2 B8 B9 B10 G8 G9 G10 GX hs0 hs1 hs2 hs3 hf0 hf1 hf2 hf3
      generalize w14.alloc (.cells #[.int .u32 a0_0, .int .u32 a0_1, .int .u32 a0_2, .int .u32 a0_3] 64) = w15 at HM ⊢
      generalize w14.heap.size = gx at HM ⊢
      clear hw23 ht24
      go_loopw [45] (fun v45 wr => ∃ (i : Nat) (x0 x1 x2 x3 : Int), i ≤ 64 ∧ v45 = .int .i64 i ∧ bx (bm l1 16) (a0_0, a0_1, a0_2, a0_3) i = (x0, x1, x2, x3) ∧ MB w [a0_0, a0_1, a0_2, a0_3] (bm l1 16) g8 g9 g10 gx [x0, x1, x2, x3] wr) (fun v45 _ => 64 - (intOf v45).toNat)
      case atStart => exact ⟨0, a0_0, a0_1, a0_2, a0_3, Nat.zero_le _, rfl, rfl, HM.out⟩
      case round =>
        obtain ⟨i, x0, x1, x2, x3, hi, rfl, hx, hm⟩ := hrel
        have HX := Aside0.mk hx
        have HM1 := Aside0.mk hm
        clear hm HM hx
        by_cases hlt : i < 64
        · have hlt' : (i : Int) < 64 := by omega
          clear hi
          go_upto_region 17 with (fail)
          obtain ⟨q, fn, hq1, hq2, hq3, hq4, hq5⟩ := closure_ hlt
          have HQ5 := Aside0.mk hq5
          have hqc := hq4 _ _ HM1.out.d
          clear hq4 hq5
          obtain ⟨hc0, hc1, hc2, hc3, hf0, hf1, hf2, hf3⟩ := bk4 HM1.out.x
          obtain ⟨ii, hii⟩ : ∃ ii, i / 16 = ii := ⟨_, rfl⟩
          have e1 : wrap64 ((i : Int) / 16) = (ii : Int) := by rw [wrap64_of]; omega
          have i16 : (ii : Int) < 4 := by omega
          rw [hii] at hqc
          refine start_ (n := 17) (S := fun w' => w'.cell? ⟨g8, ii, none⟩ = some (.func (.func q) #[] #[]) ∧ w'.cell? ⟨gx, 1, none⟩ = some (.int .u32 x1) ∧ w'.cell? ⟨gx, 2, none⟩ = some (.int .u32 x2) ∧ w'.cell? ⟨gx, 3, none⟩ = some (.int .u32 x3)) (ds := []) #[false, false, false, false, false, false, false, false, false, false, false, false, false, false, false, false, false] (by kernel_rfl) rfl rfl ⟨hqc, hc1, hc2, hc3⟩ (fun hHeld => ?_)
          clear hqc hc0 hc1 hc2 hc3 hf0 hf1 hf2 hf3
          have HM2 := Aside0.mk (show MB w [a0_0, a0_1, a0_2, a0_3] (bm l1 16) g8 g9 g10 gx [x0, x1, x2, x3] wr.drew from HM1.out.keep (pD (Below.refl _ _)))
          clear HM1
          generalize wr.drew = wd at HM2 hHeld ⊢
          refine pure_ (i := 0) (N := some 49) (v := ?_) (a' := ?_) #[true, false, false, false, false, false, false, false, false, false, false, false, false, false, false, false, false] rfl rfl (by kernel_rfl) (fun _ _ _ h => h) (Or.inl ⟨by rfl, ?_⟩) ?_ ?_
          rotate_left
          · intro w'
            go_simp
            with_reducible rfl
          rotate_left
          · simp only [Act.put, sT, s0, s1, i64_w, i32_w]
            rfl
          refine pure_ (i := 1) (N := some 50) (v := ?_) (a' := ?_) #[true, true, false, false, false, false, false, false, false, false, false, false, false, false, false, false, false] rfl rfl (by kernel_rfl) (fun _ _ _ h => h) (Or.inl ⟨by rfl, ?_⟩) ?_ ?_
          rotate_left
          · intro w'
            go_simp
            with_reducible rfl
          rotate_left
          · simp only [Act.put, sT, s0, s1, i64_w, i32_w, e1]
            rfl
          refine pure_ (i := 2) (N := some 51) (v := ?_) (a' := ?_) #[true, true, true, false, false, false, false, false, false, false, false, false, false, false, false, false, false] rfl rfl (by kernel_rfl) (fun _ _ _ h => h) (Or.inl ⟨by rfl, ?_⟩) ?_ ?_
          rotate_left
          · intro w'
            go_simp
            with_reducible rfl
          rotate_left
          · simp only [Act.put, sT, s0, s1, i64_w, i32_w]
            rfl
          refine take_ (i := 3) (N := some 52) (v := ?_) (a' := ?_) #[true, true, true, true, false, false, false, false, false, false, false, false, false, false, false, false, false] rfl rfl (by kernel_rfl) (fun _ _ _ h => h) (Or.inl ⟨by rfl, ?_⟩) hHeld ?_ ?_
          rotate_left
          · rintro w' ⟨c0, c1, c2, c3⟩
            go_simp
            with_reducible rfl
          rotate_left
          · simp only [Act.put, sT, s0, s1, i64_w, i32_w]
            rfl
          refine pure_ (i := 4) (N := some 53) (v := ?_) (a' := ?_) #[true, true, true, true, true, false, false, false, false, false, false, false, false, false, false, false, false] rfl rfl (by kernel_rfl) (fun _ _ _ h => h) (Or.inl ⟨by rfl, ?_⟩) ?_ ?_
          rotate_left
          · intro w'
            go_simp
            with_reducible rfl
          rotate_left
          · simp only [Act.put, sT, s0, s1, i64_w, i32_w]
            rfl
          refine take_ (i := 5) (N := some 54) (v := ?_) (a' := ?_) #[true, true, true, true, true, true, false, false, false, false, false, false, false, false, false, false, false] rfl rfl (by kernel_rfl) (fun _ _ _ h => h) (Or.inl ⟨by rfl, ?_⟩) hHeld ?_ ?_
          rotate_left
          · rintro w' ⟨c0, c1, c2, c3⟩
            go_simp
            with_reducible rfl
          rotate_left
          · simp only [Act.put, sT, s0, s1, i64_w, i32_w]
            rfl
          refine pure_ (i := 6) (N := some 55) (v := ?_) (a' := ?_) #[true, true, true, true, true, true, true, false, false, false, false, false, false, false, false, false, false] rfl rfl (by kernel_rfl) (fun _ _ _ h => h) (Or.inl ⟨by rfl, ?_⟩) ?_ ?_
          rotate_left
          · intro w'
            go_simp
            with_reducible rfl
          rotate_left
          · simp only [Act.put, sT, s0, s1, i64_w, i32_w]
            rfl
          refine take_ (i := 7) (N := some 56) (v := ?_) (a' := ?_) #[true, true, true, true, true, true, true, true, false, false, false, false, false, false, false, false, false] rfl rfl (by kernel_rfl) (fun _ _ _ h => h) (Or.inl ⟨by rfl, ?_⟩) hHeld ?_ ?_
          rotate_left
          · rintro w' ⟨c0, c1, c2, c3⟩
            go_simp
            with_reducible rfl
          rotate_left
          · simp only [Act.put, sT, s0, s1, i64_w, i32_w]
            rfl
          refine pure_ (i := 8) (N := some 57) (v := ?_) (a' := ?_) #[true, true, true, true, true, true, true, true, true, false, false, false, false, false, false, false, false] rfl rfl (by kernel_rfl) (fun _ _ _ h => h) (Or.inl ⟨by rfl, ?_⟩) ?_ ?_
          rotate_left
          · intro w'
            go_simp
            with_reducible rfl
          rotate_left
          · simp only [Act.put, sT, s0, s1, i64_w, i32_w]
            rfl
          refine take_ (i := 9) (N := some 58) (v := ?_) (a' := ?_) #[true, true, true, true, true, true, true, true, true, true, false, false, false, false, false, false, false] rfl rfl (by kernel_rfl) (fun _ _ _ h => h) (Or.inl ⟨by rfl, ?_⟩) hHeld ?_ ?_
          rotate_left
          · rintro w' ⟨c0, c1, c2, c3⟩
            go_simp
            with_reducible rfl
          rotate_left
          · simp only [Act.put, sT, s0, s1, i64_w, i32_w]
            rfl
          refine pure_ (i := 10) (N := some 59) (v := ?_) (a' := ?_) #[true, true, true, true, true, true, true, true, true, true, true, false, false, false, false, false, false] rfl rfl (by kernel_rfl) (fun _ _ _ h => h) (Or.inl ⟨by rfl, ?_⟩) ?_ ?_
          rotate_left
          · intro w'
            go_simp
            with_reducible rfl
          rotate_left
          · simp only [Act.put, sT, s0, s1, i64_w, i32_w]
            rfl
          refine one_ (i := 11) (N := some 60) #[true, true, true, true, true, true, true, true, true, true, true, true, false, false, false, false, false] rfl rfl (by kernel_rfl) (by decide) (fun K hK => ?_)
          refine call_ q #[.int .u32 x1, .int .u32 x2, .int .u32 x3, .int .i64 i] (by rfl) rfl (invokes_ hq1 hq2 hq3 (cap := #[]) _ rfl rfl (by first | rfl | (simp only [List.map_toArray, List.map_cons, List.map_nil, Array.append_empty]; rfl))) ?_
          refine (HQ5.out x1 x2 x3 _).mono ?_
          rintro e w16 ⟨rfl, hb⟩
          refine ⟨_, rfl, ?_⟩
          have HM3 := Aside0.mk (HM2.out.keep hb)
          refine hK.out _ _ ⟨(hb.cell (World.block_lt_of_cell? _ _ hHeld.1)).trans hHeld.1, (hb.cell (World.block_lt_of_cell? _ _ hHeld.2.1)).trans hHeld.2.1, (hb.cell (World.block_lt_of_cell? _ _ hHeld.2.2.1)).trans hHeld.2.2.1, (hb.cell (World.block_lt_of_cell? _ _ hHeld.2.2.2)).trans hHeld.2.2.2⟩ (fun _ => ?_)
          clear hK K hHeld HM2 hb HQ5 hq1 hq2 hq3
          refine norm_ (a' := ?_) ?_ ?_
          rotate_left
          · show Act.put _ (some 60) _ = _
            simp only [Act.put, sT, s0, s1, i64_w, i32_w]
            rfl
          refine pure_ (i := 12) (N := some 48) (v := ?_) (a' := ?_) #[true, true, true, true, true, true, true, true, true, true, true, true, true, false, false, false, false] rfl rfl (by kernel_rfl) (fun _ _ _ h => h) (Or.inl ⟨by rfl, ?_⟩) ?_ ?_
          rotate_left
          · intro w'
            go_simp
            with_reducible rfl
          rotate_left
          · simp only [Act.put, sT, s0, s1, i64_w, i32_w]
            rfl
          refine pure_ (i := 13) (N := some 61) (v := ?_) (a' := ?_) #[true, true, true, true, true, true, true, true, true, true, true, true, true, true, false, false, false] rfl rfl (by kernel_rfl) (fun _ _ _ h => h) (Or.inl ⟨by rfl, ?_⟩) ?_ ?_
          rotate_left
          · intro w'
            go_simp
            with_reducible rfl
          rotate_left
          · simp only [Act.put, sT, s0, s1, i64_w, i32_w]
            rfl
          refine pure_ (i := 14) (N := some 62) (v := ?_) (a' := ?_) #[true, true, true, true, true, true, true, true, true, true, true, true, true, true, true, false, false] rfl rfl (by kernel_rfl) (fun _ _ _ h => h) (Or.inl ⟨by rfl, ?_⟩) ?_ ?_
          rotate_left
          · intro w'
            go_simp
            with_reducible rfl
          rotate_left
          · simp only [Act.put, sT, s0, s1, i64_w, i32_w]
            rfl
          refine pure_ (i := 15) (N := some 13) (v := ?_) (a' := ?_) #[true, true, true, true, true, true, true, true, true, true, true, true, true, true, true, true, false] rfl rfl (by kernel_rfl) (fun _ _ _ h => h) (Or.inl ⟨by rfl, ?_⟩) ?_ ?_
          rotate_left
          · intro w'
            go_simp
            with_reducible rfl
          rotate_left
          · simp only [Act.put, sT, s0, s1, i64_w, i32_w]
            rfl
          refine pure_ (i := 16) (N := some 14) (v := ?_) (a' := ?_) #[true, true, true, true, true, true, true, true, true, true, true, true, true, true, true, true, true] rfl rfl (by kernel_rfl) (fun _ _ _ h => h) (Or.inl ⟨by rfl, ?_⟩) ?_ ?_
          rotate_left
          · intro w'
            go_simp
            with_reducible rfl
          rotate_left
          · simp only [Act.put, sT, s0, s1, i64_w, i32_w]
            rfl
          refine done_ (by kernel_rfl) ?_
          go_upto_region 18 with (fail)
          obtain ⟨hc0, hc1, hc2, hc3, hf0, hf1, hf2, hf3⟩ := bk4 HM3.out.x
          obtain ⟨gi, hgi⟩ : ∃ gi, bg i % 16 = gi := ⟨_, rfl⟩
          have e2 : ((bg i : Nat) : Int).tmod 16 = (gi : Int) := by rw [Int.tmod_eq_emod_of_nonneg (by omega)]; omega
          have gi16 : (gi : Int) < 16 := by omega
          have hck := HM3.out.k.at_ (i := i) (by rw [show md5_words.l.length = 64 from rfl]; exact hlt)
          have hcm := HM3.out.bm.m.at_ (i := gi) (by rw [bm_length]; omega)
          obtain ⟨kv, hkv⟩ : ∃ kv, md5_words.l.getD i 0 = kv := ⟨_, rfl⟩
          obtain ⟨mv, hmv⟩ : ∃ mv, (bm l1 16).getD gi 0 = mv := ⟨_, rfl⟩
          rw [hkv] at hck
          rw [hmv] at hcm
          have HKV := Aside0.mk hkv
          have HMV := Aside0.mk hmv
          clear hkv hmv
          refine start_ (n := 14) (S := fun w' => w'.cell? ⟨gx, 0, none⟩ = some (.int .u32 x0) ∧ w'.cell? ⟨g9, i, none⟩ = some (.int .u32 kv) ∧ w'.cell? ⟨w.heap.size + 1 + 1, gi, none⟩ = some (.int .u32 mv)) (ds := []) #[false, false, false, false, false, false, false, false, false, false, false, false, false, false] (by kernel_rfl) rfl rfl ⟨hc0, hck, hcm⟩ (fun hHeld => ?_)
          clear hck hcm hc0 hc1 hc2 hc3 hf0 hf1 hf2 hf3
          have HM4 := Aside0.mk (HM3.out.keep (pD (Below.refl _ _)))
          clear HM3
          generalize w16.drew = w17 at HM4 hHeld ⊢
          refine pure_ (i := 0) (N := some 63) (v := ?_) (a' := ?_) #[true, false, false, false, false, false, false, false, false, false, false, false, false, false] rfl rfl (by kernel_rfl) (fun _ _ _ h => h) (Or.inl ⟨by rfl, ?_⟩) ?_ ?_
          rotate_left
          · intro w'
            go_simp
            with_reducible rfl
          rotate_left
          · simp only [Act.put, sT, s0, s1, i64_w, i32_w]
            rfl
          refine pure_ (i := 1) (N := some 64) (v := ?_) (a' := ?_) #[true, true, false, false, false, false, false, false, false, false, false, false, false, false] rfl rfl (by kernel_rfl) (fun _ _ _ h => h) (Or.inl ⟨by rfl, ?_⟩) ?_ ?_
          rotate_left
          · intro w'
            go_simp
            with_reducible rfl
          rotate_left
          · simp only [Act.put, sT, s0, s1, i64_w, i32_w]
            rfl
          refine take_ (i := 2) (N := some 65) (v := ?_) (a' := ?_) #[true, true, true, false, false, false, false, false, false, false, false, false, false, false] rfl rfl (by kernel_rfl) (fun _ _ _ h => h) (Or.inl ⟨by rfl, ?_⟩) hHeld ?_ ?_
          rotate_left
          · rintro w' ⟨c0, c1, c2⟩
            go_simp
            with_reducible rfl
          rotate_left
          · simp only [Act.put, sT, s0, s1, i64_w, i32_w]
            rfl
          refine pure_ (i := 3) (N := some 66) (v := ?_) (a' := ?_) #[true, true, true, true, false, false, false, false, false, false, false, false, false, false] rfl rfl (by kernel_rfl) (fun _ _ _ h => h) (Or.inl ⟨by rfl, ?_⟩) ?_ ?_
          rotate_left
          · intro w'
            go_simp
            with_reducible rfl
          rotate_left
          · simp only [Act.put, sT, s0, s1, i64_w, i32_w]
            rfl
          refine pure_ (i := 4) (N := some 67) (v := ?_) (a' := ?_) #[true, true, true, true, true, false, false, false, false, false, false, false, false, false] rfl rfl (by kernel_rfl) (fun _ _ _ h => h) (Or.inl ⟨by rfl, ?_⟩) ?_ ?_
          rotate_left
          · intro w'
            go_simp
            with_reducible rfl
          rotate_left
          · simp only [Act.put, sT, s0, s1, i64_w, i32_w]
            rfl
          refine take_ (i := 5) (N := some 68) (v := ?_) (a' := ?_) #[true, true, true, true, true, true, false, false, false, false, false, false, false, false] rfl rfl (by kernel_rfl) (fun _ _ _ h => h) (Or.inl ⟨by rfl, ?_⟩) hHeld ?_ ?_
          rotate_left
          · rintro w' ⟨c0, c1, c2⟩
            go_simp
            with_reducible rfl
          rotate_left
          · simp only [Act.put, sT, s0, s1, i64_w, i32_w]
            rfl
          refine pure_ (i := 6) (N := some 69) (v := ?_) (a' := ?_) #[true, true, true, true, true, true, true, false, false, false, false, false, false, false] rfl rfl (by kernel_rfl) (fun _ _ _ h => h) (Or.inl ⟨by rfl, ?_⟩) ?_ ?_
          rotate_left
          · intro w'
            go_simp
            with_reducible rfl
          rotate_left
          · simp only [Act.put, sT, s0, s1, i64_w, i32_w]
            rfl
          refine pure_ (i := 7) (N := some 70) (v := ?_) (a' := ?_) #[true, true, true, true, true, true, true, true, false, false, false, false, false, false] rfl rfl (by kernel_rfl) (fun _ _ _ h => h) (Or.inl ⟨by rfl, ?_⟩) ?_ ?_
          rotate_left
          · intro w'
            go_simp
            with_reducible rfl
          rotate_left
          · simp only [Act.put, sT, s0, s1, i64_w, i32_w]
            rfl
          refine pure_ (i := 8) (N := some 71) (v := ?_) (a' := ?_) #[true, true, true, true, true, true, true, true, true, false, false, false, false, false] rfl rfl (by kernel_rfl) (fun _ _ _ h => h) (Or.inl ⟨by rfl, ?_⟩) ?_ ?_
          rotate_left
          · intro w'
            go_simp
            with_reducible rfl
          rotate_left
          · simp only [Act.put, sT, s0, s1, i64_w, i32_w, e2]
            rfl
          refine pure_ (i := 9) (N := some 72) (v := ?_) (a' := ?_) #[true, true, true, true, true, true, true, true, true, true, false, false, false, false] rfl rfl (by kernel_rfl) (fun _ _ _ h => h) (Or.inl ⟨by rfl, ?_⟩) ?_ ?_
          rotate_left
          · intro w'
            go_simp
            with_reducible rfl
          rotate_left
          · simp only [Act.put, sT, s0, s1, i64_w, i32_w]
            rfl
          refine take_ (i := 10) (N := some 73) (v := ?_) (a' := ?_) #[true, true, true, true, true, true, true, true, true, true, true, false, false, false] rfl rfl (by kernel_rfl) (fun _ _ _ h => h) (Or.inl ⟨by rfl, ?_⟩) hHeld ?_ ?_
          rotate_left
          · rintro w' ⟨c0, c1, c2⟩
            go_simp
            with_reducible rfl
          rotate_left
          · simp only [Act.put, sT, s0, s1, i64_w, i32_w]
            rfl
          refine pure_ (i := 11) (N := some 74) (v := ?_) (a' := ?_) #[true, true, true, true, true, true, true, true, true, true, true, true, false, false] rfl rfl (by kernel_rfl) (fun _ _ _ h => h) (Or.inl ⟨by rfl, ?_⟩) ?_ ?_
          rotate_left
          · intro w'
            go_simp
            with_reducible rfl
          rotate_left
          · simp only [Act.put, sT, s0, s1, i64_w, i32_w]
            rfl
          refine pure_ (i := 12) (N := some 75) (v := ?_) (a' := ?_) #[true, true, true, true, true, true, true, true, true, true, true, true, true, false] rfl rfl (by kernel_rfl) (fun _ _ _ h => h) (Or.inl ⟨by rfl, ?_⟩) ?_ ?_
          rotate_left
          · intro w'
            go_simp
            with_reducible rfl
          rotate_left
          · simp only [Act.put, sT, s0, s1, i64_w, i32_w]
            rfl
          refine pure_ (i := 13) (N := some 13) (v := ?_) (a' := ?_) #[true, true, true, true, true, true, true, true, true, true, true, true, true, true] rfl rfl (by kernel_rfl) (fun _ _ _ h => h) (Or.inl ⟨by rfl, ?_⟩) ?_ ?_
          rotate_left
          · intro w'
            go_simp
            with_reducible rfl
          rotate_left
          · simp only [Act.put, sT, s0, s1, i64_w, i32_w]
            rfl
          refine done_ (by kernel_rfl) ?_
          obtain ⟨fv, hfv⟩ : ∃ fv, IntKind.u32.wrap (bff i x1 x2 x3 + IntKind.u32.wrap (IntKind.u32.wrap (x0 + kv) + mv)) = fv := ⟨_, rfl⟩
          rw [hfv]
          have HFV := Aside0.mk hfv
          clear hfv hHeld e2 gi16
          obtain ⟨jj, hjj⟩ : ∃ jj, i % 4 = jj := ⟨_, rfl⟩
          obtain ⟨⟨nn, hn32⟩, hnn⟩ := turns_lt ⟨4 * ii + jj, by omega⟩
          dsimp only at hnn
          have e3 : ((i : Nat) : Int).tmod 4 = (jj : Int) := by rw [Int.tmod_eq_emod_of_nonneg (by omega)]; omega
          have jj4 : (jj : Int) < 4 := by omega
          have hcn := HM4.out.r.at_ (i := 4 * ii + jj) (by rw [show md5_turns.l.length = 16 from rfl]; omega)
          rw [hnn] at hcn
          have e4 : ii * 4 + jj = 4 * ii + jj := by omega
          go_upto_region 20 with (fail)
          obtain ⟨mm, hmm⟩ : ∃ mm, 32 - nn = mm := ⟨_, rfl⟩
          have e5 : wrap64 (32 - (nn : Int)) = (mm : Int) := by rw [wrap64_of]; omega
          clear hcn e4 e3 jj4 e1 i16
          obtain ⟨hc0, hc1, hc2, hc3, hf0, hf1, hf2, hf3⟩ := bk4 HM4.out.x
          refine start_ (n := 25) (S := fun w' => w'.cell? ⟨gx, 1, none⟩ = some (.int .u32 x1) ∧ w'.cell? ⟨gx, 2, none⟩ = some (.int .u32 x2) ∧ w'.cell? ⟨gx, 3, none⟩ = some (.int .u32 x3)) (ds := [18, 20, 22, 24]) #[false, false, false, false, false, false, false, false, false, false, false, false, false, false, false, false, false, false, false, false, false, false, false, false, false] (by kernel_rfl) rfl rfl ⟨hc1, hc2, hc3⟩ (fun hHeld => ?_)
          clear hc0 hc1 hc2 hc3 hf0 hf1 hf2 hf3
          have HM5 := Aside0.mk (HM4.out.keep (pD (Below.refl _ _)))
          clear HM4
          generalize w17.drew = w18 at HM5 hHeld ⊢
          refine pure_ (i := 0) (N := some 83) (v := ?_) (a' := ?_) #[true, false, false, false, false, false, false, false, false, false, false, false, false, false, false, false, false, false, false, false, false, false, false, false, false] rfl rfl (by kernel_rfl) (fun _ _ _ h => h) (Or.inl ⟨by rfl, ?_⟩) ?_ ?_
          rotate_left
          · intro w'
            go_simp
            with_reducible rfl
          rotate_left
          · simp only [Act.put, sT, s0, s1, i64_w, i32_w]
            rfl
          refine take_ (i := 1) (N := some 84) (v := ?_) (a' := ?_) #[true, true, false, false, false, false, false, false, false, false, false, false, false, false, false, false, false, false, false, false, false, false, false, false, false] rfl rfl (by kernel_rfl) (fun _ _ _ h => h) (Or.inl ⟨by rfl, ?_⟩) hHeld ?_ ?_
          rotate_left
          · rintro w' ⟨c1, c2, c3⟩
            go_simp
            with_reducible rfl
          rotate_left
          · simp only [Act.put, sT, s0, s1, i64_w, i32_w]
            rfl
          refine pure_ (i := 2) (N := some 85) (v := ?_) (a' := ?_) #[true, true, true, false, false, false, false, false, false, false, false, false, false, false, false, false, false, false, false, false, false, false, false, false, false] rfl rfl (by kernel_rfl) (fun _ _ _ h => h) (Or.inl ⟨by rfl, ?_⟩) ?_ ?_
          rotate_left
          · intro w'
            go_simp
            with_reducible rfl
          rotate_left
          · simp only [Act.put, sT, s0, s1, i64_w, i32_w]
            rfl
          refine take_ (i := 3) (N := some 86) (v := ?_) (a' := ?_) #[true, true, true, true, false, false, false, false, false, false, false, false, false, false, false, false, false, false, false, false, false, false, false, false, false] rfl rfl (by kernel_rfl) (fun _ _ _ h => h) (Or.inl ⟨by rfl, ?_⟩) hHeld ?_ ?_
          rotate_left
          · rintro w' ⟨c1, c2, c3⟩
            go_simp
            with_reducible rfl
          rotate_left
          · simp only [Act.put, sT, s0, s1, i64_w, i32_w]
            rfl
          refine pure_ (i := 4) (N := some 87) (v := ?_) (a' := ?_) #[true, true, true, true, true, false, false, false, false, false, false, false, false, false, false, false, false, false, false, false, false, false, false, false, false] rfl rfl (by kernel_rfl) (fun _ _ _ h => h) (Or.inl ⟨by rfl, ?_⟩) ?_ ?_
          rotate_left
          · intro w'
            go_simp
            with_reducible rfl
          rotate_left
          · simp only [Act.put, sT, s0, s1, i64_w, i32_w]
            rfl
          refine pure_ (i := 5) (N := some 88) (v := ?_) (a' := ?_) #[true, true, true, true, true, true, false, false, false, false, false, false, false, false, false, false, false, false, false, false, false, false, false, false, false] rfl rfl (by kernel_rfl) (fun _ _ _ h => h) (Or.inl ⟨by rfl, ?_⟩) ?_ ?_
          rotate_left
          · intro w'
            go_simp
            with_reducible rfl
          rotate_left
          · simp only [Act.put, sT, s0, s1, i64_w, i32_w]
            rfl
          refine pure_ (i := 6) (N := some 89) (v := ?_) (a' := ?_) #[true, true, true, true, true, true, true, false, false, false, false, false, false, false, false, false, false, false, false, false, false, false, false, false, false] rfl rfl (by kernel_rfl) (fun _ _ _ h => h) (Or.inl ⟨by rfl, ?_⟩) ?_ ?_
          rotate_left
          · intro w'
            go_simp
            with_reducible rfl
          rotate_left
          · simp only [Act.put, sT, s0, s1, i64_w, i32_w]
            rfl
          refine pure_ (i := 7) (N := some 90) (v := ?_) (a' := ?_) #[true, true, true, true, true, true, true, true, false, false, false, false, false, false, false, false, false, false, false, false, false, false, false, false, false] rfl rfl (by kernel_rfl) (fun _ _ _ h => h) (Or.inl ⟨by rfl, ?_⟩) ?_ ?_
          rotate_left
          · intro w'
            go_simp
            with_reducible rfl
          rotate_left
          · simp only [Act.put, sT, s0, s1, i64_w, i32_w]
            rfl
          refine pure_ (i := 8) (N := some 91) (v := ?_) (a' := ?_) #[true, true, true, true, true, true, true, true, true, false, false, false, false, false, false, false, false, false, false, false, false, false, false, false, false] rfl rfl (by kernel_rfl) (fun _ _ _ h => h) (Or.inl ⟨by rfl, ?_⟩) ?_ ?_
          rotate_left
          · intro w'
            go_simp
            with_reducible rfl
          rotate_left
          · simp only [Act.put, sT, s0, s1, i64_w, i32_w]
            rfl
          refine pure_ (i := 9) (N := some 92) (v := ?_) (a' := ?_) #[true, true, true, true, true, true, true, true, true, true, false, false, false, false, false, false, false, false, false, false, false, false, false, false, false] rfl rfl (by kernel_rfl) (fun _ _ _ h => h) (Or.inl ⟨by rfl, ?_⟩) ?_ ?_
          rotate_left
          · intro w'
            go_simp
            with_reducible rfl
          rotate_left
          · simp only [Act.put, sT, s0, s1, i64_w, i32_w, e5]
            rfl
          refine pure_ (i := 10) (N := some 93) (v := ?_) (a' := ?_) #[true, true, true, true, true, true, true, true, true, true, true, false, false, false, false, false, false, false, false, false, false, false, false, false, false] rfl rfl (by kernel_rfl) (fun _ _ _ h => h) (Or.inl ⟨by rfl, ?_⟩) ?_ ?_
          rotate_left
          · intro w'
            go_simp
            with_reducible rfl
          rotate_left
          · simp only [Act.put, sT, s0, s1, i64_w, i32_w]
            rfl
          refine pure_ (i := 11) (N := some 94) (v := ?_) (a' := ?_) #[true, true, true, true, true, true, true, true, true, true, true, true, false, false, false, false, false, false, false, false, false, false, false, false, false] rfl rfl (by kernel_rfl) (fun _ _ _ h => h) (Or.inl ⟨by rfl, ?_⟩) ?_ ?_
          rotate_left
          · intro w'
            go_simp
            with_reducible rfl
          rotate_left
          · simp only [Act.put, sT, s0, s1, i64_w, i32_w]
            rfl
          refine pure_ (i := 12) (N := some 95) (v := ?_) (a' := ?_) #[true, true, true, true, true, true, true, true, true, true, true, true, true, false, false, false, false, false, false, false, false, false, false, false, false] rfl rfl (by kernel_rfl) (fun _ _ _ h => h) (Or.inl ⟨by rfl, ?_⟩) ?_ ?_
          rotate_left
          · intro w'
            go_simp
            with_reducible rfl
          rotate_left
          · simp only [Act.put, sT, s0, s1, i64_w, i32_w]
            rfl
          refine pure_ (i := 13) (N := some 96) (v := ?_) (a' := ?_) #[true, true, true, true, true, true, true, true, true, true, true, true, true, true, false, false, false, false, false, false, false, false, false, false, false] rfl rfl (by kernel_rfl) (fun _ _ _ h => h) (Or.inl ⟨by rfl, ?_⟩) ?_ ?_
          rotate_left
          · intro w'
            go_simp
            with_reducible rfl
          rotate_left
          · simp only [Act.put, sT, s0, s1, i64_w, i32_w]
            rfl
          refine take_ (i := 14) (N := some 97) (v := ?_) (a' := ?_) #[true, true, true, true, true, true, true, true, true, true, true, true, true, true, true, false, false, false, false, false, false, false, false, false, false] rfl rfl (by kernel_rfl) (fun _ _ _ h => h) (Or.inl ⟨by rfl, ?_⟩) hHeld ?_ ?_
          rotate_left
          · rintro w' ⟨c1, c2, c3⟩
            go_simp
            with_reducible rfl
          rotate_left
          · simp only [Act.put, sT, s0, s1, i64_w, i32_w]
            rfl
          refine pure_ (i := 15) (N := some 98) (v := ?_) (a' := ?_) #[true, true, true, true, true, true, true, true, true, true, true, true, true, true, true, true, false, false, false, false, false, false, false, false, false] rfl rfl (by kernel_rfl) (fun _ _ _ h => h) (Or.inl ⟨by rfl, ?_⟩) ?_ ?_
          rotate_left
          · intro w'
            go_simp
            with_reducible rfl
          rotate_left
          · simp only [Act.put, sT, s0, s1, i64_w, i32_w]
            rfl
          refine take_ (i := 16) (N := some 99) (v := ?_) (a' := ?_) #[true, true, true, true, true, true, true, true, true, true, true, true, true, true, true, true, true, false, false, false, false, false, false, false, false] rfl rfl (by kernel_rfl) (fun _ _ _ h => h) (Or.inl ⟨by rfl, ?_⟩) hHeld ?_ ?_
          rotate_left
          · rintro w' ⟨c1, c2, c3⟩
            go_simp
            with_reducible rfl
          rotate_left
          · simp only [Act.put, sT, s0, s1, i64_w, i32_w]
            rfl
          refine pure_ (i := 17) (N := some 100) (v := ?_) (a' := ?_) #[true, true, true, true, true, true, true, true, true, true, true, true, true, true, true, true, true, true, false, false, false, false, false, false, false] rfl rfl (by kernel_rfl) (fun _ _ _ h => h) (Or.inl ⟨by rfl, ?_⟩) ?_ ?_
          rotate_left
          · intro w'
            go_simp
            with_reducible rfl
          rotate_left
          · simp only [Act.put, sT, s0, s1, i64_w, i32_w]
            rfl
          clear hHeld
          obtain ⟨yv, hyv⟩ : ∃ yv, IntKind.u32.wrap (x1 + bits BinOp.or IntKind.u32 (IntKind.u32.wrap (fv * 2 ^ nn)) (fv / 2 ^ mm)) = yv := ⟨_, rfl⟩
          rw [hyv]
          have HYV := Aside0.mk hyv
          clear hyv
          refine last_ (i := 18) (N := none) #[true, true, true, true, true, true, true, true, true, true, true, true, true, true, true, true, true, true, true, false, false, false, false, false, false] rfl rfl (by kernel_rfl) (by decide) (fun K hK => ?_)
          have hfz := HM5.out.x.frozen (i := 0)
          have hcl := HM5.out.x.at_ (i := 0) (by simp)
          refine skip_ (w1 := ?_) (by rfl) rfl ?_ ?_
          rotate_left
          · go_simp
            rfl
          refine hK.out _ _ ?_
          clear hK K
          have HM6 := Aside0.mk (HM5.out.put (i := 0) (v := x3) (by simp))
          clear hfz hcl HM5
          generalize w18.setCell ⟨gx, 0, none⟩ (.int .u32 x3) = w19 at HM6 ⊢
          refine pure_ (i := 19) (N := some 101) (v := ?_) (a' := ?_) #[true, true, true, true, true, true, true, true, true, true, true, true, true, true, true, true, true, true, true, true, false, false, false, false, false] rfl rfl (by kernel_rfl) (fun _ _ _ h => h) (Or.inl ⟨by rfl, ?_⟩) ?_ ?_
          rotate_left
          · intro w'
            go_simp
            with_reducible rfl
          rotate_left
          · simp only [Act.put, sT, s0, s1, i64_w, i32_w]
            rfl
          refine last_ (i := 20) (N := none) #[true, true, true, true, true, true, true, true, true, true, true, true, true, true, true, true, true, true, true, true, true, false, false, false, false] rfl rfl (by kernel_rfl) (by decide) (fun K hK => ?_)
          have hfz := HM6.out.x.frozen (i := 1)
          have hcl := HM6.out.x.at_ (i := 1) (by simp)
          refine skip_ (w1 := ?_) (by rfl) rfl ?_ ?_
          rotate_left
          · go_simp
            rfl
          refine hK.out _ _ ?_
          clear hK K
          have HM7 := Aside0.mk (HM6.out.put (i := 1) (v := yv) (by simp))
          clear hfz hcl HM6
          generalize w19.setCell ⟨gx, 1, none⟩ (.int .u32 yv) = w20 at HM7 ⊢
          refine pure_ (i := 21) (N := some 102) (v := ?_) (a' := ?_) #[true, true, true, true, true, true, true, true, true, true, true, true, true, true, true, true, true, true, true, true, true, true, false, false, false] rfl rfl (by kernel_rfl) (fun _ _ _ h => h) (Or.inl ⟨by rfl, ?_⟩) ?_ ?_
          rotate_left
          · intro w'
            go_simp
            with_reducible rfl
          rotate_left
          · simp only [Act.put, sT, s0, s1, i64_w, i32_w]
            rfl
          refine last_ (i := 22) (N := none) #[true, true, true, true, true, true, true, true, true, true, true, true, true, true, true, true, true, true, true, true, true, true, true, false, false] rfl rfl (by kernel_rfl) (by decide) (fun K hK => ?_)
          have hfz := HM7.out.x.frozen (i := 2)
          have hcl := HM7.out.x.at_ (i := 2) (by simp)
          refine skip_ (w1 := ?_) (by rfl) rfl ?_ ?_
          rotate_left
          · go_simp
            rfl
          refine hK.out _ _ ?_
          clear hK K
          have HM8 := Aside0.mk (HM7.out.put (i := 2) (v := x1) (by simp))
          clear hfz hcl HM7
          generalize w20.setCell ⟨gx, 2, none⟩ (.int .u32 x1) = w21 at HM8 ⊢
          refine pure_ (i := 23) (N := some 103) (v := ?_) (a' := ?_) #[true, true, true, true, true, true, true, true, true, true, true, true, true, true, true, true, true, true, true, true, true, true, true, true, false] rfl rfl (by kernel_rfl) (fun _ _ _ h => h) (Or.inl ⟨by rfl, ?_⟩) ?_ ?_
          rotate_left
          · intro w'
            go_simp
            with_reducible rfl
          rotate_left
          · simp only [Act.put, sT, s0, s1, i64_w, i32_w]
            rfl
          refine last_ (i := 24) (N := none) #[true, true, true, true, true, true, true, true, true, true, true, true, true, true, true, true, true, true, true, true, true, true, true, true, true] rfl rfl (by kernel_rfl) (by decide) (fun K hK => ?_)
          have hfz := HM8.out.x.frozen (i := 3)
          have hcl := HM8.out.x.at_ (i := 3) (by simp)
          refine skip_ (w1 := ?_) (by rfl) rfl ?_ ?_
          rotate_left
          · go_simp
            rfl
          refine hK.out _ _ ?_
          clear hK K
          have HM9 := Aside0.mk (HM8.out.put (i := 3) (v := x2) (by simp))
          clear hfz hcl HM8
          generalize w21.setCell ⟨gx, 3, none⟩ (.int .u32 x2) = w22 at HM9 ⊢
          refine done_ (by kernel_rfl) ?_
          go_wp2
          go_roundw
          case rel =>
            refine ⟨i + 1, x3, yv, x1, x2, hlt, by go_num, ?_, HM9.out⟩
            rw [bx, HX.out]
            unfold bstep u32w
            dsimp only
            rw [HKV.out, hgi, HMV.out, HFV.out, hii, hjj, hnn, Int.toNat_natCast, hmm, HYV.out]
          case measure => simp [intOf]; omega
        · obtain rfl : i = 64 := by omega
          clear hi hlt
          go_wp2
          go_loopw [105] (fun v105 wk => ∃ j : Nat, j ≤ 4 ∧ v105 = .int .i64 j ∧ MB w (bs [a0_0, a0_1, a0_2, a0_3] [x0, x1, x2, x3] j) (bm l1 16) g8 g9 g10 gx [x0, x1, x2, x3] wk) (fun v105 _ => 4 - (intOf v105).toNat)
          case atStart => exact ⟨0, Nat.zero_le _, rfl, HM1.out⟩
          case round =>
            obtain ⟨j, hj, rfl, hm⟩ := hrel
            have HM2 := Aside0.mk hm
            clear hm HM1
            by_cases hjt : j < 4
            · have hjt' : (j : Int) < 4 := by omega
              clear hj
              go_upto_region 25 with (fail)
              have hlt2 := Aside0.mk (show j < (bs [a0_0, a0_1, a0_2, a0_3] [x0, x1, x2, x3] j).length by rw [bs_length]; exact hjt)
              obtain ⟨sv, hsv⟩ : ∃ sv, (bs [a0_0, a0_1, a0_2, a0_3] [x0, x1, x2, x3] j).getD j 0 = sv := ⟨_, rfl⟩
              obtain ⟨xv, hxv⟩ : ∃ xv, ([x0, x1, x2, x3] : List Int).getD j 0 = xv := ⟨_, rfl⟩
              have hcs := HM2.out.bm.s.at_ hlt2.out
              have hcx := HM2.out.x.at_ (i := j) hjt
              rw [hsv] at hcs
              rw [hxv] at hcx
              have HSV := Aside0.mk hsv
              have HXV := Aside0.mk hxv
              clear hsv hxv
              refine start_ (n := 9) (S := fun w' => w'.cell? ⟨w.heap.size, j, none⟩ = some (.int .u32 sv) ∧ w'.cell? ⟨gx, j, none⟩ = some (.int .u32 xv)) (ds := [8]) #[false, false, false, false, false, false, false, false, false] (by kernel_rfl) rfl rfl ⟨hcs, hcx⟩ (fun hHeld => ?_)
              clear hcs hcx
              have HM3 := Aside0.mk (HM2.out.keep (pD (Below.refl _ _)))
              clear HM2
              generalize wr.drew = w16 at HM3 hHeld ⊢
              refine pure_ (i := 0) (N := some 108) (v := ?_) (a' := ?_) #[true, false, false, false, false, false, false, false, false] rfl rfl (by kernel_rfl) (fun _ _ _ h => h) (Or.inl ⟨by rfl, ?_⟩) ?_ ?_
              rotate_left
              · intro w'
                go_simp
                with_reducible rfl
              rotate_left
              · simp only [Act.put, sT, s0, s1, i64_w, i32_w]
                rfl
              refine pure_ (i := 1) (N := some 109) (v := ?_) (a' := ?_) #[true, true, false, false, false, false, false, false, false] rfl rfl (by kernel_rfl) (fun _ _ _ h => h) (Or.inl ⟨by rfl, ?_⟩) ?_ ?_
              rotate_left
              · intro w'
                go_simp
                with_reducible rfl
              rotate_left
              · simp only [Act.put, sT, s0, s1, i64_w, i32_w]
                rfl
              refine take_ (i := 2) (N := some 110) (v := ?_) (a' := ?_) #[true, true, true, false, false, false, false, false, false] rfl rfl (by kernel_rfl) (fun _ _ _ h => h) (Or.inl ⟨by rfl, ?_⟩) hHeld ?_ ?_
              rotate_left
              · rintro w' ⟨c0, c1⟩
                go_simp
                with_reducible rfl
              rotate_left
              · simp only [Act.put, sT, s0, s1, i64_w, i32_w]
                rfl
              refine pure_ (i := 3) (N := some 111) (v := ?_) (a' := ?_) #[true, true, true, true, false, false, false, false, false] rfl rfl (by kernel_rfl) (fun _ _ _ h => h) (Or.inl ⟨by rfl, ?_⟩) ?_ ?_
              rotate_left
              · intro w'
                go_simp
                with_reducible rfl
              rotate_left
              · simp only [Act.put, sT, s0, s1, i64_w, i32_w]
                rfl
              refine pure_ (i := 4) (N := some 112) (v := ?_) (a' := ?_) #[true, true, true, true, true, false, false, false, false] rfl rfl (by kernel_rfl) (fun _ _ _ h => h) (Or.inl ⟨by rfl, ?_⟩) ?_ ?_
              rotate_left
              · intro w'
                go_simp
                with_reducible rfl
              rotate_left
              · simp only [Act.put, sT, s0, s1, i64_w, i32_w]
                rfl
              refine take_ (i := 5) (N := some 113) (v := ?_) (a' := ?_) #[true, true, true, true, true, true, false, false, false] rfl rfl (by kernel_rfl) (fun _ _ _ h => h) (Or.inl ⟨by rfl, ?_⟩) hHeld ?_ ?_
              rotate_left
              · rintro w' ⟨c0, c1⟩
                go_simp
                with_reducible rfl
              rotate_left
              · simp only [Act.put, sT, s0, s1, i64_w, i32_w]
                rfl
              refine pure_ (i := 6) (N := some 114) (v := ?_) (a' := ?_) #[true, true, true, true, true, true, true, false, false] rfl rfl (by kernel_rfl) (fun _ _ _ h => h) (Or.inl ⟨by rfl, ?_⟩) ?_ ?_
              rotate_left
              · intro w'
                go_simp
                with_reducible rfl
              rotate_left
              · simp only [Act.put, sT, s0, s1, i64_w, i32_w]
                rfl
              refine pure_ (i := 7) (N := some 115) (v := ?_) (a' := ?_) #[true, true, true, true, true, true, true, true, false] rfl rfl (by kernel_rfl) (fun _ _ _ h => h) (Or.inl ⟨by rfl, ?_⟩) ?_ ?_
              rotate_left
              · intro w'
                go_simp
                with_reducible rfl
              rotate_left
              · simp only [Act.put, sT, s0, s1, i64_w, i32_w]
                rfl
              refine last_ (i := 8) (N := none) #[true, true, true, true, true, true, true, true, true] rfl rfl (by kernel_rfl) (by decide) (fun K hK => ?_)
              have hfz := HM3.out.bm.s.frozen (i := j)
              have hcl := hHeld.1
              refine skip_ (w1 := ?_) (by rfl) rfl ?_ ?_
              rotate_left
              · go_simp
                rfl
              refine hK.out _ _ ?_
              clear hK K
              have HM4 := Aside0.mk (HM3.out.sput hlt2.out (v := IntKind.u32.wrap (sv + xv)))
              clear hfz hcl hHeld HM3
              refine done_ (by kernel_rfl) ?_
              go_wp2
              go_roundw
              case rel => exact ⟨j + 1, hjt, by go_num, by rw [bs, HSV.out, HXV.out]; exact HM4.out⟩
              case measure => simp [intOf]; omega
            · obtain rfl : j = 4 := by omega
              clear hj hjt
              rw [show bs [a0_0, a0_1, a0_2, a0_3] [x0, x1, x2, x3] 4 = [u32w (a0_0 + x0), u32w (a0_1 + x1), u32w (a0_2 + x2), u32w (a0_3 + x3)] from rfl] at HM2
              obtain ⟨hs0, hs1, hs2, hs3, hf0, hf1, hf2, hf3⟩ := bk4 HM2.out.bm.s
              have hz := HM2.out.bm.z
              unfold Nums at hz
              go_wp2_with (refine wpList_store_rowTo rfl 64 (.tmp 4) (.tmp 117) rfl rfl (w.heap.size + 1) #[.int .u32 (u32w (a0_0 + x0)), .int .u32 (u32w (a0_1 + x1)), .int .u32 (u32w (a0_2 + x2)), .int .u32 (u32w (a0_3 + x3))] rfl rfl 64 _ hz (by kernel_rfl) (by rfl) (by kernel_rfl) ?_)
              refine bodyPost_ret (results_cell_row rfl _ _ (w.heap.size + 1) 64 #[.int .u32 (u32w (a0_0 + x0)), .int .u32 (u32w (a0_1 + x1)), .int .u32 (u32w (a0_2 + x2)), .int .u32 (u32w (a0_3 + x3))] (0, 0) _ rfl (setRow_heap _ _ _ _ 64 (0, 0) hz) Try.underlying64 rfl (by kernel_rfl)) rfl ?_
              have h4 := HR4.out
              unfold md5_Block.fin at h4
              rw [HX.out] at h4
              simp only [Prod.mk.injEq] at h4
              obtain ⟨rfl, rfl, rfl, rfl⟩ := h4
              exact ⟨rfl, below_setRow HM2.out.bm.below (by omega) _⟩
def md5_Block.f (k : Nat) (a0_0 : Int) (a0_1 : Int) (a0_2 : Int) (a0_3 : Int) (l1 : List Int) : Option (Int × Int × Int × Int) := if 64 ≤ l1.length then some (md5_Block.fin a0_0 a0_1 a0_2 a0_3 l1) else none
theorem md5_Block.mono : ∀ (a0_0 a0_1 a0_2 a0_3 : Int) (l1 : List Int) (k : Nat), LeO (md5_Block.f k a0_0 a0_1 a0_2 a0_3 l1) (md5_Block.f (k + 1) a0_0 a0_1 a0_2 a0_3 l1) := fun _ _ _ _ _ _ => LeO.refl _
theorem md5_Block.calls (k : Nat) (a0_0 : Int) (a0_1 : Int) (a0_2 : Int) (a0_3 : Int) (A1 : Option Addr) (c1 : Nat) (l1 : List Int) (r1 : Int) (r2 : Int) (r3 : Int) (r4 : Int) (w : World) (hr1 : Kd.C (Kd.int .u8) w A1 l1.length l1) (hc1 : l1.length ≤ c1) (h : md5_Block.f k a0_0 a0_1 a0_2 a0_3 l1 = some (r1, r2, r3, r4)) :
    Calls Try.prog 32 #[.agg #[.int .u32 a0_0, .int .u32 a0_1, .int .u32 a0_2, .int .u32 a0_3], .slice A1 l1.length c1] w fun e w' => e = .returned (.agg #[.int .u32 r1, .int .u32 r2, .int .u32 r3, .int .u32 r4]) ∧ Below w.heap.size w w' := by
  unfold md5_Block.f at h
  split at h
  · rename_i hl
    exact md5_Block.walk a0_0 a0_1 a0_2 a0_3 A1 c1 l1 w hr1 hc1 hl r1 r2 r3 r4 (Option.some.inj h)
  · cases h

end Go.Proofs.Ytpbkdphilcodmaa.Q
