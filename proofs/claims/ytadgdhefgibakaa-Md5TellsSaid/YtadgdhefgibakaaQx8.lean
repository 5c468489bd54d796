-- written by this session's own program (wip/tools/myprint.py), over the kit's print
import Derived.Test.YtadgdhefgibakaaQx0
import Derived.Test.YtadgdhefgibakaaQx3
import Derived.Test.YtadgdhefgibakaaQx6
import Derived.Test.YtadgdhefgibakaaQx7
import Derived.Lib.SlBytesConst
namespace Go.Proofs.Ytadgdhefgibakaa.Q
open Go.RowKit Go.Proofs.YtadgdhefgibakaaW.PrintWords Go.Proofs.YtadgdhefgibakaaW.PrintLast Go.Proofs.YtadgdhefgibakaaW.PrintMore
open Go.Proofs.YtadgdhefgibakaaV
attribute [local go_sem] max2_int min2_int max_two min_two max_three min_three max_four min_four   -- for this text's walks alone
set_option linter.unusedVariables false
set_option linter.unusedSimpArgs false

/-! The examples at the head of all statements of layer 2: they hold. -/
def portreevelaw02_shown.f (k : Nat) : Option (Bool) := if 100 ≤ k then some true else none
theorem portreevelaw02_shown.mono : ∀ k, LeO (portreevelaw02_shown.f k) (portreevelaw02_shown.f (k + 1)) := by
  intro k r h
  unfold portreevelaw02_shown.f at h ⊢
  by_cases hk : 100 ≤ k
  · rw [if_pos hk] at h
    rw [if_pos (by omega)]
    exact h
  · rw [if_neg hk] at h
    cases h
theorem shown02_up {α : Type} {g : Nat → Option α} (hm : ∀ k, LeO (g k) (g (k + 1))) {k m : Nat} {r : α} (h : g k = some r) (hkm : k ≤ m) : g m = some r := by
  induction hkm with
  | refl => exact h
  | step _ ih => exact hm _ r ih
theorem shown02_const (w : World) (g : Nat) (hg : w.heap.size = g) (fr : Nat × Nat) : Kd.C (Kd.int .u8) (w.alloc (.cells #[.int .u8 97, .int .u8 98, .int .u8 99] 5 fr)) (some ⟨g, 0, none⟩) 3 [97, 98, 99] := by
  subst hg
  refine Kd.C_of_reads (d := (0 : Int)) (h1 := fun _ => rfl) ⟨rfl, by decide, fun _ => ⟨_, rfl, fun i hi => ?_⟩⟩
  have e : Addr.add ⟨w.heap.size, 0, none⟩ i = ⟨w.heap.size, i, none⟩ := by
    unfold Addr.add
    split
    · rename_i h0
      subst h0
      rfl
    · simp
  rw [e, World.cell?_alloc_mark]
  have hi' : i = 0 ∨ i = 1 ∨ i = 2 := by omega
  rcases hi' with rfl | rfl | rfl <;> rfl
theorem shown02_sum {l p o : List Int} {r : Int × Int × Int × Int × Int × Int × Int × Int × Int × Int × Int × Int × Int × Int × Int × Int} (h1 : md5_Pad.f 100 l = some p) (hl : p.length = 64) (h2 : md5_Sum.outs (md5_Sum.st p (List.range 1)) 16 = o) (h3 : tup16 o = r) : md5_Sum.f 100 l = some r := by
  subst h3
  subst h2
  unfold md5_Sum.f
  rw [h1]
  show (if p.length % 64 = 0 ∧ 0 < p.length ∧ p.length ≤ 140737488355328 then some (tup16 (md5_Sum.outs (md5_Sum.st p (List.range (p.length / 64))) 16)) else none) = _
  rw [hl, if_pos (by decide)]
theorem shown02_nil : md5_Sum.f 100 [] = some (212, 29, 140, 217, 143, 0, 178, 4, 233, 128, 9, 152, 236, 248, 66, 126) := shown02_sum (p := ([128] ++ List.replicate 55 0 ++ [0, 0, 0, 0, 0, 0, 0, 0])) (o := [212, 29, 140, 217, 143, 0, 178, 4, 233, 128, 9, 152, 236, 248, 66, 126]) (by decide +kernel) (by decide +kernel) (by decide +kernel) rfl
theorem shown02_abc : md5_Sum.f 100 [97, 98, 99] = some (144, 1, 80, 152, 60, 210, 79, 176, 214, 150, 63, 125, 40, 225, 127, 114) := shown02_sum (p := ([97, 98, 99, 128] ++ List.replicate 52 0 ++ [24, 0, 0, 0, 0, 0, 0, 0])) (o := [144, 1, 80, 152, 60, 210, 79, 176, 214, 150, 63, 125, 40, 225, 127, 114]) (by decide +kernel) (by decide +kernel) (by decide +kernel) rfl
theorem shown02_pad : md5_Pad.f 100 [] = some ([128] ++ List.replicate 55 0 ++ [0, 0, 0, 0, 0, 0, 0, 0]) := by decide +kernel
set_option maxHeartbeats 2000000 in
set_option maxRecDepth 100000 in
theorem portreevelaw02_shown.calls (k : Nat) (r : Bool) (w : World) (h : portreevelaw02_shown.f k = some r) :
    Calls Try.prog 8 #[] w fun e w' => e = .returned (.bool r) ∧ Below w.heap.size w w' := by
  obtain ⟨hk, rfl⟩ : 100 ≤ k ∧ true = r := by
    unfold portreevelaw02_shown.f at h
    split at h
    · exact ⟨by assumption, Option.some.inj h⟩
    · cases h
  clear h
  have A1 := Aside0.mk (shown02_up (md5_Sum.mono _) shown02_nil hk)
  have A2 := Aside0.mk (shown02_up (md5_Sum.mono _) shown02_abc hk)
  obtain ⟨t3, h3, hl3⟩ : ∃ t3, md5_Pad.f k [] = some t3 ∧ ((t3.length : Int) == 64) = true := ⟨([128] ++ List.replicate 55 0 ++ [0, 0, 0, 0, 0, 0, 0, 0]), shown02_up (md5_Pad.mono _) shown02_pad hk, by decide +kernel⟩
  have A3 := Aside0.mk h3
  clear h3 hk
  have HS1 := Aside0.mk (show ∀ W : World, Calls Try.prog 9 #[.slice none 0 0] W fun e w' => e = .returned (.agg #[.int .u8 212, .int .u8 29, .int .u8 140, .int .u8 217, .int .u8 143, .int .u8 0, .int .u8 178, .int .u8 4, .int .u8 233, .int .u8 128, .int .u8 9, .int .u8 152, .int .u8 236, .int .u8 248, .int .u8 66, .int .u8 126]) ∧ Below W.heap.size W w' from fun W => md5_Sum.calls k none 0 [] 212 29 140 217 143 0 178 4 233 128 9 152 236 248 66 126 W (Kd.C_nil _ _) (Nat.le_refl _) A1.out)
  have HS2 := Aside0.mk (show ∀ (W : World) (A : Option Addr) (hC : Kd.C (Kd.int .u8) W A 3 [97, 98, 99]), Calls Try.prog 9 #[.slice A 3 3] W fun e w' => e = .returned (.agg #[.int .u8 144, .int .u8 1, .int .u8 80, .int .u8 152, .int .u8 60, .int .u8 210, .int .u8 79, .int .u8 176, .int .u8 214, .int .u8 150, .int .u8 63, .int .u8 125, .int .u8 40, .int .u8 225, .int .u8 127, .int .u8 114]) ∧ Below W.heap.size W w' from fun W A hC => md5_Sum.calls k A 3 [97, 98, 99] 144 1 80 152 60 210 79 176 214 150 63 125 40 225 127 114 W hC (Nat.le_refl _) A2.out)
  have HS3 := Aside0.mk (show ∀ W : World, Calls Try.prog 12 #[.slice none 0 0] W fun e w' => ∃ v0_ : Value, e = .returned (v0_) ∧ Kd.R (Kd.int .u8) 5 w' W.heap.size (fun _ => True) v0_ t3 ∧ Below W.heap.size W w' from fun W => md5_Pad.calls k none 0 [] t3 W (Kd.C_nil _ _) (Nat.le_refl _) A3.out)
  clear A1 A2 A3
  have kc := fun (w : World) (C : Array Value) (n c g : Nat) (hg : w.heap.size = g) => (show (convert 22 22 (.slice (some ⟨g, 0, none⟩) n c)).run Try.prog (w.alloc (.cells C 5)) = .ok (.slice (some ⟨g, 0, none⟩) n c) (w.alloc (.cells C 5 (C.size, C.size + 1))) from by subst hg; exact Lib.run_convert_bytes_const (P := Try.prog) w 22 5 C n c Try.underlying22 Try.underlying5)
  go_enter Try.func8, Try.ntmps8
  go_upto_region 2 with (first
    | (go_at_call 9; (with_reducible refine (HS1.out _).mono ?_); rintro e w1 ⟨rfl, hb1⟩; have HB := Aside0.mk hb1; clear hb1))
  go_upto_region 3 with (first
    | (go_at_call 9; (with_reducible refine (HS2.out _ _ (shown02_const _ _ (by simp) _)).mono ?_); rintro e w2 ⟨rfl, hb2⟩; have HB2 := Aside0.mk (below_step (pA (pA HB.out _) _) hb2); have HX := Aside0.mk ((hb2.block w1.heap.size (by simp; omega)).trans (blk_alloc (heap_alloc_new w1 (.cells #[.int .u8 212, .int .u8 29, .int .u8 140, .int .u8 217, .int .u8 143, .int .u8 0, .int .u8 178, .int .u8 4, .int .u8 233, .int .u8 128, .int .u8 9, .int .u8 152, .int .u8 236, .int .u8 248, .int .u8 66, .int .u8 126] 26)) _)); clear HB hb2; have HB := HB2; clear HB2))
  have HB3 := Aside0.mk (pA HB.out (.cells #[.int .u8 144, .int .u8 1, .int .u8 80, .int .u8 152, .int .u8 60, .int .u8 210, .int .u8 79, .int .u8 176, .int .u8 214, .int .u8 150, .int .u8 63, .int .u8 125, .int .u8 40, .int .u8 225, .int .u8 127, .int .u8 114] 26))
  clear HB
  obtain ⟨x0, x1, x2, x3, x4, x5, x6, x7, x8, x9, x10, x11, x12, x13, x14, x15, p0, p1, p2, p3, p4, p5, p6, p7, p8, p9, p10, p11, p12, p13, p14, p15⟩ := bk16 (blk_alloc HX.out (.cells #[.int .u8 144, .int .u8 1, .int .u8 80, .int .u8 152, .int .u8 60, .int .u8 210, .int .u8 79, .int .u8 176, .int .u8 214, .int .u8 150, .int .u8 63, .int .u8 125, .int .u8 40, .int .u8 225, .int .u8 127, .int .u8 114] 26))
  obtain ⟨y0, y1, y2, y3, y4, y5, y6, y7, y8, y9, y10, y11, y12, y13, y14, y15, q0, q1, q2, q3, q4, q5, q6, q7, q8, q9, q10, q11, q12, q13, q14, q15⟩ := bk16 (heap_alloc_new w2 (.cells #[.int .u8 144, .int .u8 1, .int .u8 80, .int .u8 152, .int .u8 60, .int .u8 210, .int .u8 79, .int .u8 176, .int .u8 214, .int .u8 150, .int .u8 63, .int .u8 125, .int .u8 40, .int .u8 225, .int .u8 127, .int .u8 114] 26))
  clear HX
  generalize w2.alloc (.cells #[.int .u8 144, .int .u8 1, .int .u8 80, .int .u8 152, .int .u8 60, .int .u8 210, .int .u8 79, .int .u8 176, .int .u8 214, .int .u8 150, .int .u8 63, .int .u8 125, .int .u8 40, .int .u8 225, .int .u8 127, .int .u8 114] 26) = w3 at x0 x1 x2 x3 x4 x5 x6 x7 x8 x9 x10 x11 x12 x13 x14 x15 p0 p1 p2 p3 p4 p5 p6 p7 p8 p9 p10 p11 p12 p13 p14 p15 y0 y1 y2 y3 y4 y5 y6 y7 y8 y9 y10 y11 y12 y13 y14 y15 q0 q1 q2 q3 q4 q5 q6 q7 q8 q9 q10 q11 q12 q13 q14 q15 HB3 ⊢
  have hS := fun W : World => md5_Same.calls 212 29 140 217 143 0 178 4 233 128 9 152 236 248 66 126 212 29 140 217 143 0 178 4 233 128 9 152 236 248 66 126 true W (by rfl)
  go_wp2_with (first
    | (go_at_call 16; (with_reducible refine (hS _).mono ?_); rintro e w5 ⟨rfl, hb5⟩; have HB5 := Aside0.mk (below_step HB3.out hb5); clear HB3 hb5; have HB3 := HB5; clear HB5)
    | (go_at_call 12; (with_reducible refine (HS3.out _).mono ?_); rintro e w4 ⟨v4, rfl, ho4, hb4⟩; obtain ⟨A4, c4, rfl⟩ := Kd.R_slice ho4; have HB4 := Aside0.mk (below_step (by repeat (first | exact HB3.out | apply pA | apply pN | apply pD)) hb4); clear ho4 hb4))
  go_ret
  exact ⟨by first | rfl | (simp; done), by repeat (first | exact HB4.out | apply pA | apply pN | apply pD)⟩

end Go.Proofs.Ytadgdhefgibakaa.Q
