-- written by this session's own program (wip/tools/myprint.py), over the kit's print
import Derived.Test.YtfnmlhcpolfjaaaQx0
import Derived.Test.YtfnmlhcpolfjaaaQx2
import Derived.Test.YtfnmlhcpolfjaaaQx3
import Derived.Test.YtfnmlhcpolfjaaaQx5
import Derived.Lib.SlBytesConst
namespace Go.Proofs.Ytfnmlhcpolfjaaa.Q
open Go.RowKit Go.Proofs.YtfnmlhcpolfjaaaW.PrintWords Go.Proofs.YtfnmlhcpolfjaaaW.PrintLast Go.Proofs.YtfnmlhcpolfjaaaW.PrintMore
open Go.Proofs.YtfnmlhcpolfjaaaV
attribute [local go_sem] max2_int min2_int max_two min_two max_three min_three max_four min_four   -- for this text's walks alone
set_option linter.unusedVariables false
set_option linter.unusedSimpArgs false

/-! The document's example of layer 1: it holds. -/
def portreevelaw01_shown.f (k : Nat) : Option (Bool) := if 60 ≤ k then some true else none
theorem portreevelaw01_shown.mono : ∀ k, LeO (portreevelaw01_shown.f k) (portreevelaw01_shown.f (k + 1)) := by
  intro k r h
  unfold portreevelaw01_shown.f at h ⊢
  by_cases hk : 60 ≤ k
  · rw [if_pos hk] at h
    rw [if_pos (by omega)]
    exact h
  · rw [if_neg hk] at h
    cases h
theorem shown01_up {α : Type} {g : Nat → Option α} (hm : ∀ k, LeO (g k) (g (k + 1))) {k m : Nat} {r : α} (h : g k = some r) (hkm : k ≤ m) : g m = some r := by
  induction hkm with
  | refl => exact h
  | step _ ih => exact hm _ r ih
theorem shown01_const (w : World) (fr : Nat × Nat) : Kd.C (Kd.int .u8) (w.alloc (.cells #[.int .u8 49, .int .u8 50, .int .u8 51, .int .u8 52, .int .u8 53, .int .u8 54, .int .u8 55, .int .u8 56, .int .u8 57] 5 fr)) (some ⟨w.heap.size, 0, none⟩) 9 [49, 50, 51, 52, 53, 54, 55, 56, 57] := by
  refine Kd.C_of_reads (d := (0 : Int)) (h1 := fun _ => rfl) ⟨rfl, by decide, fun _ => ⟨_, rfl, fun i hi => ?_⟩⟩
  have e : Addr.add ⟨w.heap.size, 0, none⟩ i = ⟨w.heap.size, i, none⟩ := by
    unfold Addr.add
    split
    · rename_i h0
      subst h0
      rfl
    · simp
  rw [e, World.cell?_alloc_mark]
  have hi' : i = 0 ∨ i = 1 ∨ i = 2 ∨ i = 3 ∨ i = 4 ∨ i = 5 ∨ i = 6 ∨ i = 7 ∨ i = 8 := by omega
  rcases hi' with rfl | rfl | rfl | rfl | rfl | rfl | rfl | rfl | rfl <;> rfl
set_option maxHeartbeats 2000000 in
set_option maxRecDepth 100000 in
theorem portreevelaw01_shown.calls (k : Nat) (r : Bool) (w : World) (h : portreevelaw01_shown.f k = some r) :
    Calls Try.prog 9 #[] w fun e w' => e = .returned (.bool r) ∧ Below w.heap.size w w' := by
  obtain ⟨hk, rfl⟩ : 60 ≤ k ∧ true = r := by
    unfold portreevelaw01_shown.f at h
    split at h
    · exact ⟨by assumption, Option.some.inj h⟩
    · cases h
  clear h
  obtain ⟨y, t117, hyl, hyc, A1, A2, A8, A22, f1, f2, f3, f4⟩ : ∃ y t117 : List Int, y.length = 9 ∧ (∀ fr : Nat × Nat, Kd.C (Kd.int .u8) (w.alloc (.cells #[.int .u8 49, .int .u8 50, .int .u8 51, .int .u8 52, .int .u8 53, .int .u8 54, .int .u8 55, .int .u8 56, .int .u8 57] 5 fr)) (some ⟨w.heap.size, 0, none⟩) 9 y) ∧ fcs_Put.f k y = some t117 ∧ fcs_Cut.f k t117 = some ([49, 50, 51, 52, 53, 54, 55, 56, 57], 0) ∧ fcs_Good.f k t117 = some true ∧ fcs_On.f k 65535 t117 = some 61624 ∧ t117.length = 11 ∧ rd t117 9 = 110 ∧ rd t117 10 = 144 ∧ fcs_Good.f k y = some false := by
    refine ⟨[49, 50, 51, 52, 53, 54, 55, 56, 57], [49, 50, 51, 52, 53, 54, 55, 56, 57, 110, 144], rfl, fun fr => shown01_const w fr, ?_, ?_, ?_, ?_, rfl, rfl, rfl, ?_⟩
    · exact shown01_up (fcs_Put.mono _) (show fcs_Put.f 60 [49, 50, 51, 52, 53, 54, 55, 56, 57] = _ by decide +kernel) hk
    · exact shown01_up (fcs_Cut.mono _) (show fcs_Cut.f 60 [49, 50, 51, 52, 53, 54, 55, 56, 57, 110, 144] = _ by decide +kernel) hk
    · exact shown01_up (fcs_Good.mono _) (show fcs_Good.f 60 [49, 50, 51, 52, 53, 54, 55, 56, 57, 110, 144] = _ by decide +kernel) hk
    · exact shown01_up (fcs_On.mono _ _) (show fcs_On.f 60 65535 [49, 50, 51, 52, 53, 54, 55, 56, 57, 110, 144] = _ by decide +kernel) hk
    · exact shown01_up (fcs_Good.mono _) (show fcs_Good.f 60 [49, 50, 51, 52, 53, 54, 55, 56, 57] = _ by decide +kernel) hk
  have A20 : fcs_Step.f k 0 1 = some 4489 := shown01_up (fcs_Step.mono _ _) (show fcs_Step.f 60 0 1 = _ by decide +kernel) hk
  have A1 := Aside0.mk A1
  have A2 := Aside0.mk A2
  have A8 := Aside0.mk A8
  have A10 := Aside0.mk f4
  have A20 := Aside0.mk A20
  have A22 := Aside0.mk A22
  have L1 := Aside0.mk f1
  have c1 : ((t117.length : Int) == 11) = true := by rw [f1]; rfl
  have c2 : (rd t117 9 == 110) = true := by rw [f2]; rfl
  have c4 : ((strOfNums [49, 50, 51, 52, 53, 54, 55, 56, 57]).toList == ([49, 50, 51, 52, 53, 54, 55, 56, 57] : List UInt8)) = true := by decide +kernel
  have c3 : (rd t117 10 == 144) = true := by rw [f3]; rfl
  clear f1 f2 f3 f4 hk
  have kc := fun (w : World) (C : Array Value) (n c : Nat) => Lib.run_convert_bytes_const (P := Try.prog) w 23 5 C n c Try.underlying23 Try.underlying5
  have HP := Aside0.mk (fun (W : World) (hC : Kd.C (Kd.int .u8) W (some ⟨w.heap.size, 0, none⟩) 9 y) => by
    have z := fcs_Put.calls k (some ⟨w.heap.size, 0, none⟩) 9 y t117 W (by rw [hyl]; exact hC) (by omega) A1.out
    rw [hyl] at z
    exact z)
  have HG := Aside0.mk (fun (W : World) (hC : Kd.C (Kd.int .u8) W (some ⟨w.heap.size, 0, none⟩) 9 y) => by
    have z := fcs_Good.calls k (some ⟨w.heap.size, 0, none⟩) 9 y false W (by rw [hyl]; exact hC) (by omega) A10.out
    rw [hyl] at z
    exact z)
  have HC := Aside0.mk (hyc (9, 10))
  clear hyc hyl
  have HB := Aside0.mk ((Below.refl w.heap.size w).alloc (Nat.le_refl _) (.cells #[.int .u8 49, .int .u8 50, .int .u8 51, .int .u8 52, .int .u8 53, .int .u8 54, .int .u8 55, .int .u8 56, .int .u8 57] 5 (9, 10)))
  go_enter Try.func9, Try.ntmps9
  go_wp2_with (first
    | (go_at_call 17; (with_reducible refine (HP.out _ HC.out).mono ?_); rintro e w1 ⟨v1, rfl, ho1, hb1⟩; have HO := Aside0.mk ho1; have HC1 := Aside0.mk (Kd.C_below HC.out hb1); have HB1 := Aside0.mk (below_step HB.out hb1); clear HB HC; have HB := HB1; have HC := HC1; clear HB1 HC1 ho1 hb1; obtain ⟨Ao, co, eo⟩ := Kd.R_slice HO.out; subst eo)
    | (go_at_call 10; (with_reducible refine (fcs_Cut.calls k _ _ t117 [49, 50, 51, 52, 53, 54, 55, 56, 57] 0 _ (Kd.R_reads' HO.out).2.2 (Kd.R_reads' HO.out).2.1 A2.out).mono ?_); rintro e w2 ⟨v2, rfl, ho2, hb2⟩; have HO1 := Aside0.mk (Kd.R_elder' HO.out (Kd.R_base ho2) hb2); have HO2 := Aside0.mk ho2; have HC1 := Aside0.mk (Kd.C_below HC.out hb2); have HB1 := Aside0.mk (below_step HB.out hb2); clear HB HC HO; have HB := HB1; have HC := HC1; have HO := HO1; clear HB1 HC1 HO1 ho2 hb2; have p124 : 0 ≤ (9 : Int) := (by omega); have q124 : 9 < (t117.length : Int) := (by have := L1.out; omega); obtain ⟨ad124, e124, hx124_0⟩ := Kd.at_int (Kd.R_reads' HO.out).2.2 9 p124 q124; cases e124; (try simp only [show (9 : Int).toNat = 9 from rfl, Nat.reduceMul, Nat.reduceEqDiff, Go.Addr.add, ↓reduceIte] at hx124_0); have qi124 : (9 < t117.length) = True := eq_true (by omega); (try rw [show ((9 : Int)).toNat = 9 from rfl] at hx124_0); replace p124 := eq_true p124; replace q124 := eq_true q124; have p125 : 0 ≤ (10 : Int) := (by omega); have q125 : 10 < (t117.length : Int) := (by have := L1.out; omega); obtain ⟨ad125, e125, hx125_0⟩ := Kd.at_int (Kd.R_reads' HO.out).2.2 10 p125 q125; obtain rfl : ad124 = ad125 := (by injection e125); (try simp only [show (10 : Int).toNat = 10 from rfl, Nat.reduceMul, Nat.reduceEqDiff, Go.Addr.add, ↓reduceIte] at hx125_0); have qi125 : (10 < t117.length) = True := eq_true (by omega); (try rw [show ((10 : Int)).toNat = 10 from rfl] at hx125_0); replace p125 := eq_true p125; replace q125 := eq_true q125; have hcv29 := fun (m : Nat) => own_string (P := Try.prog) Try.underlying23 Try.underlying5 Try.underlying9 (Kd.own_of_R (Kd.R_drewN HO2.out m)))
    | (go_at_call 19; (with_reducible refine (fcs_Good.calls k _ _ t117 true _ ?side1 ?side2 A8.out).mono ?_); (case side1 => repeat (first | exact (Kd.R_reads' HO.out).2.2 | (with_reducible refine Kd.C_alloc ?_ _) | (with_reducible refine Kd.C_drewN ?_ _) | (with_reducible refine Kd.C_drew ?_))); (case side2 => exact (Kd.R_reads' HO.out).2.1); rintro e w' ⟨rfl, ⟨nd, rfl⟩⟩)
    | (go_at_call 19; (with_reducible refine (HG.out _ ?side1).mono ?_); (case side1 => repeat (first | exact HC.out | (with_reducible refine Kd.C_alloc ?_ _) | (with_reducible refine Kd.C_drewN ?_ _) | (with_reducible refine Kd.C_drew ?_))); rintro e w' ⟨rfl, ⟨nd, rfl⟩⟩)
    | (go_at_call 12; (with_reducible refine (fcs_Step.calls k 0 1 4489 _ A20.out).mono ?_); rintro e w' ⟨rfl, ⟨nd, rfl⟩⟩)
    | (go_at_call 14; (with_reducible refine (fcs_On.calls k 65535 _ _ t117 61624 _ ?side1 ?side2 A22.out).mono ?_); (case side1 => repeat (first | exact (Kd.R_reads' HO.out).2.2 | (with_reducible refine Kd.C_alloc ?_ _) | (with_reducible refine Kd.C_drewN ?_ _) | (with_reducible refine Kd.C_drew ?_))); (case side2 => exact (Kd.R_reads' HO.out).2.1); rintro e w' ⟨rfl, ⟨nd, rfl⟩⟩))
  go_ret
  exact ⟨by first | rfl | (simp; done), by repeat (first | exact HB.out | apply pA | apply pN | apply pD)⟩

end Go.Proofs.Ytfnmlhcpolfjaaa.Q
