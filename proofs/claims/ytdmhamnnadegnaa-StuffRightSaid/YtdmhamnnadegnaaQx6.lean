-- written by this session's own program (wip/tools/myprint.py), over the kit's print
import Derived.Test.YtdmhamnnadegnaaQx0
import Derived.Test.YtdmhamnnadegnaaQx1
import Derived.Test.YtdmhamnnadegnaaQx3
import Derived.Test.YtdmhamnnadegnaaQx4
import Derived.Test.YtdmhamnnadegnaaQx5
namespace Go.Proofs.Ytdmhamnnadegnaa.Q
open Go.RowKit Go.Proofs.YtdmhamnnadegnaaW.PrintWords Go.Proofs.YtdmhamnnadegnaaW.PrintLast Go.Proofs.YtdmhamnnadegnaaW.PrintMore
open Go.Proofs.YtdmhamnnadegnaaV
attribute [local go_sem] max2_int min2_int max_two min_two max_three min_three max_four min_four   -- for this text's walks alone
set_option linter.unusedVariables false
set_option linter.unusedSimpArgs false

/-! ### portreevelaw07_shown_g: function 10 -/
def portreevelaw07_shown_g.f (k : Nat)  : Option (Bool) := (stuff_Send.f k (([126] : List Int)) 0).bind fun t157 => ((some (([1, 2] : List Int) : List Int)).bind fun y160 => (if y160.length + t157.length < 140737488355328 then ((stuff_All.f k (y160 ++ t157)).bind fun t166 => ((stuff_Feed.f k (([7] : List Int)) false 126).bind fun bt172 => (if (t157.length : Int) = 4 then (if 1 ≤ 3 then (if 3 ≤ (t157.length : Int) then ((stuff_Plain.f k ((t157.take 3).drop 1)).bind fun bt185 => (if 1 < (t157.length : Int) then (if (rd t157 1) = 125 then (if 2 < (t157.length : Int) then (if (rd t157 2) = 94 then (if (t166.length : Int) = 2 then (if 1 < (t166.length : Int) then (if ((rd_L2 t166 1).length : Int) = 1 then (if 0 < ((rd_L2 t166 1).length : Int) then (if (rd (rd_L2 t166 1) 0) = 126 then (if bt172.2.2.2 = true then (if (bt172.2.2.1.length : Int) = 1 then (if (bt172.1.length : Int) = 0 then (if bt185.2 = 0 then (if (bt185.1.length : Int) = 1 then ((stuff_Same.f bt172.1 bt172.2.1 bt172.1 bt172.2.1).bind fun t194 => (if t194 = true then ((stuff_Escape.f k (([3] : List Int)) 8).bind fun t198 => (some ((t198.length : Int) == 2))) else (some false))) else (some false)) else (some false)) else (some false)) else (some false)) else (some false)) else (some false)) else (none)) else (some false)) else (none)) else (some false)) else (some false)) else (none)) else (some false)) else (none))) else (none)) else (none)) else (some false)))) else (none)))
theorem portreevelaw07_shown_g.mono : ∀ k, LeO (portreevelaw07_shown_g.f k ) (portreevelaw07_shown_g.f (k + 1) ) := by
  intro  k
  unfold portreevelaw07_shown_g.f
  repeat' first
      | (with_reducible exact stuff_All.mono _ _)
      | (with_reducible exact stuff_Escape.mono _ _ _)
      | (with_reducible exact stuff_Feed.mono _ _ _ _)
      | (with_reducible exact stuff_Plain.mono _ _)
      | (with_reducible exact stuff_Send.mono _ _ _)
      | (with_reducible exact LeO.refl _)
      | (with_reducible exact LeO.none _)
      | (with_reducible refine LeO.ite ?_ ?_)
      | (with_reducible refine LeO.bind ?_ (fun _ => ?_))
      | exact stuff_All.mono _ _
      | exact stuff_Escape.mono _ _ _
      | exact stuff_Feed.mono _ _ _ _
      | exact stuff_Plain.mono _ _
      | exact stuff_Send.mono _ _ _
      | exact LeO.none _
      | refine LeO.ite ?_ ?_
      | refine LeO.bind ?_ (fun _ => ?_)
set_option maxHeartbeats 8000000 in
set_option maxRecDepth 100000 in
theorem portreevelaw07_shown_g.calls (k : Nat)  (r : Bool) (w : World) (hlaw_ : Aside0 (r = true)) (h : portreevelaw07_shown_g.f k  = some r) :
    Calls Try.prog 10 #[] w fun e w' => e = .returned (.bool r) ∧ Below w.heap.size w w' := by
  have hu37 := Try.underlying37
  have HB := Aside0.mk (Below.refl w.heap.size w)
  have H : ((stuff_Send.f k (([126] : List Int)) 0).bind fun t157 => ((some (([1, 2] : List Int) : List Int)).bind fun y160 => (if y160.length + t157.length < 140737488355328 then ((stuff_All.f k (y160 ++ t157)).bind fun t166 => ((stuff_Feed.f k (([7] : List Int)) false 126).bind fun bt172 => (if (t157.length : Int) = 4 then (if 1 ≤ 3 then (if 3 ≤ (t157.length : Int) then ((stuff_Plain.f k ((t157.take 3).drop 1)).bind fun bt185 => (if 1 < (t157.length : Int) then (if (rd t157 1) = 125 then (if 2 < (t157.length : Int) then (if (rd t157 2) = 94 then (if (t166.length : Int) = 2 then (if 1 < (t166.length : Int) then (if ((rd_L2 t166 1).length : Int) = 1 then (if 0 < ((rd_L2 t166 1).length : Int) then (if (rd (rd_L2 t166 1) 0) = 126 then (if bt172.2.2.2 = true then (if (bt172.2.2.1.length : Int) = 1 then (if (bt172.1.length : Int) = 0 then (if bt185.2 = 0 then (if (bt185.1.length : Int) = 1 then ((stuff_Same.f bt172.1 bt172.2.1 bt172.1 bt172.2.1).bind fun t194 => (if t194 = true then ((stuff_Escape.f k (([3] : List Int)) 8).bind fun t198 => (some ((t198.length : Int) == 2))) else (some false))) else (some false)) else (some false)) else (some false)) else (some false)) else (some false)) else (some false)) else (none)) else (some false)) else (none)) else (some false)) else (some false)) else (none)) else (some false)) else (none))) else (none)) else (none)) else (some false)))) else (none)))) = some r := h
  clear h
  obtain ⟨y154, hy154⟩ : ∃ y_ : List Int, y_ = (([126] : List Int)) := ⟨_, rfl⟩
  replace H : ((stuff_Send.f k y154 0).bind fun t157 => ((some (([1, 2] : List Int) : List Int)).bind fun y160 => (if y160.length + t157.length < 140737488355328 then ((stuff_All.f k (y160 ++ t157)).bind fun t166 => ((stuff_Feed.f k (([7] : List Int)) false 126).bind fun bt172 => (if (t157.length : Int) = 4 then (if 1 ≤ 3 then (if 3 ≤ (t157.length : Int) then ((stuff_Plain.f k ((t157.take 3).drop 1)).bind fun bt185 => (if 1 < (t157.length : Int) then (if (rd t157 1) = 125 then (if 2 < (t157.length : Int) then (if (rd t157 2) = 94 then (if (t166.length : Int) = 2 then (if 1 < (t166.length : Int) then (if ((rd_L2 t166 1).length : Int) = 1 then (if 0 < ((rd_L2 t166 1).length : Int) then (if (rd (rd_L2 t166 1) 0) = 126 then (if bt172.2.2.2 = true then (if (bt172.2.2.1.length : Int) = 1 then (if (bt172.1.length : Int) = 0 then (if bt185.2 = 0 then (if (bt185.1.length : Int) = 1 then ((stuff_Same.f bt172.1 bt172.2.1 bt172.1 bt172.2.1).bind fun t194 => (if t194 = true then ((stuff_Escape.f k (([3] : List Int)) 8).bind fun t198 => (some ((t198.length : Int) == 2))) else (some false))) else (some false)) else (some false)) else (some false)) else (some false)) else (some false)) else (some false)) else (none)) else (some false)) else (none)) else (some false)) else (some false)) else (none)) else (some false)) else (none))) else (none)) else (none)) else (some false)))) else (none)))) = some r := by first | (rw [hy154]; with_reducible exact H) | (have H2_ := (Option.bind_some _ _).symm.trans H; rw [hy154]; with_reducible exact H2_) | (have H2_ := (Option.bind_some _ _).symm.trans H; with_reducible exact H2_) | with_reducible exact H | (rw [hy154]; exact H) | exact H
  have Ny154 := Aside0.mk hy154
  clear hy154
  replace H := Option.bind_eq_some_iff.mp H
  obtain ⟨t157, A10, H⟩ := H
  replace H : ((some (([1, 2] : List Int) : List Int)).bind fun y160 => (if y160.length + t157.length < 140737488355328 then ((stuff_All.f k (y160 ++ t157)).bind fun t166 => ((stuff_Feed.f k (([7] : List Int)) false 126).bind fun bt172 => (if (t157.length : Int) = 4 then (if 1 ≤ 3 then (if 3 ≤ (t157.length : Int) then ((stuff_Plain.f k ((t157.take 3).drop 1)).bind fun bt185 => (if 1 < (t157.length : Int) then (if (rd t157 1) = 125 then (if 2 < (t157.length : Int) then (if (rd t157 2) = 94 then (if (t166.length : Int) = 2 then (if 1 < (t166.length : Int) then (if ((rd_L2 t166 1).length : Int) = 1 then (if 0 < ((rd_L2 t166 1).length : Int) then (if (rd (rd_L2 t166 1) 0) = 126 then (if bt172.2.2.2 = true then (if (bt172.2.2.1.length : Int) = 1 then (if (bt172.1.length : Int) = 0 then (if bt185.2 = 0 then (if (bt185.1.length : Int) = 1 then ((stuff_Same.f bt172.1 bt172.2.1 bt172.1 bt172.2.1).bind fun t194 => (if t194 = true then ((stuff_Escape.f k (([3] : List Int)) 8).bind fun t198 => (some ((t198.length : Int) == 2))) else (some false))) else (some false)) else (some false)) else (some false)) else (some false)) else (some false)) else (some false)) else (none)) else (some false)) else (none)) else (some false)) else (some false)) else (none)) else (some false)) else (none))) else (none)) else (none)) else (some false)))) else (none))) = some r := H
  have A1 := Aside0.mk A10
  clear A10
  obtain ⟨y160, hy160⟩ : ∃ y_ : List Int, y_ = (([1, 2] : List Int)) := ⟨_, rfl⟩
  replace H : (if y160.length + t157.length < 140737488355328 then ((stuff_All.f k (y160 ++ t157)).bind fun t166 => ((stuff_Feed.f k (([7] : List Int)) false 126).bind fun bt172 => (if (t157.length : Int) = 4 then (if 1 ≤ 3 then (if 3 ≤ (t157.length : Int) then ((stuff_Plain.f k ((t157.take 3).drop 1)).bind fun bt185 => (if 1 < (t157.length : Int) then (if (rd t157 1) = 125 then (if 2 < (t157.length : Int) then (if (rd t157 2) = 94 then (if (t166.length : Int) = 2 then (if 1 < (t166.length : Int) then (if ((rd_L2 t166 1).length : Int) = 1 then (if 0 < ((rd_L2 t166 1).length : Int) then (if (rd (rd_L2 t166 1) 0) = 126 then (if bt172.2.2.2 = true then (if (bt172.2.2.1.length : Int) = 1 then (if (bt172.1.length : Int) = 0 then (if bt185.2 = 0 then (if (bt185.1.length : Int) = 1 then ((stuff_Same.f bt172.1 bt172.2.1 bt172.1 bt172.2.1).bind fun t194 => (if t194 = true then ((stuff_Escape.f k (([3] : List Int)) 8).bind fun t198 => (some ((t198.length : Int) == 2))) else (some false))) else (some false)) else (some false)) else (some false)) else (some false)) else (some false)) else (some false)) else (none)) else (some false)) else (none)) else (some false)) else (some false)) else (none)) else (some false)) else (none))) else (none)) else (none)) else (some false)))) else (none)) = some r := by first | (rw [hy160]; with_reducible exact H) | (have H2_ := (Option.bind_some _ _).symm.trans H; rw [hy160]; with_reducible exact H2_) | (have H2_ := (Option.bind_some _ _).symm.trans H; with_reducible exact H2_) | with_reducible exact H | (rw [hy160]; exact H) | exact H
  have Ny160 := Aside0.mk hy160
  clear hy160
  by_cases c2 : y160.length + t157.length < 140737488355328
  · rw [if_pos c2] at H
    have LMc2 := Aside0.mk c2
    clear c2
    obtain ⟨y163, hy163⟩ : ∃ y_ : List Int, y_ = (y160 ++ t157) := ⟨_, rfl⟩
    replace H : ((stuff_All.f k y163).bind fun t166 => ((stuff_Feed.f k (([7] : List Int)) false 126).bind fun bt172 => (if (t157.length : Int) = 4 then (if 1 ≤ 3 then (if 3 ≤ (t157.length : Int) then ((stuff_Plain.f k ((t157.take 3).drop 1)).bind fun bt185 => (if 1 < (t157.length : Int) then (if (rd t157 1) = 125 then (if 2 < (t157.length : Int) then (if (rd t157 2) = 94 then (if (t166.length : Int) = 2 then (if 1 < (t166.length : Int) then (if ((rd_L2 t166 1).length : Int) = 1 then (if 0 < ((rd_L2 t166 1).length : Int) then (if (rd (rd_L2 t166 1) 0) = 126 then (if bt172.2.2.2 = true then (if (bt172.2.2.1.length : Int) = 1 then (if (bt172.1.length : Int) = 0 then (if bt185.2 = 0 then (if (bt185.1.length : Int) = 1 then ((stuff_Same.f bt172.1 bt172.2.1 bt172.1 bt172.2.1).bind fun t194 => (if t194 = true then ((stuff_Escape.f k (([3] : List Int)) 8).bind fun t198 => (some ((t198.length : Int) == 2))) else (some false))) else (some false)) else (some false)) else (some false)) else (some false)) else (some false)) else (some false)) else (none)) else (some false)) else (none)) else (some false)) else (some false)) else (none)) else (some false)) else (none))) else (none)) else (none)) else (some false)))) = some r := by first | (rw [hy163]; with_reducible exact H) | (have H2_ := (Option.bind_some _ _).symm.trans H; rw [hy163]; with_reducible exact H2_) | (have H2_ := (Option.bind_some _ _).symm.trans H; with_reducible exact H2_) | with_reducible exact H | (rw [hy163]; exact H) | exact H
    have Ny163 := Aside0.mk hy163
    clear hy163
    replace H := Option.bind_eq_some_iff.mp H
    obtain ⟨t166, A30, H⟩ := H
    replace H : ((stuff_Feed.f k (([7] : List Int)) false 126).bind fun bt172 => (if (t157.length : Int) = 4 then (if 1 ≤ 3 then (if 3 ≤ (t157.length : Int) then ((stuff_Plain.f k ((t157.take 3).drop 1)).bind fun bt185 => (if 1 < (t157.length : Int) then (if (rd t157 1) = 125 then (if 2 < (t157.length : Int) then (if (rd t157 2) = 94 then (if (t166.length : Int) = 2 then (if 1 < (t166.length : Int) then (if ((rd_L2 t166 1).length : Int) = 1 then (if 0 < ((rd_L2 t166 1).length : Int) then (if (rd (rd_L2 t166 1) 0) = 126 then (if bt172.2.2.2 = true then (if (bt172.2.2.1.length : Int) = 1 then (if (bt172.1.length : Int) = 0 then (if bt185.2 = 0 then (if (bt185.1.length : Int) = 1 then ((stuff_Same.f bt172.1 bt172.2.1 bt172.1 bt172.2.1).bind fun t194 => (if t194 = true then ((stuff_Escape.f k (([3] : List Int)) 8).bind fun t198 => (some ((t198.length : Int) == 2))) else (some false))) else (some false)) else (some false)) else (some false)) else (some false)) else (some false)) else (some false)) else (none)) else (some false)) else (none)) else (some false)) else (some false)) else (none)) else (some false)) else (none))) else (none)) else (none)) else (some false))) = some r := H
    have A3 := Aside0.mk A30
    clear A30
    obtain ⟨y169, hy169⟩ : ∃ y_ : List Int, y_ = (([7] : List Int)) := ⟨_, rfl⟩
    replace H : ((stuff_Feed.f k y169 false 126).bind fun bt172 => (if (t157.length : Int) = 4 then (if 1 ≤ 3 then (if 3 ≤ (t157.length : Int) then ((stuff_Plain.f k ((t157.take 3).drop 1)).bind fun bt185 => (if 1 < (t157.length : Int) then (if (rd t157 1) = 125 then (if 2 < (t157.length : Int) then (if (rd t157 2) = 94 then (if (t166.length : Int) = 2 then (if 1 < (t166.length : Int) then (if ((rd_L2 t166 1).length : Int) = 1 then (if 0 < ((rd_L2 t166 1).length : Int) then (if (rd (rd_L2 t166 1) 0) = 126 then (if bt172.2.2.2 = true then (if (bt172.2.2.1.length : Int) = 1 then (if (bt172.1.length : Int) = 0 then (if bt185.2 = 0 then (if (bt185.1.length : Int) = 1 then ((stuff_Same.f bt172.1 bt172.2.1 bt172.1 bt172.2.1).bind fun t194 => (if t194 = true then ((stuff_Escape.f k (([3] : List Int)) 8).bind fun t198 => (some ((t198.length : Int) == 2))) else (some false))) else (some false)) else (some false)) else (some false)) else (some false)) else (some false)) else (some false)) else (none)) else (some false)) else (none)) else (some false)) else (some false)) else (none)) else (some false)) else (none))) else (none)) else (none)) else (some false))) = some r := by first | (rw [hy169]; with_reducible exact H) | (have H2_ := (Option.bind_some _ _).symm.trans H; rw [hy169]; with_reducible exact H2_) | (have H2_ := (Option.bind_some _ _).symm.trans H; with_reducible exact H2_) | with_reducible exact H | (rw [hy169]; exact H) | exact H
    have Ny169 := Aside0.mk hy169
    clear hy169
    replace H := Option.bind_eq_some_iff.mp H
    obtain ⟨⟨t172, t175, t176, t179⟩, A40, H⟩ := H
    replace H : (if (t157.length : Int) = 4 then (if 1 ≤ 3 then (if 3 ≤ (t157.length : Int) then ((stuff_Plain.f k ((t157.take 3).drop 1)).bind fun bt185 => (if 1 < (t157.length : Int) then (if (rd t157 1) = 125 then (if 2 < (t157.length : Int) then (if (rd t157 2) = 94 then (if (t166.length : Int) = 2 then (if 1 < (t166.length : Int) then (if ((rd_L2 t166 1).length : Int) = 1 then (if 0 < ((rd_L2 t166 1).length : Int) then (if (rd (rd_L2 t166 1) 0) = 126 then (if t179 = true then (if (t176.length : Int) = 1 then (if (t172.length : Int) = 0 then (if bt185.2 = 0 then (if (bt185.1.length : Int) = 1 then ((stuff_Same.f t172 t175 t172 t175).bind fun t194 => (if t194 = true then ((stuff_Escape.f k (([3] : List Int)) 8).bind fun t198 => (some ((t198.length : Int) == 2))) else (some false))) else (some false)) else (some false)) else (some false)) else (some false)) else (some false)) else (some false)) else (none)) else (some false)) else (none)) else (some false)) else (some false)) else (none)) else (some false)) else (none))) else (none)) else (none)) else (some false)) = some r := H
    have A4 := Aside0.mk A40
    clear A40
    by_cases c5 : (t157.length : Int) = 4
    · rw [if_pos c5] at H
      have c5b0 : ((t157.length : Int) == 4) = true := beq_iff_eq.mpr c5
      have c5b1 : ((t157.length : Int) != 4) = false := bne_eq_false_iff_eq.mpr c5
      clear c5
      by_cases c6 : 1 ≤ 3
      · rw [if_pos c6] at H
        have c6b0 := eq_true c6
        have c6b1 : decide (1 ≤ 3) = true := decide_eq_true c6
        clear c6
        by_cases c7 : 3 ≤ (t157.length : Int)
        · rw [if_pos c7] at H
          have c7b0 := eq_true c7
          have c7b1 : decide (3 ≤ (t157.length : Int)) = true := decide_eq_true c7
          clear c7
          obtain ⟨y181, hy181⟩ : ∃ y_ : List Int, y_ = ((t157.take 3).drop 1) := ⟨_, rfl⟩
          replace H : ((stuff_Plain.f k y181).bind fun bt185 => (if 1 < (t157.length : Int) then (if (rd t157 1) = 125 then (if 2 < (t157.length : Int) then (if (rd t157 2) = 94 then (if (t166.length : Int) = 2 then (if 1 < (t166.length : Int) then (if ((rd_L2 t166 1).length : Int) = 1 then (if 0 < ((rd_L2 t166 1).length : Int) then (if (rd (rd_L2 t166 1) 0) = 126 then (if t179 = true then (if (t176.length : Int) = 1 then (if (t172.length : Int) = 0 then (if bt185.2 = 0 then (if (bt185.1.length : Int) = 1 then ((stuff_Same.f t172 t175 t172 t175).bind fun t194 => (if t194 = true then ((stuff_Escape.f k (([3] : List Int)) 8).bind fun t198 => (some ((t198.length : Int) == 2))) else (some false))) else (some false)) else (some false)) else (some false)) else (some false)) else (some false)) else (some false)) else (none)) else (some false)) else (none)) else (some false)) else (some false)) else (none)) else (some false)) else (none))) = some r := by first | (rw [hy181]; with_reducible exact H) | (have H2_ := (Option.bind_some _ _).symm.trans H; rw [hy181]; with_reducible exact H2_) | (have H2_ := (Option.bind_some _ _).symm.trans H; with_reducible exact H2_) | with_reducible exact H | (rw [hy181]; exact H) | exact H
          have Ny181 := Aside0.mk hy181
          clear hy181
          replace H := Option.bind_eq_some_iff.mp H
          obtain ⟨⟨t185, t186⟩, A80, H⟩ := H
          replace H : (if 1 < (t157.length : Int) then (if (rd t157 1) = 125 then (if 2 < (t157.length : Int) then (if (rd t157 2) = 94 then (if (t166.length : Int) = 2 then (if 1 < (t166.length : Int) then (if ((rd_L2 t166 1).length : Int) = 1 then (if 0 < ((rd_L2 t166 1).length : Int) then (if (rd (rd_L2 t166 1) 0) = 126 then (if t179 = true then (if (t176.length : Int) = 1 then (if (t172.length : Int) = 0 then (if t186 = 0 then (if (t185.length : Int) = 1 then ((stuff_Same.f t172 t175 t172 t175).bind fun t194 => (if t194 = true then ((stuff_Escape.f k (([3] : List Int)) 8).bind fun t198 => (some ((t198.length : Int) == 2))) else (some false))) else (some false)) else (some false)) else (some false)) else (some false)) else (some false)) else (some false)) else (none)) else (some false)) else (none)) else (some false)) else (some false)) else (none)) else (some false)) else (none)) = some r := H
          have A8 := Aside0.mk A80
          clear A80
          by_cases c9 : 1 < (t157.length : Int)
          · rw [if_pos c9] at H
            have c9b0 : decide (1 < (t157.length : Int)) = true := decide_eq_true c9
            have c9b1 : decide (1 < t157.length) = true := decide_eq_true (by omega)
            clear c9
            by_cases c10 : (rd t157 1) = 125
            · rw [if_pos c10] at H
              have c10b0 : ((rd t157 1) == 125) = true := beq_iff_eq.mpr c10
              have c10b1 : ((rd t157 1) != 125) = false := bne_eq_false_iff_eq.mpr c10
              clear c10
              by_cases c11 : 2 < (t157.length : Int)
              · rw [if_pos c11] at H
                have c11b0 : decide (2 < (t157.length : Int)) = true := decide_eq_true c11
                have c11b1 : decide (2 < t157.length) = true := decide_eq_true (by omega)
                clear c11
                by_cases c12 : (rd t157 2) = 94
                · rw [if_pos c12] at H
                  have c12b0 : ((rd t157 2) == 94) = true := beq_iff_eq.mpr c12
                  have c12b1 : ((rd t157 2) != 94) = false := bne_eq_false_iff_eq.mpr c12
                  clear c12
                  by_cases c13 : (t166.length : Int) = 2
                  · rw [if_pos c13] at H
                    have c13b0 : ((t166.length : Int) == 2) = true := beq_iff_eq.mpr c13
                    have c13b1 : ((t166.length : Int) != 2) = false := bne_eq_false_iff_eq.mpr c13
                    clear c13
                    by_cases c14 : 1 < (t166.length : Int)
                    · rw [if_pos c14] at H
                      have c14b0 : decide (1 < (t166.length : Int)) = true := decide_eq_true c14
                      have c14b1 : decide (1 < t166.length) = true := decide_eq_true (by omega)
                      clear c14
                      by_cases c15 : ((rd_L2 t166 1).length : Int) = 1
                      · rw [if_pos c15] at H
                        have c15b0 : (((rd_L2 t166 1).length : Int) == 1) = true := beq_iff_eq.mpr c15
                        have c15b1 : (((rd_L2 t166 1).length : Int) != 1) = false := bne_eq_false_iff_eq.mpr c15
                        clear c15
                        by_cases c16 : 0 < ((rd_L2 t166 1).length : Int)
                        · rw [if_pos c16] at H
                          have c16b0 : decide (0 < ((rd_L2 t166 1).length : Int)) = true := decide_eq_true c16
                          have c16b1 : decide (0 < (rd_L2 t166 1).length) = true := decide_eq_true (by omega)
                          clear c16
                          by_cases c17 : (rd (rd_L2 t166 1) 0) = 126
                          · rw [if_pos c17] at H
                            have c17b0 : ((rd (rd_L2 t166 1) 0) == 126) = true := beq_iff_eq.mpr c17
                            have c17b1 : ((rd (rd_L2 t166 1) 0) != 126) = false := bne_eq_false_iff_eq.mpr c17
                            clear c17
                            by_cases c18 : t179 = true
                            · subst c18
                              have H1 : (if (t176.length : Int) = 1 then (if (t172.length : Int) = 0 then (if t186 = 0 then (if (t185.length : Int) = 1 then ((stuff_Same.f t172 t175 t172 t175).bind fun t194 => (if t194 = true then ((stuff_Escape.f k (([3] : List Int)) 8).bind fun t198 => (some ((t198.length : Int) == 2))) else (some false))) else (some false)) else (some false)) else (some false)) else (some false)) = some r := by rw [if_pos rfl] at H; exact H
                              clear H
                              have H := H1
                              clear H1
                              by_cases c19 : (t176.length : Int) = 1
                              · rw [if_pos c19] at H
                                have c19b0 : ((t176.length : Int) == 1) = true := beq_iff_eq.mpr c19
                                have c19b1 : ((t176.length : Int) != 1) = false := bne_eq_false_iff_eq.mpr c19
                                clear c19
                                by_cases c20 : (t172.length : Int) = 0
                                · rw [if_pos c20] at H
                                  have c20b0 : ((t172.length : Int) == 0) = true := beq_iff_eq.mpr c20
                                  have c20b1 : ((t172.length : Int) != 0) = false := bne_eq_false_iff_eq.mpr c20
                                  clear c20
                                  by_cases c21 : t186 = 0
                                  · rw [if_pos c21] at H
                                    have c21b0 : (t186 == 0) = true := beq_iff_eq.mpr c21
                                    have c21b1 : (t186 != 0) = false := bne_eq_false_iff_eq.mpr c21
                                    clear c21
                                    by_cases c22 : (t185.length : Int) = 1
                                    · rw [if_pos c22] at H
                                      have c22b0 : ((t185.length : Int) == 1) = true := beq_iff_eq.mpr c22
                                      have c22b1 : ((t185.length : Int) != 1) = false := bne_eq_false_iff_eq.mpr c22
                                      clear c22
                                      replace H := Option.bind_eq_some_iff.mp H
                                      obtain ⟨t194, A230, H⟩ := H
                                      replace H : (if t194 = true then ((stuff_Escape.f k (([3] : List Int)) 8).bind fun t198 => (some ((t198.length : Int) == 2))) else (some false)) = some r := H
                                      have A23 := Aside0.mk A230
                                      clear A230
                                      by_cases c24 : t194 = true
                                      · subst c24
                                        have H1 : ((stuff_Escape.f k (([3] : List Int)) 8).bind fun t198 => (some ((t198.length : Int) == 2))) = some r := by rw [if_pos rfl] at H; exact H
                                        clear H
                                        have H := H1
                                        clear H1
                                        obtain ⟨y195, hy195⟩ : ∃ y_ : List Int, y_ = (([3] : List Int)) := ⟨_, rfl⟩
                                        replace H : ((stuff_Escape.f k y195 8).bind fun t198 => (some ((t198.length : Int) == 2))) = some r := by first | (rw [hy195]; with_reducible exact H) | (have H2_ := (Option.bind_some _ _).symm.trans H; rw [hy195]; with_reducible exact H2_) | (have H2_ := (Option.bind_some _ _).symm.trans H; with_reducible exact H2_) | with_reducible exact H | (rw [hy195]; exact H) | exact H
                                        have Ny195 := Aside0.mk hy195
                                        clear hy195
                                        replace H := Option.bind_eq_some_iff.mp H
                                        obtain ⟨t198, A250, H⟩ := H
                                        replace H : (some ((t198.length : Int) == 2)) = some r := H
                                        have A25 := Aside0.mk A250
                                        clear A250
                                        clear hlaw_
                                        obtain rfl := Option.some.inj H
                                        go_enter Try.func10, Try.ntmps10
                                        go_wp2_with (first | ((with_reducible refine gate_dst (N := 8) rfl ?_); (try (refine gate_guard (by rfl) ?_; dsimp only)); refine Kd.R_lit (Kd.int .u8) _ 5 ?hg (N := 8) ?hd (xs := ([126] : List Int)) (inner := [.int .u8 126]) (ok := fun _ => True) (okp := fun _ => True) ?hr ?hp (fun _ hk => hk) trivial (Below.refl _ _) (Nat.le_refl _) (by simp) ?_; (case hd => rfl); (case hg => rfl); (case hr => first | (go_simp; done) | (go_simp; rfl)); (case hp => exact (Reps.one (show Kd.M (Kd.int .u8) _ _ _ 126 [.int .u8 126] from rfl) (Reps.none _ _))); intro v155 w26 ho27 hb hg_ hnew_; clear hg_ hnew_; (first | rw [← Ny154.out] at ho27 | (simp only [Int.reduceToNat] at ho27; rw [← Ny154.out] at ho27)); have n0_ := Aside0.mk (Kd.R_lower ho27 (below_size (by repeat (first | (with_reducible first | exact HB.out | apply pA | apply pN | apply pD) | exact HB.out)))); have n1_ := Aside0.mk (below_step (by repeat (first | (with_reducible first | exact HB.out | apply pA | apply pN | apply pD) | exact HB.out)) hb); clear HB; have HO156 := n0_; have HB := n1_; clear n0_ n1_; clear hb ho27; obtain ⟨Ao28, co28, eo28⟩ := Kd.R_slice HO156.out; subst eo28) | ((with_reducible refine gate_callee (f := 16) rfl ?_); refine goesL_ (some 9) rfl rfl Try.func16 (by kernel_rfl) rfl #[.slice Ao28 y154.length co28, .int .u32 0] rfl (by (try simp only [List.map_toArray, List.map_cons, List.map_nil]); first | done | rfl | (simp only [List.length_drop, List.length_take]; rfl)) ?_; (with_reducible refine (stuff_Send.calls k _ _ y154 0 t157 _ ?side1 ?side2 A1.out).mono ?_); (case side1 => repeat (first | exact (Kd.R_reads' HO156.out).2.2 | (with_reducible refine Kd.C_alloc ?_ _) | (with_reducible refine Kd.C_drewN ?_ _) | (with_reducible refine Kd.C_drew ?_))); (case side2 => exact (Kd.R_reads' HO156.out).2.1); rintro e w29 ⟨v158, rfl, ho0, hb⟩; refine ⟨_, rfl, ?_⟩; have n0_ := Aside0.mk (Kd.R_elder' (by (with_reducible repeat (first | apply Kd.R_alloc | apply Kd.R_drewN | apply Kd.R_drew)); exact HO156.out) (Kd.R_base ho0) hb); have n1_ := Aside0.mk (Kd.R_lower (Kd.R_new' ho0 (Kd.R_lt (by (with_reducible repeat (first | apply Kd.R_alloc | apply Kd.R_drewN | apply Kd.R_drew)); exact HO156.out))) (below_size (by repeat (first | (with_reducible first | exact HB.out | apply pA | apply pN | apply pD) | exact HB.out)))); have n2_ := Aside0.mk (below_step (by repeat (first | (with_reducible first | exact HB.out | apply pA | apply pN | apply pD) | exact HB.out)) hb); clear HO156; clear HB; have HO156 := n0_; have HO159 := n1_; have HB := n2_; clear n0_ n1_ n2_; (try clear hb); (try clear hb2); (try clear hk); (try clear hi); (try clear ho0)) | ((with_reducible refine gate_dst (N := 10) rfl ?_); (try (refine gate_guard (by rfl) ?_; dsimp only)); refine Kd.R_lit (Kd.int .u8) _ 5 ?hg (N := 10) ?hd (xs := ([1, 2] : List Int)) (inner := [.int .u8 1, .int .u8 2]) (ok := fun _ => True) (okp := fun _ => True) ?hr ?hp (fun _ hk => hk) trivial (Below.refl _ _) (Nat.le_refl _) (by simp) ?_; (case hd => rfl); (case hg => rfl); (case hr => first | (go_simp; done) | (go_simp; rfl)); (case hp => exact (Reps.one (show Kd.M (Kd.int .u8) _ _ _ 1 [.int .u8 1] from rfl) (Reps.one (show Kd.M (Kd.int .u8) _ _ _ 2 [.int .u8 2] from rfl) (Reps.none _ _)))); intro v161 w30 ho31 hb hg_ hnew_; clear hg_ hnew_; (first | rw [← Ny160.out] at ho31 | (simp only [Int.reduceToNat] at ho31; rw [← Ny160.out] at ho31)); have n0_ := Aside0.mk (Kd.R_elder' (by (with_reducible repeat (first | apply Kd.R_alloc | apply Kd.R_drewN | apply Kd.R_drew)); exact HO156.out) (Kd.R_base ho31) hb); have n1_ := Aside0.mk (Kd.R_elder' (by (with_reducible repeat (first | apply Kd.R_alloc | apply Kd.R_drewN | apply Kd.R_drew)); exact HO159.out) (Kd.R_base ho31) hb); have n2_ := Aside0.mk (Kd.R_lower (Kd.R_new' (Kd.R_new' ho31 (Kd.R_lt (by (with_reducible repeat (first | apply Kd.R_alloc | apply Kd.R_drewN | apply Kd.R_drew)); exact HO156.out))) (Kd.R_lt (by (with_reducible repeat (first | apply Kd.R_alloc | apply Kd.R_drewN | apply Kd.R_drew)); exact HO159.out))) (below_size (by repeat (first | (with_reducible first | exact HB.out | apply pA | apply pN | apply pD) | exact HB.out)))); have n3_ := Aside0.mk (below_step (by repeat (first | (with_reducible first | exact HB.out | apply pA | apply pN | apply pD) | exact HB.out)) hb); clear HO156; clear HO159; clear HB; have HO156 := n0_; have HO159 := n1_; have HO162 := n2_; have HB := n3_; clear n0_ n1_ n2_ n3_; clear hb ho31; obtain ⟨Ao33, co33, eo33⟩ := Kd.R_slice HO159.out; subst eo33) | ((with_reducible refine gate_builtin (b := .append) (xs := #[.tmp 10, .tmp 11]) rfl ?_); (try (refine gate_guard (by rfl) ?_; dsimp only)); at_builtin; refine Kd.R_append_rows (Kd.int .u8) (w0 := w) w.heap.size rfl (.tmp 10) (.tmp 11) 22 5 (.int .u8 0) 1 rfl Try.underlying22 info5 rfl (by decide) (by omega) v161 y160 t157 _ _ _ (fun k_ => some k_ ≠ (.slice Ao28 y154.length co28 : Value).ownBlock ∧ some k_ ≠ (.slice Ao33 t157.length co33 : Value).ownBlock) (fun _ => False) rfl rfl ?aO ?aR (fun _ _ h => h) (fun _ h => h.elim) ?aF ?aB ?aS ?aL ?_; (case aR => repeat (first | exact (Kd.R_reads' HO159.out).2.2 | (with_reducible refine Kd.C_alloc ?_ _) | (with_reducible refine Kd.C_drewN ?_ _) | (with_reducible refine Kd.C_drew ?_))); (case aB => exact (by repeat (first | (with_reducible first | exact HB.out | apply pA | apply pN | apply pD) | exact HB.out))); (case aF => exact (fun k_ hk => ⟨Kd.fresh' (Kd.R_lt (by (with_reducible repeat (first | apply Kd.R_alloc | apply Kd.R_drewN | apply Kd.R_drew)); exact HO156.out)) k_ hk, Kd.fresh' (Kd.R_lt (by (with_reducible repeat (first | apply Kd.R_alloc | apply Kd.R_drewN | apply Kd.R_drew)); exact HO159.out)) k_ hk⟩)); (case aO => exact (by (with_reducible repeat (first | apply Kd.R_alloc | apply Kd.R_drewN | apply Kd.R_drew)); exact Kd.R_mono HO162.out (fun _ hk => ⟨hk.1.2, hk.2⟩))); (case aS => exact (below_size (by repeat (first | (with_reducible first | exact HB.out | apply pA | apply pN | apply pD) | exact HB.out)))); (case aL => have := LMc2.out; omega); intro v164 w32 ho hb hg hat; rw [← Ny163.out] at ho; have n0_ := Aside0.mk (Kd.R_after (ok := (fun k_ => some k_ ≠ (.slice Ao33 t157.length co33 : Value).ownBlock)) (by (with_reducible repeat (first | apply Kd.R_alloc | apply Kd.R_drewN | apply Kd.R_drew)); exact Kd.R_mono HO156.out (fun _ hk => ⟨hk.1.2, hk.2⟩)) hg hat); have n1_ := Aside0.mk (Kd.R_after (ok := (fun k_ => some k_ ≠ (.slice Ao28 y154.length co28 : Value).ownBlock)) (by (with_reducible repeat (first | apply Kd.R_alloc | apply Kd.R_drewN | apply Kd.R_drew)); exact Kd.R_mono HO159.out (fun _ hk => ⟨hk.1.2, hk.2⟩)) hg hat); have n2_ := Aside0.mk (hb); have n3_ := Aside0.mk (ho); clear HO156; clear HO159; clear HB; clear HO162; have HO156 := n0_; have HO159 := n1_; have HB := n2_; have HO165 := n3_; clear n0_ n1_ n2_ n3_; clear ho hb hg hat; obtain ⟨Ao34, co34, eo34⟩ := Kd.R_slice HO165.out; subst eo34) | ((with_reducible refine gate_callee (f := 19) rfl ?_); refine goesL_ (some 13) rfl rfl Try.func19 (by kernel_rfl) rfl #[.slice Ao34 y163.length co34] rfl (by (try simp only [List.map_toArray, List.map_cons, List.map_nil]); first | done | rfl | (simp only [List.length_drop, List.length_take]; rfl)) ?_; (with_reducible refine (stuff_All.calls k _ _ y163 t166 _ ?side1 ?side2 A3.out).mono ?_); (case side1 => repeat (first | exact (Kd.R_reads' HO165.out).2.2 | (with_reducible refine Kd.C_alloc ?_ _) | (with_reducible refine Kd.C_drewN ?_ _) | (with_reducible refine Kd.C_drew ?_))); (case side2 => exact (Kd.R_reads' HO165.out).2.1); rintro e w35 ⟨v167, rfl, ho0, hb⟩; refine ⟨_, rfl, ?_⟩; have n0_ := Aside0.mk (Kd.R_below (by (with_reducible repeat (first | apply Kd.R_alloc | apply Kd.R_drewN | apply Kd.R_drew)); exact HO156.out) hb); have n1_ := Aside0.mk (Kd.R_below (by (with_reducible repeat (first | apply Kd.R_alloc | apply Kd.R_drewN | apply Kd.R_drew)); exact HO159.out) hb); have n2_ := Aside0.mk (Kd.R_below (by (with_reducible repeat (first | apply Kd.R_alloc | apply Kd.R_drewN | apply Kd.R_drew)); exact HO165.out) hb); have n3_ := Aside0.mk (Kd.S_lower (Kd.S_new' (Kd.S_new' (Kd.S_new' ho0 (Kd.R_lt (by (with_reducible repeat (first | apply Kd.R_alloc | apply Kd.R_drewN | apply Kd.R_drew)); exact HO156.out))) (Kd.R_lt (by (with_reducible repeat (first | apply Kd.R_alloc | apply Kd.R_drewN | apply Kd.R_drew)); exact HO159.out))) (Kd.R_lt (by (with_reducible repeat (first | apply Kd.R_alloc | apply Kd.R_drewN | apply Kd.R_drew)); exact HO165.out))) (below_size (by repeat (first | (with_reducible first | exact HB.out | apply pA | apply pN | apply pD) | exact HB.out)))); have n4_ := Aside0.mk (below_step (by repeat (first | (with_reducible first | exact HB.out | apply pA | apply pN | apply pD) | exact HB.out)) hb); clear HO156; clear HO159; clear HO165; clear HB; have HO156 := n0_; have HO159 := n1_; have HO165 := n2_; have HO168 := n3_; have HB := n4_; clear n0_ n1_ n2_ n3_ n4_; (try clear hb); (try clear hb2); (try clear hk); (try clear hi); (try clear ho0)) | ((with_reducible refine gate_dst (N := 15) rfl ?_); (try (refine gate_guard (by rfl) ?_; dsimp only)); refine Kd.R_lit (Kd.int .u8) _ 5 ?hg (N := 15) ?hd (xs := ([7] : List Int)) (inner := [.int .u8 7]) (ok := fun _ => True) (okp := fun _ => True) ?hr ?hp (fun _ hk => hk) trivial (Below.refl _ _) (Nat.le_refl _) (by simp) ?_; (case hd => rfl); (case hg => rfl); (case hr => first | (go_simp; done) | (go_simp; rfl)); (case hp => exact (Reps.one (show Kd.M (Kd.int .u8) _ _ _ 7 [.int .u8 7] from rfl) (Reps.none _ _))); intro v170 w36 ho37 hb hg_ hnew_; clear hg_ hnew_; (first | rw [← Ny169.out] at ho37 | (simp only [Int.reduceToNat] at ho37; rw [← Ny169.out] at ho37)); have n0_ := Aside0.mk (Kd.R_elder' (by (with_reducible repeat (first | apply Kd.R_alloc | apply Kd.R_drewN | apply Kd.R_drew)); exact HO156.out) (Kd.R_base ho37) hb); have n1_ := Aside0.mk (Kd.R_elder' (by (with_reducible repeat (first | apply Kd.R_alloc | apply Kd.R_drewN | apply Kd.R_drew)); exact HO159.out) (Kd.R_base ho37) hb); have n2_ := Aside0.mk (Kd.R_elder' (by (with_reducible repeat (first | apply Kd.R_alloc | apply Kd.R_drewN | apply Kd.R_drew)); exact HO165.out) (Kd.R_base ho37) hb); have n3_ := Aside0.mk (Kd.S_elder' (by (with_reducible repeat (first | apply Kd.S_alloc | apply Kd.S_drewN | apply Kd.S_drew)); exact HO168.out) (Kd.R_base ho37) hb); have n4_ := Aside0.mk (Kd.R_lower (Kd.R_new' (Kd.R_new' (Kd.R_new' ho37 (Kd.R_lt (by (with_reducible repeat (first | apply Kd.R_alloc | apply Kd.R_drewN | apply Kd.R_drew)); exact HO156.out))) (Kd.R_lt (by (with_reducible repeat (first | apply Kd.R_alloc | apply Kd.R_drewN | apply Kd.R_drew)); exact HO159.out))) (Kd.R_lt (by (with_reducible repeat (first | apply Kd.R_alloc | apply Kd.R_drewN | apply Kd.R_drew)); exact HO165.out))) (below_size (by repeat (first | (with_reducible first | exact HB.out | apply pA | apply pN | apply pD) | exact HB.out)))); have n5_ := Aside0.mk (below_step (by repeat (first | (with_reducible first | exact HB.out | apply pA | apply pN | apply pD) | exact HB.out)) hb); clear HO156; clear HO159; clear HO165; clear HO168; clear HB; have HO156 := n0_; have HO159 := n1_; have HO165 := n2_; have HO168 := n3_; have HO171 := n4_; have HB := n5_; clear n0_ n1_ n2_ n3_ n4_ n5_; clear hb ho37; obtain ⟨Ao38, co38, eo38⟩ := Kd.R_slice HO171.out; subst eo38) | ((with_reducible refine gate_callee (f := 22) rfl ?_); refine goesL_ (some 17) rfl rfl Try.func22 (by kernel_rfl) rfl #[.agg #[.slice Ao38 y169.length co38, .bool false], .int .u8 126] rfl (by (try simp only [List.map_toArray, List.map_cons, List.map_nil]); first | done | rfl | (simp only [List.length_drop, List.length_take]; rfl)) ?_; (with_reducible refine (stuff_Feed.calls k _ _ y169 false 126 t172 t175 t176 true _ ?side1 ?side2 A4.out).mono ?_); (case side1 => repeat (first | exact (Kd.R_reads' HO171.out).2.2 | (with_reducible refine Kd.C_alloc ?_ _) | (with_reducible refine Kd.C_drewN ?_ _) | (with_reducible refine Kd.C_drew ?_))); (case side2 => exact (Kd.R_reads' HO171.out).2.1); rintro e w39 ⟨v173, v177, rfl, ho0, ho1, hb⟩; refine ⟨_, rfl, ?_⟩; have n0_ := Aside0.mk (Kd.R_mono (Kd.R_told (Kd.R_told (Kd.R_old (by (with_reducible repeat (first | apply Kd.R_alloc | apply Kd.R_drewN | apply Kd.R_drew)); exact HO156.out) hb) (Kd.R_base ho0)) (Kd.R_base ho1)) (fun _ h_ => h_.1)); have n1_ := Aside0.mk (Kd.R_mono (Kd.R_told (Kd.R_told (Kd.R_old (by (with_reducible repeat (first | apply Kd.R_alloc | apply Kd.R_drewN | apply Kd.R_drew)); exact HO159.out) hb) (Kd.R_base ho0)) (Kd.R_base ho1)) (fun _ h_ => h_.1)); have n2_ := Aside0.mk (Kd.R_mono (Kd.R_told (Kd.R_told (Kd.R_old (by (with_reducible repeat (first | apply Kd.R_alloc | apply Kd.R_drewN | apply Kd.R_drew)); exact HO165.out) hb) (Kd.R_base ho0)) (Kd.R_base ho1)) (fun _ h_ => h_.1)); have n3_ := Aside0.mk (Kd.S_mono (Kd.S_told (Kd.S_told (Kd.S_old (by (with_reducible repeat (first | apply Kd.S_alloc | apply Kd.S_drewN | apply Kd.S_drew)); exact HO168.out) hb) (Kd.R_base ho0)) (Kd.R_base ho1)) (fun _ h_ => h_.1)); have n4_ := Aside0.mk (Kd.R_mono (Kd.R_told (Kd.R_told (Kd.R_old (by (with_reducible repeat (first | apply Kd.R_alloc | apply Kd.R_drewN | apply Kd.R_drew)); exact HO171.out) hb) (Kd.R_base ho0)) (Kd.R_base ho1)) (fun _ h_ => h_.1)); have n5_ := Aside0.mk (Kd.R_lower (Kd.R_new' (Kd.R_new' (Kd.R_new' (Kd.R_new' ho0 (Kd.R_lt (by (with_reducible repeat (first | apply Kd.R_alloc | apply Kd.R_drewN | apply Kd.R_drew)); exact HO156.out))) (Kd.R_lt (by (with_reducible repeat (first | apply Kd.R_alloc | apply Kd.R_drewN | apply Kd.R_drew)); exact HO159.out))) (Kd.R_lt (by (with_reducible repeat (first | apply Kd.R_alloc | apply Kd.R_drewN | apply Kd.R_drew)); exact HO165.out))) (Kd.R_lt (by (with_reducible repeat (first | apply Kd.R_alloc | apply Kd.R_drewN | apply Kd.R_drew)); exact HO171.out))) (below_size (by repeat (first | (with_reducible first | exact HB.out | apply pA | apply pN | apply pD) | exact HB.out)))); have n6_ := Aside0.mk (Kd.R_lower (Kd.R_new' (Kd.R_new' (Kd.R_new' (Kd.R_new' ho1 (Kd.R_lt (by (with_reducible repeat (first | apply Kd.R_alloc | apply Kd.R_drewN | apply Kd.R_drew)); exact HO156.out))) (Kd.R_lt (by (with_reducible repeat (first | apply Kd.R_alloc | apply Kd.R_drewN | apply Kd.R_drew)); exact HO159.out))) (Kd.R_lt (by (with_reducible repeat (first | apply Kd.R_alloc | apply Kd.R_drewN | apply Kd.R_drew)); exact HO165.out))) (Kd.R_lt (by (with_reducible repeat (first | apply Kd.R_alloc | apply Kd.R_drewN | apply Kd.R_drew)); exact HO171.out))) (below_size (by repeat (first | (with_reducible first | exact HB.out | apply pA | apply pN | apply pD) | exact HB.out)))); have n7_ := Aside0.mk (below_step (by repeat (first | (with_reducible first | exact HB.out | apply pA | apply pN | apply pD) | exact HB.out)) hb); clear HO156; clear HO159; clear HO165; clear HO168; clear HO171; clear HB; have HO156 := n0_; have HO159 := n1_; have HO165 := n2_; have HO168 := n3_; have HO171 := n4_; have HO174 := n5_; have HO178 := n6_; have HB := n7_; clear n0_ n1_ n2_ n3_ n4_ n5_ n6_ n7_; (try clear hb); (try clear hb2); (try clear hk); (try clear hi); (try clear ho0); (try clear ho1)) | ((with_reducible refine gate_dst (N := 3) rfl ?_); (try (refine gate_guard (by rfl) ?_; dsimp only)); refine box_event ?hg (N := 3) ?hd (cs := #[.slice none 0 0, .bool false]) (t := 37) ?hr ?_; (case hd => rfl); (case hg => rfl); (case hr => first | (go_simp; done) | (go_simp; rfl)); intro gb180 hg w40 hbox hb; have n0_ := Aside0.mk (Kd.R_below (by (with_reducible repeat (first | apply Kd.R_alloc | apply Kd.R_drewN | apply Kd.R_drew)); exact HO156.out) hb); have n1_ := Aside0.mk (Kd.R_below (by (with_reducible repeat (first | apply Kd.R_alloc | apply Kd.R_drewN | apply Kd.R_drew)); exact HO159.out) hb); have n2_ := Aside0.mk (Kd.R_below (by (with_reducible repeat (first | apply Kd.R_alloc | apply Kd.R_drewN | apply Kd.R_drew)); exact HO165.out) hb); have n3_ := Aside0.mk (Kd.S_below (by (with_reducible repeat (first | apply Kd.S_alloc | apply Kd.S_drewN | apply Kd.S_drew)); exact HO168.out) hb); have n4_ := Aside0.mk (Kd.R_below (by (with_reducible repeat (first | apply Kd.R_alloc | apply Kd.R_drewN | apply Kd.R_drew)); exact HO171.out) hb); have n5_ := Aside0.mk (Kd.R_below (by (with_reducible repeat (first | apply Kd.R_alloc | apply Kd.R_drewN | apply Kd.R_drew)); exact HO174.out) hb); have n6_ := Aside0.mk (Kd.R_below (by (with_reducible repeat (first | apply Kd.R_alloc | apply Kd.R_drewN | apply Kd.R_drew)); exact HO178.out) hb); have n7_ := Aside0.mk (below_step (by repeat (first | (with_reducible first | exact HB.out | apply pA | apply pN | apply pD) | exact HB.out)) hb); have n8_ := Aside0.mk (hbox); have n9_ := Aside0.mk ((by rw [hg]; exact (below_size (by repeat (first | (with_reducible first | exact HB.out | apply pA | apply pN | apply pD) | exact HB.out))) : w.heap.size ≤ gb180)); have n10_ := Aside0.mk ((by rw [hg]; exact (below_size (by repeat (first | (with_reducible first | exact HB.out | apply pA | apply pN | apply pD) | exact HB.out))) : w.heap.size ≤ gb180)); clear HO156; clear HO159; clear HO165; clear HO168; clear HO171; clear HO174; clear HO178; clear HB; have HO156 := n0_; have HO159 := n1_; have HO165 := n2_; have HO168 := n3_; have HO171 := n4_; have HO174 := n5_; have HO178 := n6_; have HB := n7_; have BK180 := n8_; have GW180 := n9_; have GE180 := n10_; clear n0_ n1_ n2_ n3_ n4_ n5_ n6_ n7_ n8_ n9_ n10_; clear hb hbox hg; obtain ⟨Ao41, co41, eo41⟩ := Kd.R_slice HO174.out; subst eo41; have hcz42_0 : w40.cell? ⟨gb180, 0, none⟩ = some (.slice none 0 0) := (blk_cell BK180.out 0).trans rfl; have hcz42_1 : w40.cell? ⟨gb180, 1, none⟩ = some (.bool false) := (blk_cell BK180.out 1).trans rfl; have hfz42_0 := blk_frozen BK180.out 0; have hfz42_1 := blk_frozen BK180.out 1) | ((with_reducible refine gate_store (t := 37) (p := 3) rfl ?_); refine store_event (t := 37) (p := 3) (v := ?vo_w43) (w1 := ((w40.setCell ⟨gb180, 0, none⟩ (.slice Ao41 t172.length co41)).setCell ⟨gb180, 1, none⟩ (.bool t175))) ?hg ?ho ?hn ?hr ?_; (case ho => rfl); (case hg => rfl); (case hn => rfl); (case hr => first | (go_simp; done) | (go_simp; rfl)); intro w43 hw; have n0_ : Aside0 (Kd.R (Kd.int .u8) 5 w43 w.heap.size (fun k_ => some k_ ≠ (.slice Ao33 t157.length co33 : Value).ownBlock ∧ some k_ ≠ (.slice Ao34 y163.length co34 : Value).ownBlock ∧ some k_ ≠ (.slice Ao38 y169.length co38 : Value).ownBlock ∧ some k_ ≠ (.slice Ao41 t172.length co41 : Value).ownBlock ∧ some k_ ≠ (v177 : Value).ownBlock) (.slice Ao28 y154.length co28) y154) := ⟨(by rw [hw]; exact (by (with_reducible repeat (first | apply Kd.R_alloc | apply Kd.R_drewN | apply Kd.R_drew)); exact Kd.R_mono (Kd.R_far (p := ⟨gb180, 1, none⟩) (Kd.R_far (p := ⟨gb180, 0, none⟩) (Kd.R_types HO156.out BK180.out (by decide)) (fun _ hk => hk.2) (.slice Ao41 t172.length co41)) (fun _ hk => hk.2) (.bool t175)) (fun _ hk => ⟨hk.1.1.1.1.1, ⟨hk.1.1.1.1.2, ⟨hk.1.1.1.2, ⟨hk.1.1.2, hk.1.2⟩⟩⟩⟩)))⟩; have n1_ : Aside0 (Kd.R (Kd.int .u8) 5 w43 w.heap.size (fun k_ => some k_ ≠ (.slice Ao28 y154.length co28 : Value).ownBlock ∧ some k_ ≠ (.slice Ao34 y163.length co34 : Value).ownBlock ∧ some k_ ≠ (.slice Ao38 y169.length co38 : Value).ownBlock ∧ some k_ ≠ (.slice Ao41 t172.length co41 : Value).ownBlock ∧ some k_ ≠ (v177 : Value).ownBlock) (.slice Ao33 t157.length co33) t157) := ⟨(by rw [hw]; exact (by (with_reducible repeat (first | apply Kd.R_alloc | apply Kd.R_drewN | apply Kd.R_drew)); exact Kd.R_mono (Kd.R_far (p := ⟨gb180, 1, none⟩) (Kd.R_far (p := ⟨gb180, 0, none⟩) (Kd.R_types HO159.out BK180.out (by decide)) (fun _ hk => hk.2) (.slice Ao41 t172.length co41)) (fun _ hk => hk.2) (.bool t175)) (fun _ hk => ⟨hk.1.1.1.1.1, ⟨hk.1.1.1.1.2, ⟨hk.1.1.1.2, ⟨hk.1.1.2, hk.1.2⟩⟩⟩⟩)))⟩; have n2_ : Aside0 (Kd.R (Kd.int .u8) 5 w43 w.heap.size (fun k_ => some k_ ≠ (.slice Ao28 y154.length co28 : Value).ownBlock ∧ some k_ ≠ (.slice Ao33 t157.length co33 : Value).ownBlock ∧ some k_ ≠ (.slice Ao38 y169.length co38 : Value).ownBlock ∧ some k_ ≠ (.slice Ao41 t172.length co41 : Value).ownBlock ∧ some k_ ≠ (v177 : Value).ownBlock) (.slice Ao34 y163.length co34) y163) := ⟨(by rw [hw]; exact (by (with_reducible repeat (first | apply Kd.R_alloc | apply Kd.R_drewN | apply Kd.R_drew)); exact Kd.R_mono (Kd.R_far (p := ⟨gb180, 1, none⟩) (Kd.R_far (p := ⟨gb180, 0, none⟩) (Kd.R_types HO165.out BK180.out (by decide)) (fun _ hk => hk.2) (.slice Ao41 t172.length co41)) (fun _ hk => hk.2) (.bool t175)) (fun _ hk => ⟨hk.1.1.1.1.1, ⟨hk.1.1.1.1.2, ⟨hk.1.1.1.2, ⟨hk.1.1.2, hk.1.2⟩⟩⟩⟩)))⟩; have n3_ : Aside0 (Kd.S (Kd.slice 5 (Kd.int .u8)) 22 w43 w.heap.size (fun k_ => some k_ ≠ (.slice Ao28 y154.length co28 : Value).ownBlock ∧ some k_ ≠ (.slice Ao33 t157.length co33 : Value).ownBlock ∧ some k_ ≠ (.slice Ao34 y163.length co34 : Value).ownBlock ∧ some k_ ≠ (.slice Ao38 y169.length co38 : Value).ownBlock ∧ some k_ ≠ (.slice Ao41 t172.length co41 : Value).ownBlock ∧ some k_ ≠ (v177 : Value).ownBlock) v167 t166) := ⟨(by rw [hw]; exact (by (with_reducible repeat (first | apply Kd.S_alloc | apply Kd.S_drewN | apply Kd.S_drew)); exact Kd.S_mono (Kd.S_far (p := ⟨gb180, 1, none⟩) (Kd.S_far (p := ⟨gb180, 0, none⟩) (Kd.S_types HO168.out BK180.out (by decide)) (fun _ hk => hk.2) (.slice Ao41 t172.length co41)) (fun _ hk => hk.2) (.bool t175)) (fun _ hk => ⟨hk.1.1.1.1.1.1.2, ⟨hk.1.1.1.1.1.2, ⟨hk.1.1.1.1.2, ⟨hk.1.1.1.2, ⟨hk.1.1.2, hk.1.2⟩⟩⟩⟩⟩)))⟩; have n4_ : Aside0 (Kd.R (Kd.int .u8) 5 w43 w.heap.size (fun k_ => some k_ ≠ (.slice Ao28 y154.length co28 : Value).ownBlock ∧ some k_ ≠ (.slice Ao33 t157.length co33 : Value).ownBlock ∧ some k_ ≠ (.slice Ao34 y163.length co34 : Value).ownBlock ∧ some k_ ≠ (.slice Ao41 t172.length co41 : Value).ownBlock ∧ some k_ ≠ (v177 : Value).ownBlock) (.slice Ao38 y169.length co38) y169) := ⟨(by rw [hw]; exact (by (with_reducible repeat (first | apply Kd.R_alloc | apply Kd.R_drewN | apply Kd.R_drew)); exact Kd.R_mono (Kd.R_far (p := ⟨gb180, 1, none⟩) (Kd.R_far (p := ⟨gb180, 0, none⟩) (Kd.R_types HO171.out BK180.out (by decide)) (fun _ hk => hk.2) (.slice Ao41 t172.length co41)) (fun _ hk => hk.2) (.bool t175)) (fun _ hk => ⟨hk.1.1.1.1.1.2, ⟨hk.1.1.1.1.2, ⟨hk.1.1.1.2, ⟨hk.1.1.2, hk.1.2⟩⟩⟩⟩)))⟩; have n5_ : Aside0 (Kd.R (Kd.int .u8) 5 w43 w.heap.size (fun k_ => some k_ ≠ (.slice Ao28 y154.length co28 : Value).ownBlock ∧ some k_ ≠ (.slice Ao33 t157.length co33 : Value).ownBlock ∧ some k_ ≠ (.slice Ao34 y163.length co34 : Value).ownBlock ∧ some k_ ≠ (.slice Ao38 y169.length co38 : Value).ownBlock ∧ some k_ ≠ (v177 : Value).ownBlock) (.slice Ao41 t172.length co41) t172) := ⟨(by rw [hw]; exact (by (with_reducible repeat (first | apply Kd.R_alloc | apply Kd.R_drewN | apply Kd.R_drew)); exact Kd.R_mono (Kd.R_far (p := ⟨gb180, 1, none⟩) (Kd.R_far (p := ⟨gb180, 0, none⟩) (Kd.R_types HO174.out BK180.out (by decide)) (fun _ hk => hk.2) (.slice Ao41 t172.length co41)) (fun _ hk => hk.2) (.bool t175)) (fun _ hk => ⟨hk.1.1.1.1.2, ⟨hk.1.1.1.2, ⟨hk.1.1.2, ⟨hk.1.2, hk.1.1.1.1.1⟩⟩⟩⟩)))⟩; have n6_ : Aside0 (Kd.R (Kd.int .u8) 5 w43 w.heap.size (fun k_ => some k_ ≠ (.slice Ao28 y154.length co28 : Value).ownBlock ∧ some k_ ≠ (.slice Ao33 t157.length co33 : Value).ownBlock ∧ some k_ ≠ (.slice Ao34 y163.length co34 : Value).ownBlock ∧ some k_ ≠ (.slice Ao38 y169.length co38 : Value).ownBlock ∧ some k_ ≠ (.slice Ao41 t172.length co41 : Value).ownBlock) v177 t176) := ⟨(by rw [hw]; exact (by (with_reducible repeat (first | apply Kd.R_alloc | apply Kd.R_drewN | apply Kd.R_drew)); exact Kd.R_mono (Kd.R_far (p := ⟨gb180, 1, none⟩) (Kd.R_far (p := ⟨gb180, 0, none⟩) (Kd.R_types HO178.out BK180.out (by decide)) (fun _ hk => hk.2) (.slice Ao41 t172.length co41)) (fun _ hk => hk.2) (.bool t175)) (fun _ hk => ⟨hk.1.1.1.1.2, ⟨hk.1.1.1.2, ⟨hk.1.1.2, ⟨hk.1.2, hk.1.1.1.1.1⟩⟩⟩⟩)))⟩; have n7_ : Aside0 (w43.heap[gb180]? = some (.cells #[.slice Ao41 t172.length co41, .bool t175] 37 (0, 0))) := ⟨(by rw [hw]; exact (by (with_reducible repeat (first | refine qN ?_ _ | refine qD ?_ | refine qA ?_ _)); refine blk_put (cs := #[.slice Ao41 t172.length co41, .bool false]) ?_ 1 _ rfl; (with_reducible repeat (first | refine qN ?_ _ | refine qD ?_ | refine qA ?_ _)); refine blk_put (cs := #[.slice none 0 0, .bool false]) ?_ 0 _ rfl; (with_reducible repeat (first | refine qN ?_ _ | refine qD ?_ | refine qA ?_ _)); exact BK180.out))⟩; have n8_ : Aside0 (Below w.heap.size w w43) := ⟨(by rw [hw]; exact (by repeat (first | (with_reducible first | exact HB.out | apply pA | apply pN | apply pD | refine pS ?_ GE180.out) | exact HB.out)))⟩; clear hw; clear HO156; clear HO159; clear HO165; clear HO168; clear HO171; clear HO174; clear HO178; clear BK180; clear HB; have HO156 := n0_; have HO159 := n1_; have HO165 := n2_; have HO168 := n3_; have HO171 := n4_; have HO174 := n5_; have HO178 := n6_; have BK180 := n7_; have HB := n8_; clear n0_ n1_ n2_ n3_ n4_ n5_ n6_ n7_ n8_; have q44 : (3 : Int) ≤ ((t157.length : Int) : Int) := of_decide_eq_true (by first | (with_reducible assumption) | assumption); obtain ⟨i044, hi044, _, hsz44, _⟩ := info_parts info5; have hroom44 : t157.length ≤ co33 := (Kd.R_reads' HO159.out).2.1; have hC44 : Kd.C (Kd.int .u8) _ Ao33 t157.length t157 := (Kd.R_reads' HO159.out).2.2; have ql44 : (1 : Int) ≤ (3 : Int) := (by omega); have hcut44 := cut_mid (P := Try.prog) 22 5 .i64 .i64 Try.underlying22 hi044 1 hsz44 Ao33 t157.length co33 1 3 (by omega) ql44 q44 hroom44; have hr44 := Kd.C_mid (lo := (1 : Int).toNat) (hi := (3 : Int).toNat) (c := co33) hC44 (by omega) (by omega) hroom44; obtain ⟨A44, hA44⟩ : ∃ A1, A1 = (if co33 = (1 : Int).toNat then Ao33 else (Ao33 : Option Addr).map (·.add ((1 : Int).toNat * 1))) := ⟨_, rfl⟩; obtain ⟨c44, hc44⟩ : ∃ c1, c1 = co33 - (1 : Int).toNat := ⟨_, rfl⟩; have hy44 : y181.length = (3 : Int).toNat - (1 : Int).toNat := (by rw [Ny181.out, List.length_drop, List.length_take] <;> omega); rw [show ((t157).take (3 : Int).toNat).drop (1 : Int).toNat = y181 from Ny181.out.symm] at hr44; replace hr44 : Kd.C (Kd.int .u8) _ A44 y181.length y181 := (by rw [hA44]; exact hr44); rw [← hy44, ← hA44, ← hc44] at hcut44; have HR184 := Aside0.mk hr44; have HC184 := Aside0.mk (show y181.length ≤ c44 from by rw [hy44, hc44]; exact Nat.sub_le_sub_right (Nat.le_trans (by omega) hroom44) _); clear hr44 hC44 hroom44 hi044 hsz44 hc44; have KY44 := Aside0.mk hy44; have KA44 := Aside0.mk hA44; clear hy44 hA44; have KL44 := Aside0.mk (show 3 ≤ t157.length from by omega); have KM44 := Aside0.mk (show 1 ≤ 3 from by omega); replace q44 := eq_true q44) | ((with_reducible refine gate_callee (f := 11) rfl ?_); refine goesL_ (some 27) rfl rfl Try.func11 (by kernel_rfl) rfl #[.slice A44 y181.length c44] rfl (by (try simp only [List.map_toArray, List.map_cons, List.map_nil]); first | done | rfl | (simp only [List.length_drop, List.length_take]; rfl)) ?_; (with_reducible refine (stuff_Plain.calls k _ _ y181 t185 t186 _ ?side1 ?side2 A8.out).mono ?_); (case side1 => repeat (first | exact (by repeat (first | (with_reducible exact HR184.out) | (with_reducible refine Kd.C_alloc ?_ _) | (with_reducible refine Kd.C_drewN ?_ _) | (with_reducible refine Kd.C_drew ?_) | exact HR184.out)) | (with_reducible refine Kd.C_alloc ?_ _) | (with_reducible refine Kd.C_drewN ?_ _) | (with_reducible refine Kd.C_drew ?_))); (case side2 => exact HC184.out); rintro e w45 ⟨v187, rfl, ho0, hb⟩; refine ⟨_, rfl, ?_⟩; have n0_ := Aside0.mk (Kd.R_elder' (by (with_reducible repeat (first | apply Kd.R_alloc | apply Kd.R_drewN | apply Kd.R_drew)); exact HO156.out) (Kd.R_base ho0) hb); have n1_ := Aside0.mk (Kd.R_elder' (by (with_reducible repeat (first | apply Kd.R_alloc | apply Kd.R_drewN | apply Kd.R_drew)); exact HO159.out) (Kd.R_base ho0) hb); have n2_ := Aside0.mk (Kd.R_elder' (by (with_reducible repeat (first | apply Kd.R_alloc | apply Kd.R_drewN | apply Kd.R_drew)); exact HO165.out) (Kd.R_base ho0) hb); have n3_ := Aside0.mk (Kd.S_elder' (by (with_reducible repeat (first | apply Kd.S_alloc | apply Kd.S_drewN | apply Kd.S_drew)); exact HO168.out) (Kd.R_base ho0) hb); have n4_ := Aside0.mk (Kd.R_elder' (by (with_reducible repeat (first | apply Kd.R_alloc | apply Kd.R_drewN | apply Kd.R_drew)); exact HO171.out) (Kd.R_base ho0) hb); have n5_ := Aside0.mk (Kd.R_elder' (by (with_reducible repeat (first | apply Kd.R_alloc | apply Kd.R_drewN | apply Kd.R_drew)); exact HO174.out) (Kd.R_base ho0) hb); have n6_ := Aside0.mk (Kd.R_elder' (by (with_reducible repeat (first | apply Kd.R_alloc | apply Kd.R_drewN | apply Kd.R_drew)); exact HO178.out) (Kd.R_base ho0) hb); have n7_ := Aside0.mk (Kd.R_lower (Kd.R_new' (Kd.R_new' (Kd.R_new' (Kd.R_new' (Kd.R_new' (Kd.R_new' ho0 (Kd.R_lt (by (with_reducible repeat (first | apply Kd.R_alloc | apply Kd.R_drewN | apply Kd.R_drew)); exact HO156.out))) (Kd.R_lt (by (with_reducible repeat (first | apply Kd.R_alloc | apply Kd.R_drewN | apply Kd.R_drew)); exact HO159.out))) (Kd.R_lt (by (with_reducible repeat (first | apply Kd.R_alloc | apply Kd.R_drewN | apply Kd.R_drew)); exact HO165.out))) (Kd.R_lt (by (with_reducible repeat (first | apply Kd.R_alloc | apply Kd.R_drewN | apply Kd.R_drew)); exact HO171.out))) (Kd.R_lt (by (with_reducible repeat (first | apply Kd.R_alloc | apply Kd.R_drewN | apply Kd.R_drew)); exact HO174.out))) (Kd.R_lt (by (with_reducible repeat (first | apply Kd.R_alloc | apply Kd.R_drewN | apply Kd.R_drew)); exact HO178.out))) (below_size (by repeat (first | (with_reducible first | exact HB.out | apply pA | apply pN | apply pD | refine pS ?_ GE180.out) | exact HB.out)))); have n8_ := Aside0.mk (blk_below (g := gb180) (o := .cells #[.slice Ao41 t172.length co41, .bool t175] 37 (0, 0)) (by (with_reducible repeat (first | refine qN ?_ _ | refine qD ?_ | refine qA ?_ _)); exact BK180.out) hb); have n9_ := Aside0.mk (Kd.C_below (by repeat (first | (with_reducible exact HR184.out) | (with_reducible refine Kd.C_alloc ?_ _) | (with_reducible refine Kd.C_drewN ?_ _) | (with_reducible refine Kd.C_drew ?_) | exact HR184.out)) hb); have n10_ := Aside0.mk (below_step (by repeat (first | (with_reducible first | exact HB.out | apply pA | apply pN | apply pD | refine pS ?_ GE180.out) | exact HB.out)) hb); clear HO156; clear HO159; clear HO165; clear HO168; clear HO171; clear HO174; clear HO178; clear BK180; clear HR184; clear HB; have HO156 := n0_; have HO159 := n1_; have HO165 := n2_; have HO168 := n3_; have HO171 := n4_; have HO174 := n5_; have HO178 := n6_; have HO188 := n7_; have BK180 := n8_; have HR184 := n9_; have HB := n10_; clear n0_ n1_ n2_ n3_ n4_ n5_ n6_ n7_ n8_ n9_ n10_; (try clear hb); (try clear hb2); (try clear hk); (try clear hi); (try clear ho0); have p189 : 0 ≤ (1 : Int) := (by omega); have q189 : 1 < (t157.length : Int) := of_decide_eq_true (by first | (with_reducible assumption) | assumption); obtain ⟨ad189, e189, hx189_0⟩ := Kd.at_int (Kd.R_reads' HO159.out).2.2 1 p189 q189; cases e189; (try simp only [show (1 : Int).toNat = 1 from rfl, Nat.reduceMul, Nat.reduceEqDiff, Go.Addr.add, ↓reduceIte] at hx189_0); have qi189 : (1 < t157.length) = True := eq_true (by omega); (try rw [show ((1 : Int)).toNat = 1 from rfl] at hx189_0); replace p189 := eq_true p189; replace q189 := eq_true q189; have p190 : 0 ≤ (2 : Int) := (by omega); have q190 : 2 < (t157.length : Int) := of_decide_eq_true (by first | (with_reducible assumption) | assumption); obtain ⟨ad190, e190, hx190_0⟩ := Kd.at_int (Kd.R_reads' HO159.out).2.2 2 p190 q190; obtain rfl : ad189 = ad190 := (by injection e190); (try simp only [show (2 : Int).toNat = 2 from rfl, Nat.reduceMul, Nat.reduceEqDiff, Go.Addr.add, ↓reduceIte] at hx190_0); have qi190 : (2 < t157.length) = True := eq_true (by omega); (try rw [show ((2 : Int)).toNat = 2 from rfl] at hx190_0); replace p190 := eq_true p190; replace q190 := eq_true q190; obtain ⟨Ao46, co46, eo46⟩ := Kd.S_slice HO168.out; subst eo46; have p191 : 0 ≤ (1 : Int) := (by omega); have q191 : 1 < (t166.length : Int) := of_decide_eq_true (by first | (with_reducible assumption) | assumption); obtain ⟨ad191, A191_0, c191_0, e191, hx191_0, hl191_0, hi191_0⟩ := at_L2 (Kd.S_reads' HO168.out).2.2 1 p191 q191; cases e191; obtain ⟨ce191, hce191, hMe191, hcc191⟩ := Kd.S_get HO168.out [] 1 p191 (by first | exact q191 | exact of_decide_eq_true (by first | (with_reducible assumption) | assumption) | (have e_ := (Kd.S_reads' HO168.out).1; omega)); obtain ⟨ve191_0, rfl, ge191_0⟩ := hMe191; have hv191_0 := hcc191 0 _ rfl; rw [Nat.add_zero, show ((Kd.slice 5 (Kd.int .u8))).sz = 1 from rfl, Nat.mul_one] at hv191_0; replace hv191_0 := Option.some.inj (hv191_0.symm.trans hx191_0); rw [hv191_0] at ge191_0; have HL191_0 := Aside0.mk (show Kd.R (Kd.int .u8) 5 _ _ _ _ (rd_L2 t166 1) from ge191_0); clear hv191_0 ge191_0; clear hcc191 hce191; (try simp only [show (1 : Int).toNat = 1 from rfl, Nat.reduceMul, Nat.reduceEqDiff, Go.Addr.add, ↓reduceIte] at hx191_0); have qi191 : (1 < t166.length) = True := eq_true (by omega); (try rw [show ((1 : Int)).toNat = 1 from rfl] at hx191_0); have HR191_0 := Aside0.mk hi191_0; have HC191_0 := Aside0.mk hl191_0; clear hi191_0 hl191_0; replace p191 := eq_true p191; replace q191 := eq_true q191; have p192 : 0 ≤ (1 : Int) := (by omega); have q192 : 1 < (t166.length : Int) := of_decide_eq_true (by first | (with_reducible assumption) | assumption); obtain ⟨ad192, A192_0, c192_0, e192, hx192_0, hl192_0, hi192_0⟩ := at_L2 (Kd.S_reads' HO168.out).2.2 1 p192 q192; obtain rfl : ad191 = ad192 := (by injection e192); obtain ⟨ce192, hce192, hMe192, hcc192⟩ := Kd.S_get HO168.out [] 1 p192 (by first | exact q192 | exact of_decide_eq_true (by first | (with_reducible assumption) | assumption) | (have e_ := (Kd.S_reads' HO168.out).1; omega)); obtain ⟨ve192_0, rfl, ge192_0⟩ := hMe192; have hv192_0 := hcc192 0 _ rfl; rw [Nat.add_zero, show ((Kd.slice 5 (Kd.int .u8))).sz = 1 from rfl, Nat.mul_one] at hv192_0; replace hv192_0 := Option.some.inj (hv192_0.symm.trans hx192_0); rw [hv192_0] at ge192_0; have HL192_0 := Aside0.mk (show Kd.R (Kd.int .u8) 5 _ _ _ _ (rd_L2 t166 1) from ge192_0); clear hv192_0 ge192_0; clear hcc192 hce192; (try simp only [show (1 : Int).toNat = 1 from rfl, Nat.reduceMul, Nat.reduceEqDiff, Go.Addr.add, ↓reduceIte] at hx192_0); have qi192 : (1 < t166.length) = True := eq_true (by omega); (try rw [show ((1 : Int)).toNat = 1 from rfl] at hx192_0); have HR192_0 := Aside0.mk hi192_0; have HC192_0 := Aside0.mk hl192_0; clear hi192_0 hl192_0; replace p192 := eq_true p192; replace q192 := eq_true q192; have ea_ := Option.some.inj (hx191_0.symm.trans hx192_0); injection ea_ with ea_ en_ ec_; subst ea_; subst ec_; clear en_; have p193 : 0 ≤ (0 : Int) := (by omega); have q193 : 0 < ((rd_L2 t166 1).length : Int) := of_decide_eq_true (by first | (with_reducible assumption) | assumption); obtain ⟨ad193, e193, hx193_0⟩ := Kd.at_int (by repeat (first | (with_reducible exact HR192_0.out) | (with_reducible refine Kd.C_alloc ?_ _) | (with_reducible refine Kd.C_drewN ?_ _) | (with_reducible refine Kd.C_drew ?_) | exact HR192_0.out)) 0 p193 q193; cases e193; have qi193 : (0 < (rd_L2 t166 1).length) = True := eq_true (by omega); (try rw [show ((0 : Int)).toNat = 0 from rfl] at hx193_0); (try rw [Addr.add_zero'] at hx193_0); replace p193 := eq_true p193; replace q193 := eq_true q193; obtain ⟨Ao47, co47, eo47⟩ := Kd.R_slice HO178.out; subst eo47; have hcz48_0 : w45.cell? ⟨gb180, 0, none⟩ = some (.slice Ao41 t172.length co41) := (blk_cell BK180.out 0).trans rfl; have hcz48_1 : w45.cell? ⟨gb180, 1, none⟩ = some (.bool t175) := (blk_cell BK180.out 1).trans rfl; have hfz48_0 := blk_frozen BK180.out 0; have hfz48_1 := blk_frozen BK180.out 1; obtain ⟨Ao49, co49, eo49⟩ := Kd.R_slice HO188.out; subst eo49) | (go_at_call 25; (with_reducible refine (stuff_Same.calls _ _ t172 t175 _ _ t172 t175 true _ ?side1 ?side2 ?side3 ?side4 A23.out).mono ?_); (case side1 => repeat (first | exact (Kd.R_reads' HO174.out).2.2 | (with_reducible refine Kd.C_alloc ?_ _) | (with_reducible refine Kd.C_drewN ?_ _) | (with_reducible refine Kd.C_drew ?_))); (case side2 => exact (Kd.R_reads' HO174.out).2.1); (case side3 => repeat (first | exact (Kd.R_reads' HO174.out).2.2 | (with_reducible refine Kd.C_alloc ?_ _) | (with_reducible refine Kd.C_drewN ?_ _) | (with_reducible refine Kd.C_drew ?_))); (case side4 => exact (Kd.R_reads' HO174.out).2.1); rintro e w50 ⟨rfl, hb⟩; have n0_ := Aside0.mk (Kd.R_below (by (with_reducible repeat (first | apply Kd.R_alloc | apply Kd.R_drewN | apply Kd.R_drew)); exact HO156.out) hb); have n1_ := Aside0.mk (Kd.R_below (by (with_reducible repeat (first | apply Kd.R_alloc | apply Kd.R_drewN | apply Kd.R_drew)); exact HO159.out) hb); have n2_ := Aside0.mk (Kd.R_below (by (with_reducible repeat (first | apply Kd.R_alloc | apply Kd.R_drewN | apply Kd.R_drew)); exact HO165.out) hb); have n3_ := Aside0.mk (Kd.S_below (by (with_reducible repeat (first | apply Kd.S_alloc | apply Kd.S_drewN | apply Kd.S_drew)); exact HO168.out) hb); have n4_ := Aside0.mk (Kd.R_below (by (with_reducible repeat (first | apply Kd.R_alloc | apply Kd.R_drewN | apply Kd.R_drew)); exact HO171.out) hb); have n5_ := Aside0.mk (Kd.R_below (by (with_reducible repeat (first | apply Kd.R_alloc | apply Kd.R_drewN | apply Kd.R_drew)); exact HO174.out) hb); have n6_ := Aside0.mk (Kd.R_below (by (with_reducible repeat (first | apply Kd.R_alloc | apply Kd.R_drewN | apply Kd.R_drew)); exact HO178.out) hb); have n7_ := Aside0.mk (Kd.R_below (by (with_reducible repeat (first | apply Kd.R_alloc | apply Kd.R_drewN | apply Kd.R_drew)); exact HO188.out) hb); have n8_ := Aside0.mk (Kd.R_below (by (with_reducible repeat (first | apply Kd.R_alloc | apply Kd.R_drewN | apply Kd.R_drew)); exact HL191_0.out) hb); have n9_ := Aside0.mk (Kd.R_below (by (with_reducible repeat (first | apply Kd.R_alloc | apply Kd.R_drewN | apply Kd.R_drew)); exact HL192_0.out) hb); have n10_ := Aside0.mk (blk_below (g := gb180) (o := .cells #[.slice Ao41 t172.length co41, .bool t175] 37 (0, 0)) (by (with_reducible repeat (first | refine qN ?_ _ | refine qD ?_ | refine qA ?_ _)); exact BK180.out) hb); have n11_ := Aside0.mk (Kd.C_below (by repeat (first | (with_reducible exact HR184.out) | (with_reducible refine Kd.C_alloc ?_ _) | (with_reducible refine Kd.C_drewN ?_ _) | (with_reducible refine Kd.C_drew ?_) | exact HR184.out)) hb); have n12_ := Aside0.mk (Kd.C_below (by repeat (first | (with_reducible exact HR191_0.out) | (with_reducible refine Kd.C_alloc ?_ _) | (with_reducible refine Kd.C_drewN ?_ _) | (with_reducible refine Kd.C_drew ?_) | exact HR191_0.out)) hb); have n13_ := Aside0.mk (Kd.C_below (by repeat (first | (with_reducible exact HR192_0.out) | (with_reducible refine Kd.C_alloc ?_ _) | (with_reducible refine Kd.C_drewN ?_ _) | (with_reducible refine Kd.C_drew ?_) | exact HR192_0.out)) hb); have n14_ := Aside0.mk (below_step (by repeat (first | (with_reducible first | exact HB.out | apply pA | apply pN | apply pD | refine pS ?_ GE180.out) | exact HB.out)) hb); clear HO156; clear HO159; clear HO165; clear HO168; clear HO171; clear HO174; clear HO178; clear HO188; clear HL191_0; clear HL192_0; clear BK180; clear HR184; clear HR191_0; clear HR192_0; clear HB; have HO156 := n0_; have HO159 := n1_; have HO165 := n2_; have HO168 := n3_; have HO171 := n4_; have HO174 := n5_; have HO178 := n6_; have HO188 := n7_; have HL191_0 := n8_; have HL192_0 := n9_; have BK180 := n10_; have HR184 := n11_; have HR191_0 := n12_; have HR192_0 := n13_; have HB := n14_; clear n0_ n1_ n2_ n3_ n4_ n5_ n6_ n7_ n8_ n9_ n10_ n11_ n12_ n13_ n14_; (try clear hb); (try clear hb2); (try clear hk); (try clear hi)) | ((with_reducible refine gate_dst (N := 89) rfl ?_); (try (refine gate_guard (by rfl) ?_; dsimp only)); refine Kd.R_lit (Kd.int .u8) _ 5 ?hg (N := 89) ?hd (xs := ([3] : List Int)) (inner := [.int .u8 3]) (ok := fun _ => True) (okp := fun _ => True) ?hr ?hp (fun _ hk => hk) trivial (Below.refl _ _) (Nat.le_refl _) (by simp) ?_; (case hd => rfl); (case hg => rfl); (case hr => first | (go_simp; done) | (go_simp; rfl)); (case hp => exact (Reps.one (show Kd.M (Kd.int .u8) _ _ _ 3 [.int .u8 3] from rfl) (Reps.none _ _))); intro v196 w51 ho52 hb hg_ hnew_; clear hg_ hnew_; (first | rw [← Ny195.out] at ho52 | (simp only [Int.reduceToNat] at ho52; rw [← Ny195.out] at ho52)); have n0_ := Aside0.mk (Kd.R_elder' (by (with_reducible repeat (first | apply Kd.R_alloc | apply Kd.R_drewN | apply Kd.R_drew)); exact HO156.out) (Kd.R_base ho52) hb); have n1_ := Aside0.mk (Kd.R_elder' (by (with_reducible repeat (first | apply Kd.R_alloc | apply Kd.R_drewN | apply Kd.R_drew)); exact HO159.out) (Kd.R_base ho52) hb); have n2_ := Aside0.mk (Kd.R_elder' (by (with_reducible repeat (first | apply Kd.R_alloc | apply Kd.R_drewN | apply Kd.R_drew)); exact HO165.out) (Kd.R_base ho52) hb); have n3_ := Aside0.mk (Kd.S_elder' (by (with_reducible repeat (first | apply Kd.S_alloc | apply Kd.S_drewN | apply Kd.S_drew)); exact HO168.out) (Kd.R_base ho52) hb); have n4_ := Aside0.mk (Kd.R_elder' (by (with_reducible repeat (first | apply Kd.R_alloc | apply Kd.R_drewN | apply Kd.R_drew)); exact HO171.out) (Kd.R_base ho52) hb); have n5_ := Aside0.mk (Kd.R_elder' (by (with_reducible repeat (first | apply Kd.R_alloc | apply Kd.R_drewN | apply Kd.R_drew)); exact HO174.out) (Kd.R_base ho52) hb); have n6_ := Aside0.mk (Kd.R_elder' (by (with_reducible repeat (first | apply Kd.R_alloc | apply Kd.R_drewN | apply Kd.R_drew)); exact HO178.out) (Kd.R_base ho52) hb); have n7_ := Aside0.mk (Kd.R_elder' (by (with_reducible repeat (first | apply Kd.R_alloc | apply Kd.R_drewN | apply Kd.R_drew)); exact HO188.out) (Kd.R_base ho52) hb); have n8_ := Aside0.mk (Kd.R_elder' (by (with_reducible repeat (first | apply Kd.R_alloc | apply Kd.R_drewN | apply Kd.R_drew)); exact HL191_0.out) (Kd.R_base ho52) hb); have n9_ := Aside0.mk (Kd.R_elder' (by (with_reducible repeat (first | apply Kd.R_alloc | apply Kd.R_drewN | apply Kd.R_drew)); exact HL192_0.out) (Kd.R_base ho52) hb); have n10_ := Aside0.mk (Kd.R_lower (Kd.R_new' (Kd.R_new' (Kd.R_new' (Kd.R_new' (Kd.R_new' (Kd.R_new' (Kd.R_new' (Kd.R_new' (Kd.R_new' ho52 (Kd.R_lt (by (with_reducible repeat (first | apply Kd.R_alloc | apply Kd.R_drewN | apply Kd.R_drew)); exact HO156.out))) (Kd.R_lt (by (with_reducible repeat (first | apply Kd.R_alloc | apply Kd.R_drewN | apply Kd.R_drew)); exact HO159.out))) (Kd.R_lt (by (with_reducible repeat (first | apply Kd.R_alloc | apply Kd.R_drewN | apply Kd.R_drew)); exact HO165.out))) (Kd.R_lt (by (with_reducible repeat (first | apply Kd.R_alloc | apply Kd.R_drewN | apply Kd.R_drew)); exact HO171.out))) (Kd.R_lt (by (with_reducible repeat (first | apply Kd.R_alloc | apply Kd.R_drewN | apply Kd.R_drew)); exact HO174.out))) (Kd.R_lt (by (with_reducible repeat (first | apply Kd.R_alloc | apply Kd.R_drewN | apply Kd.R_drew)); exact HO178.out))) (Kd.R_lt (by (with_reducible repeat (first | apply Kd.R_alloc | apply Kd.R_drewN | apply Kd.R_drew)); exact HO188.out))) (Kd.R_lt (by (with_reducible repeat (first | apply Kd.R_alloc | apply Kd.R_drewN | apply Kd.R_drew)); exact HL191_0.out))) (Kd.R_lt (by (with_reducible repeat (first | apply Kd.R_alloc | apply Kd.R_drewN | apply Kd.R_drew)); exact HL192_0.out))) (below_size (by repeat (first | (with_reducible first | exact HB.out | apply pA | apply pN | apply pD | refine pS ?_ GE180.out) | exact HB.out)))); have n11_ := Aside0.mk (blk_below (g := gb180) (o := .cells #[.slice Ao41 t172.length co41, .bool t175] 37 (0, 0)) (by (with_reducible repeat (first | refine qN ?_ _ | refine qD ?_ | refine qA ?_ _)); exact BK180.out) hb); have n12_ := Aside0.mk (Kd.C_below (by repeat (first | (with_reducible exact HR184.out) | (with_reducible refine Kd.C_alloc ?_ _) | (with_reducible refine Kd.C_drewN ?_ _) | (with_reducible refine Kd.C_drew ?_) | exact HR184.out)) hb); have n13_ := Aside0.mk (Kd.C_below (by repeat (first | (with_reducible exact HR191_0.out) | (with_reducible refine Kd.C_alloc ?_ _) | (with_reducible refine Kd.C_drewN ?_ _) | (with_reducible refine Kd.C_drew ?_) | exact HR191_0.out)) hb); have n14_ := Aside0.mk (Kd.C_below (by repeat (first | (with_reducible exact HR192_0.out) | (with_reducible refine Kd.C_alloc ?_ _) | (with_reducible refine Kd.C_drewN ?_ _) | (with_reducible refine Kd.C_drew ?_) | exact HR192_0.out)) hb); have n15_ := Aside0.mk (below_step (by repeat (first | (with_reducible first | exact HB.out | apply pA | apply pN | apply pD | refine pS ?_ GE180.out) | exact HB.out)) hb); clear HO156; clear HO159; clear HO165; clear HO168; clear HO171; clear HO174; clear HO178; clear HO188; clear HL191_0; clear HL192_0; clear BK180; clear HR184; clear HR191_0; clear HR192_0; clear HB; have HO156 := n0_; have HO159 := n1_; have HO165 := n2_; have HO168 := n3_; have HO171 := n4_; have HO174 := n5_; have HO178 := n6_; have HO188 := n7_; have HL191_0 := n8_; have HL192_0 := n9_; have HO197 := n10_; have BK180 := n11_; have HR184 := n12_; have HR191_0 := n13_; have HR192_0 := n14_; have HB := n15_; clear n0_ n1_ n2_ n3_ n4_ n5_ n6_ n7_ n8_ n9_ n10_ n11_ n12_ n13_ n14_ n15_; clear hb ho52; obtain ⟨Ao53, co53, eo53⟩ := Kd.R_slice HO197.out; subst eo53) | (go_at_call 14; (with_reducible refine (stuff_Escape.calls k _ _ y195 8 t198 _ ?side1 ?side2 A25.out).mono ?_); (case side1 => repeat (first | exact (Kd.R_reads' HO197.out).2.2 | (with_reducible refine Kd.C_alloc ?_ _) | (with_reducible refine Kd.C_drewN ?_ _) | (with_reducible refine Kd.C_drew ?_))); (case side2 => exact (Kd.R_reads' HO197.out).2.1); rintro e w54 ⟨v199, rfl, ho0, hb⟩; have n0_ := Aside0.mk (Kd.R_elder' (by (with_reducible repeat (first | apply Kd.R_alloc | apply Kd.R_drewN | apply Kd.R_drew)); exact HO156.out) (Kd.R_base ho0) hb); have n1_ := Aside0.mk (Kd.R_elder' (by (with_reducible repeat (first | apply Kd.R_alloc | apply Kd.R_drewN | apply Kd.R_drew)); exact HO159.out) (Kd.R_base ho0) hb); have n2_ := Aside0.mk (Kd.R_elder' (by (with_reducible repeat (first | apply Kd.R_alloc | apply Kd.R_drewN | apply Kd.R_drew)); exact HO165.out) (Kd.R_base ho0) hb); have n3_ := Aside0.mk (Kd.S_elder' (by (with_reducible repeat (first | apply Kd.S_alloc | apply Kd.S_drewN | apply Kd.S_drew)); exact HO168.out) (Kd.R_base ho0) hb); have n4_ := Aside0.mk (Kd.R_elder' (by (with_reducible repeat (first | apply Kd.R_alloc | apply Kd.R_drewN | apply Kd.R_drew)); exact HO171.out) (Kd.R_base ho0) hb); have n5_ := Aside0.mk (Kd.R_elder' (by (with_reducible repeat (first | apply Kd.R_alloc | apply Kd.R_drewN | apply Kd.R_drew)); exact HO174.out) (Kd.R_base ho0) hb); have n6_ := Aside0.mk (Kd.R_elder' (by (with_reducible repeat (first | apply Kd.R_alloc | apply Kd.R_drewN | apply Kd.R_drew)); exact HO178.out) (Kd.R_base ho0) hb); have n7_ := Aside0.mk (Kd.R_elder' (by (with_reducible repeat (first | apply Kd.R_alloc | apply Kd.R_drewN | apply Kd.R_drew)); exact HO188.out) (Kd.R_base ho0) hb); have n8_ := Aside0.mk (Kd.R_elder' (by (with_reducible repeat (first | apply Kd.R_alloc | apply Kd.R_drewN | apply Kd.R_drew)); exact HL191_0.out) (Kd.R_base ho0) hb); have n9_ := Aside0.mk (Kd.R_elder' (by (with_reducible repeat (first | apply Kd.R_alloc | apply Kd.R_drewN | apply Kd.R_drew)); exact HL192_0.out) (Kd.R_base ho0) hb); have n10_ := Aside0.mk (Kd.R_elder' (by (with_reducible repeat (first | apply Kd.R_alloc | apply Kd.R_drewN | apply Kd.R_drew)); exact HO197.out) (Kd.R_base ho0) hb); have n11_ := Aside0.mk (Kd.R_lower (Kd.R_new' (Kd.R_new' (Kd.R_new' (Kd.R_new' (Kd.R_new' (Kd.R_new' (Kd.R_new' (Kd.R_new' (Kd.R_new' (Kd.R_new' ho0 (Kd.R_lt (by (with_reducible repeat (first | apply Kd.R_alloc | apply Kd.R_drewN | apply Kd.R_drew)); exact HO156.out))) (Kd.R_lt (by (with_reducible repeat (first | apply Kd.R_alloc | apply Kd.R_drewN | apply Kd.R_drew)); exact HO159.out))) (Kd.R_lt (by (with_reducible repeat (first | apply Kd.R_alloc | apply Kd.R_drewN | apply Kd.R_drew)); exact HO165.out))) (Kd.R_lt (by (with_reducible repeat (first | apply Kd.R_alloc | apply Kd.R_drewN | apply Kd.R_drew)); exact HO171.out))) (Kd.R_lt (by (with_reducible repeat (first | apply Kd.R_alloc | apply Kd.R_drewN | apply Kd.R_drew)); exact HO174.out))) (Kd.R_lt (by (with_reducible repeat (first | apply Kd.R_alloc | apply Kd.R_drewN | apply Kd.R_drew)); exact HO178.out))) (Kd.R_lt (by (with_reducible repeat (first | apply Kd.R_alloc | apply Kd.R_drewN | apply Kd.R_drew)); exact HO188.out))) (Kd.R_lt (by (with_reducible repeat (first | apply Kd.R_alloc | apply Kd.R_drewN | apply Kd.R_drew)); exact HL191_0.out))) (Kd.R_lt (by (with_reducible repeat (first | apply Kd.R_alloc | apply Kd.R_drewN | apply Kd.R_drew)); exact HL192_0.out))) (Kd.R_lt (by (with_reducible repeat (first | apply Kd.R_alloc | apply Kd.R_drewN | apply Kd.R_drew)); exact HO197.out))) (below_size (by repeat (first | (with_reducible first | exact HB.out | apply pA | apply pN | apply pD | refine pS ?_ GE180.out) | exact HB.out)))); have n12_ := Aside0.mk (blk_below (g := gb180) (o := .cells #[.slice Ao41 t172.length co41, .bool t175] 37 (0, 0)) (by (with_reducible repeat (first | refine qN ?_ _ | refine qD ?_ | refine qA ?_ _)); exact BK180.out) hb); have n13_ := Aside0.mk (Kd.C_below (by repeat (first | (with_reducible exact HR184.out) | (with_reducible refine Kd.C_alloc ?_ _) | (with_reducible refine Kd.C_drewN ?_ _) | (with_reducible refine Kd.C_drew ?_) | exact HR184.out)) hb); have n14_ := Aside0.mk (Kd.C_below (by repeat (first | (with_reducible exact HR191_0.out) | (with_reducible refine Kd.C_alloc ?_ _) | (with_reducible refine Kd.C_drewN ?_ _) | (with_reducible refine Kd.C_drew ?_) | exact HR191_0.out)) hb); have n15_ := Aside0.mk (Kd.C_below (by repeat (first | (with_reducible exact HR192_0.out) | (with_reducible refine Kd.C_alloc ?_ _) | (with_reducible refine Kd.C_drewN ?_ _) | (with_reducible refine Kd.C_drew ?_) | exact HR192_0.out)) hb); have n16_ := Aside0.mk (below_step (by repeat (first | (with_reducible first | exact HB.out | apply pA | apply pN | apply pD | refine pS ?_ GE180.out) | exact HB.out)) hb); clear HO156; clear HO159; clear HO165; clear HO168; clear HO171; clear HO174; clear HO178; clear HO188; clear HL191_0; clear HL192_0; clear HO197; clear BK180; clear HR184; clear HR191_0; clear HR192_0; clear HB; have HO156 := n0_; have HO159 := n1_; have HO165 := n2_; have HO168 := n3_; have HO171 := n4_; have HO174 := n5_; have HO178 := n6_; have HO188 := n7_; have HL191_0 := n8_; have HL192_0 := n9_; have HO197 := n10_; have HO200 := n11_; have BK180 := n12_; have HR184 := n13_; have HR191_0 := n14_; have HR192_0 := n15_; have HB := n16_; clear n0_ n1_ n2_ n3_ n4_ n5_ n6_ n7_ n8_ n9_ n10_ n11_ n12_ n13_ n14_ n15_ n16_; (try clear hb); (try clear hb2); (try clear hk); (try clear hi); (try clear ho0); obtain ⟨Ao55, co55, eo55⟩ := Kd.R_slice HO200.out; subst eo55))
                                        go_ret
                                        exact ⟨by first | rfl | (simp [errW_none, errW_some] <;> rfl) | (simp [*, errW_none, errW_some] <;> rfl), by repeat (first | (with_reducible first | exact HB.out | apply pA | apply pN | apply pD | refine pS ?_ GE180.out) | exact HB.out)⟩
                                      · replace c24 := Bool.eq_false_iff.mpr c24
                                        subst c24
                                        have H1 : (some false) = some r := by rw [if_neg (show ¬ (false = true) by decide)] at H; exact H
                                        clear H
                                        have H := H1
                                        clear H1
                                        exact absurd ((Option.some.inj H).trans hlaw_.out) (by decide)
                                    · rw [if_neg c22] at H
                                      have c22b0 : ((t185.length : Int) == 1) = false := beq_eq_false_iff_ne.mpr c22
                                      have c22b1 : ((t185.length : Int) != 1) = true := bne_iff_ne.mpr c22
                                      exact absurd ((Option.some.inj H).trans hlaw_.out) (by decide)
                                  · rw [if_neg c21] at H
                                    have c21b0 : (t186 == 0) = false := beq_eq_false_iff_ne.mpr c21
                                    have c21b1 : (t186 != 0) = true := bne_iff_ne.mpr c21
                                    exact absurd ((Option.some.inj H).trans hlaw_.out) (by decide)
                                · rw [if_neg c20] at H
                                  have c20b0 : ((t172.length : Int) == 0) = false := beq_eq_false_iff_ne.mpr c20
                                  have c20b1 : ((t172.length : Int) != 0) = true := bne_iff_ne.mpr c20
                                  have c20b2 : ¬ (t172 = []) := fun h_ => c20 (by rw [h_]; rfl)
                                  exact absurd ((Option.some.inj H).trans hlaw_.out) (by decide)
                              · rw [if_neg c19] at H
                                have c19b0 : ((t176.length : Int) == 1) = false := beq_eq_false_iff_ne.mpr c19
                                have c19b1 : ((t176.length : Int) != 1) = true := bne_iff_ne.mpr c19
                                exact absurd ((Option.some.inj H).trans hlaw_.out) (by decide)
                            · replace c18 := Bool.eq_false_iff.mpr c18
                              subst c18
                              have H1 : (some false) = some r := by rw [if_neg (show ¬ (false = true) by decide)] at H; exact H
                              clear H
                              have H := H1
                              clear H1
                              exact absurd ((Option.some.inj H).trans hlaw_.out) (by decide)
                          · rw [if_neg c17] at H
                            have c17b0 : ((rd (rd_L2 t166 1) 0) == 126) = false := beq_eq_false_iff_ne.mpr c17
                            have c17b1 : ((rd (rd_L2 t166 1) 0) != 126) = true := bne_iff_ne.mpr c17
                            exact absurd ((Option.some.inj H).trans hlaw_.out) (by decide)
                        · rw [if_neg c16] at H
                          exact absurd H (by simp)
                      · rw [if_neg c15] at H
                        have c15b0 : (((rd_L2 t166 1).length : Int) == 1) = false := beq_eq_false_iff_ne.mpr c15
                        have c15b1 : (((rd_L2 t166 1).length : Int) != 1) = true := bne_iff_ne.mpr c15
                        exact absurd ((Option.some.inj H).trans hlaw_.out) (by decide)
                    · rw [if_neg c14] at H
                      exact absurd H (by simp)
                  · rw [if_neg c13] at H
                    have c13b0 : ((t166.length : Int) == 2) = false := beq_eq_false_iff_ne.mpr c13
                    have c13b1 : ((t166.length : Int) != 2) = true := bne_iff_ne.mpr c13
                    exact absurd ((Option.some.inj H).trans hlaw_.out) (by decide)
                · rw [if_neg c12] at H
                  have c12b0 : ((rd t157 2) == 94) = false := beq_eq_false_iff_ne.mpr c12
                  have c12b1 : ((rd t157 2) != 94) = true := bne_iff_ne.mpr c12
                  exact absurd ((Option.some.inj H).trans hlaw_.out) (by decide)
              · rw [if_neg c11] at H
                exact absurd H (by simp)
            · rw [if_neg c10] at H
              have c10b0 : ((rd t157 1) == 125) = false := beq_eq_false_iff_ne.mpr c10
              have c10b1 : ((rd t157 1) != 125) = true := bne_iff_ne.mpr c10
              exact absurd ((Option.some.inj H).trans hlaw_.out) (by decide)
          · rw [if_neg c9] at H
            exact absurd H (by simp)
        · rw [if_neg c7] at H
          exact absurd H (by simp)
      · rw [if_neg c6] at H
        exact absurd H (by simp)
    · rw [if_neg c5] at H
      have c5b0 : ((t157.length : Int) == 4) = false := beq_eq_false_iff_ne.mpr c5
      have c5b1 : ((t157.length : Int) != 4) = true := bne_iff_ne.mpr c5
      exact absurd ((Option.some.inj H).trans hlaw_.out) (by decide)
  · rw [if_neg c2] at H
    exact absurd H (by simp)

def portreevelaw07_shown.f (k : Nat) : Option Bool := (portreevelaw07_shown_g.f k).bind fun b => if b = true then some true else none
theorem portreevelaw07_shown.mono : ∀ k, LeO (portreevelaw07_shown.f k) (portreevelaw07_shown.f (k + 1)) := fun k => LeO.bind (portreevelaw07_shown_g.mono k) (fun _ => LeO.refl _)
theorem portreevelaw07_shown.calls (k : Nat)  (r : Bool) (w : World) (h : portreevelaw07_shown.f k  = some r) :
    Calls Try.prog 10 #[] w fun e w' => e = .returned (.bool r) ∧ Below w.heap.size w w' := by
  unfold portreevelaw07_shown.f at h
  obtain ⟨b, hb, hc⟩ := Option.bind_eq_some_iff.1 h
  cases b with
  | false => exact absurd hc (by simp)
  | true =>
    rw [if_pos rfl] at hc
    obtain rfl := Option.some.inj hc
    exact portreevelaw07_shown_g.calls k true w (Aside0.mk rfl) hb

/-! ### portreeveref07_Plain: function 12 -/
mutual
def portreeveref07_Plain.l0 : Nat → List Int → List Int → Int → Option (List Int × Int)
  | 0, _, _, _ => none
  | k + 1, x0, x4, x5 => if x5 < (x0.length : Int) then (if 0 ≤ x5 then (if (rd x0 x5) = 125 then (if (wrap64 (x5 + 1)) = (x0.length : Int) then (portreeveref07_Plain.j1 k x0 x4 x5 true) else (if 0 ≤ (wrap64 (x5 + 1)) then (if (wrap64 (x5 + 1)) < (x0.length : Int) then (portreeveref07_Plain.j1 k x0 x4 x5 ((rd x0 (wrap64 (x5 + 1))) == 126)) else (none)) else (none))) else (if (rd x0 x5) = 126 then (some (([] : List Int), 2)) else (if x4.length < 140737488355328 then (portreeveref07_Plain.l0 k x0 (x4 ++ [rd x0 x5]) (wrap64 (x5 + 1))) else (none)))) else (none)) else (some (x4, 0))
def portreeveref07_Plain.j1 : Nat → List Int → List Int → Int → Bool → Option (List Int × Int)
  | 0, _, _, _, _ => none
  | k + 1, x0, x4, x5, x31 => if x31 = true then (some (([] : List Int), 2)) else (if 0 ≤ (wrap64 (x5 + 1)) then (if (wrap64 (x5 + 1)) < (x0.length : Int) then (if x4.length < 140737488355328 then (portreeveref07_Plain.l0 k x0 (x4 ++ [Go.bits .xor .u8 (rd x0 (wrap64 (x5 + 1))) 32]) (wrap64 ((wrap64 (x5 + 1)) + 1))) else (none)) else (none)) else (none))
end
def portreeveref07_Plain.f (k : Nat) (l0 : List Int) : Option (List Int × Int) := portreeveref07_Plain.l0 k l0 ([] : List Int) 0
theorem portreeveref07_Plain.mono_l : ∀ k, (∀ y0 y1 y2, LeO (portreeveref07_Plain.l0 k y0 y1 y2) (portreeveref07_Plain.l0 (k + 1) y0 y1 y2)) ∧ (∀ y0 y1 y2 y3, LeO (portreeveref07_Plain.j1 k y0 y1 y2 y3) (portreeveref07_Plain.j1 (k + 1) y0 y1 y2 y3))
  | 0 => ⟨fun _ _ _ r h => by simp [portreeveref07_Plain.l0] at h, fun _ _ _ _ r h => by simp [portreeveref07_Plain.j1] at h⟩
  | k + 1 => by
    obtain ⟨ih0, ih1⟩ := portreeveref07_Plain.mono_l k
    refine ⟨?_, ?_⟩
    · intro y0 y1 y2
      unfold portreeveref07_Plain.l0
      repeat' first
      | (with_reducible exact ih0 _ _ _)
      | (with_reducible exact ih1 _ _ _ _)
      | (with_reducible exact LeO.refl _)
      | (with_reducible exact LeO.none _)
      | (with_reducible refine LeO.ite ?_ ?_)
      | (with_reducible refine LeO.bind ?_ (fun _ => ?_))
      | exact ih0 _ _ _
      | exact ih1 _ _ _ _
      | exact LeO.none _
      | refine LeO.ite ?_ ?_
      | refine LeO.bind ?_ (fun _ => ?_)
    · intro y0 y1 y2 y3
      unfold portreeveref07_Plain.j1
      repeat' first
      | (with_reducible exact ih0 _ _ _)
      | (with_reducible exact ih1 _ _ _ _)
      | (with_reducible exact LeO.refl _)
      | (with_reducible exact LeO.none _)
      | (with_reducible refine LeO.ite ?_ ?_)
      | (with_reducible refine LeO.bind ?_ (fun _ => ?_))
      | exact ih0 _ _ _
      | exact ih1 _ _ _ _
      | exact LeO.none _
      | refine LeO.ite ?_ ?_
      | refine LeO.bind ?_ (fun _ => ?_)
theorem portreeveref07_Plain.mono : ∀ a0 k, LeO (portreeveref07_Plain.f k a0) (portreeveref07_Plain.f (k + 1) a0) := by
  intro a0 k
  obtain ⟨ih0, ih1⟩ := portreeveref07_Plain.mono_l k
  unfold portreeveref07_Plain.f
  repeat' first
      | (with_reducible exact ih0 _ _ _)
      | (with_reducible exact ih1 _ _ _ _)
      | (with_reducible exact LeO.refl _)
      | (with_reducible exact LeO.none _)
      | (with_reducible refine LeO.ite ?_ ?_)
      | (with_reducible refine LeO.bind ?_ (fun _ => ?_))
      | exact ih0 _ _ _
      | exact ih1 _ _ _ _
      | exact LeO.none _
      | refine LeO.ite ?_ ?_
      | refine LeO.bind ?_ (fun _ => ?_)
set_option maxHeartbeats 8000000 in
set_option maxRecDepth 100000 in
theorem portreeveref07_Plain.calls (k : Nat) (A0 : Option Addr) (c0 : Nat) (l0 : List Int) (r1 : List Int) (r2 : Int) (w : World) (hr0 : Kd.C (Kd.int .u8) w A0 l0.length l0) (hc0 : l0.length ≤ c0) (h : portreeveref07_Plain.f k l0 = some (r1, r2)) :
    Calls Try.prog 12 #[.slice A0 l0.length c0] w fun e w' => ∃ v0_ : Value, e = .returned (.tuple #[v0_, .int .i64 r2]) ∧ Kd.R (Kd.int .u8) 5 w' w.heap.size (fun _ => True) v0_ r1 ∧ Below w.heap.size w w' := by
  have HR0 := Aside0.mk hr0
  have HC0 := Aside0.mk hc0
  clear hr0 hc0
  have HB := Aside0.mk (Below.refl w.heap.size w)
  have H : (portreeveref07_Plain.l0 k l0 ([] : List Int) 0) = some (r1, r2) := h
  clear h
  have H' := Aside0.mk H
  clear H
  go_enter Try.func12, Try.ntmps12
  go_wp2
  go_loopg [4, 5] k (fun kq v4 v5 w' => ∃ (x4_1 : List Int) (x5_1 : Int), v5 = .int .i64 x5_1 ∧ Aside0 (portreeveref07_Plain.l0 kq l0 x4_1 x5_1 = some (r1, r2)) ∧ Aside0 (kq ≤ k) ∧ Aside0 (Kd.R (Kd.int .u8) 5 w' w.heap.size (fun _ => True) v4 x4_1) ∧ Aside0 (Below w.heap.size w w'))
  case atStart => exact ⟨(([] : List Int)), (0), (by first | rfl | (simp; done) | (simp [*]; done)), H', ⟨Nat.le_refl _⟩, ⟨by first | exact Kd.R_nil _ _ _ _ _ | exact Kd.N_nil _ _ _ _ _ | exact Kd.V_nil _ _ _ _ _ | exact Kd.Q_nil _ _ _ _ _ | exact Kd.S_nil _ _ _ _ _⟩, ⟨by repeat (first | (with_reducible first | exact HB.out | apply pA | apply pN | apply pD) | exact HB.out)⟩⟩
  case round =>
    clear H'
    try clear c1
    obtain ⟨x4_1, x5_1, rfl, HA, HK1, HO_4, HB⟩ := hrel
    cases gk with
    | zero => exact absurd HA.out (by simp [portreeveref07_Plain.l0])
    | succ k1 =>
      have H := HA.out
      clear HA
      simp only [portreeveref07_Plain.l0] at H
      by_cases c2 : x5_1 < (l0.length : Int)
      · rw [if_pos c2] at H
        have c2b0 : decide (x5_1 < (l0.length : Int)) = true := decide_eq_true c2
        clear c2
        by_cases c3 : 0 ≤ x5_1
        · rw [if_pos c3] at H
          have c3b0 : decide (0 ≤ x5_1) = true := decide_eq_true c3
          clear c3
          by_cases c4 : (rd l0 x5_1) = 125
          · rw [if_pos c4] at H
            have c4b0 : ((rd l0 x5_1) == 125) = true := beq_iff_eq.mpr c4
            have c4b1 : ((rd l0 x5_1) != 125) = false := bne_eq_false_iff_eq.mpr c4
            clear c4
            have HC5 := Aside0.mk H
            clear H
            have p201 : 0 ≤ (x5_1 : Int) := of_decide_eq_true (by first | (with_reducible assumption) | assumption)
            have q201 : x5_1 < (l0.length : Int) := of_decide_eq_true (by first | (with_reducible assumption) | assumption)
            obtain ⟨ad201, e201, hx201_0⟩ := Kd.at_int HR0.out x5_1 p201 q201
            cases e201
            replace hx201_0 := (HB.out.cell (World.block_lt_of_cell? w _ hx201_0)).trans hx201_0
            replace p201 := eq_true p201
            replace q201 := eq_true q201
            go_upto_region 7 with (fail)
            go_cut [31] (fun v31 wc => ∃ (kq : Nat) (x31_4 : Bool), v31 = .bool x31_4 ∧ Aside0 (portreeveref07_Plain.j1 kq l0 x4_1 x5_1 x31_4 = some (r1, r2)) ∧ Aside0 (kq ≤ k1) ∧ Aside0 (Kd.R (Kd.int .u8) 5 wc w.heap.size (fun _ => True) u4 x4_1) ∧ Aside0 (Below w.heap.size w wc))
            case first =>
              have H := HC5.out
              clear HC5
              by_cases c6 : (wrap64 (x5_1 + 1)) = (l0.length : Int)
              · rw [if_pos c6] at H
                have c6b0 : ((wrap64 (x5_1 + 1)) == (l0.length : Int)) = true := beq_iff_eq.mpr c6
                have c6b1 : ((wrap64 (x5_1 + 1)) != (l0.length : Int)) = false := bne_eq_false_iff_eq.mpr c6
                clear c6
                (first | rw [c6b0] | (simp only [i64_w, i32_w]; rw [c6b0]) | skip)
                have H' := Aside0.mk H
                clear H
                go_wp2
                go_meet
                case rel => exact ⟨_, (true), (by first | rfl | (simp; done) | (simp [*]; done)), H', ⟨by have := HK1.out; first | omega | exact Nat.le_refl _⟩, ⟨by (with_reducible repeat (first | apply Kd.R_alloc | apply Kd.R_drewN | apply Kd.R_drew)); exact HO_4.out⟩, ⟨by repeat (first | (with_reducible first | exact HB.out | apply pA | apply pN | apply pD) | exact HB.out)⟩⟩
              · rw [if_neg c6] at H
                have c6b0 : ((wrap64 (x5_1 + 1)) == (l0.length : Int)) = false := beq_eq_false_iff_ne.mpr c6
                have c6b1 : ((wrap64 (x5_1 + 1)) != (l0.length : Int)) = true := bne_iff_ne.mpr c6
                (first | rw [c6b0] | (simp only [i64_w, i32_w]; rw [c6b0]) | skip)
                obtain ⟨ji7, hji7⟩ : ∃ j_ : Int, (wrap64 (x5_1 + 1)) = j_ := ⟨_, rfl⟩
                replace H : (if 0 ≤ (ji7) then (if (ji7) < (l0.length : Int) then (portreeveref07_Plain.j1 k1 l0 x4_1 x5_1 ((rd l0 (ji7)) == 126)) else (none)) else (none)) = some (r1, r2) := by first | (rw [hji7] at H; exact H) | (simp only [hji7] at H ⊢; exact H)
                (try rw [hji7] at c6b0)
                (try rw [hji7] at c6b1)
                have hji7w : (IntKind.i64.wrap (x5_1 + 1)) = ji7 := (i64_w _).trans hji7
                by_cases c8 : 0 ≤ (ji7)
                · rw [if_pos c8] at H
                  have c8b0 : decide (0 ≤ (ji7)) = true := decide_eq_true c8
                  clear c8
                  by_cases c9 : (ji7) < (l0.length : Int)
                  · rw [if_pos c9] at H
                    have c9b0 : decide ((ji7) < (l0.length : Int)) = true := decide_eq_true c9
                    clear c9
                    have H' := Aside0.mk H
                    clear H
                    have p202 : 0 ≤ ((ji7) : Int) := of_decide_eq_true (by first | (with_reducible assumption) | assumption)
                    have q202 : (ji7) < (l0.length : Int) := of_decide_eq_true (by first | (with_reducible assumption) | assumption)
                    obtain ⟨ad202, e202, hx202_0⟩ := Kd.at_int HR0.out (ji7) p202 q202
                    obtain rfl : ad201 = ad202 := (by injection e202)
                    replace hx202_0 := (HB.out.cell (World.block_lt_of_cell? w _ hx202_0)).trans hx202_0
                    replace p202 := eq_true p202
                    replace q202 := eq_true q202
                    go_wp2
                    go_meet
                    case rel => exact ⟨_, (((rd l0 (ji7)) == 126)), (by first | rfl | (simp; done) | (simp only [← hji7] <;> (first | rfl | simp)) | (simp [*]; done)), H', ⟨by have := HK1.out; first | omega | exact Nat.le_refl _⟩, ⟨by (with_reducible repeat (first | apply Kd.R_alloc | apply Kd.R_drewN | apply Kd.R_drew)); exact HO_4.out⟩, ⟨by repeat (first | (with_reducible first | exact HB.out | apply pA | apply pN | apply pD) | exact HB.out)⟩⟩
                  · rw [if_neg c9] at H
                    exact absurd H (by simp)
                · rw [if_neg c8] at H
                  exact absurd H (by simp)
            case rest =>
              clear HC5
              try clear c1
              try clear c2
              try clear c2b0
              try clear p2
              try clear q2
              try clear hx2
              try clear c3
              try clear c3b0
              try clear c4
              try clear c4b0
              try clear c4b1
              try clear c6
              try clear c6b0
              try clear c6b1
              try clear p6
              try clear c8
              try clear c8b0
              try clear c9
              try clear c9b0
              try clear hx201_0
              try clear hx202_0
              try clear p201
              try clear p202
              try clear q201
              try clear q202
              obtain ⟨kq, x31_4, rfl, HA, HJ4, HO_4, HB⟩ := hcut
              cases kq with
              | zero => exact absurd HA.out (by simp [portreeveref07_Plain.j1])
              | succ kj4 =>
                have H := HA.out
                clear HA
                simp only [portreeveref07_Plain.j1] at H
                by_cases c10 : x31_4 = true
                · subst c10
                  have H1 : (some (([] : List Int), 2)) = some (r1, r2) := by rw [if_pos rfl] at H; exact H
                  clear H
                  have H := H1
                  clear H1
                  simp only [Option.some.injEq, Prod.mk.injEq] at H
                  obtain ⟨rfl, rfl⟩ := H
                  go_wp2
                  go_ret2
                  exact ⟨_, by first | rfl | (simp [errW_none, errW_some] <;> rfl) | (simp [*, errW_none, errW_some] <;> rfl), by first | exact Kd.R_nil _ _ _ _ _ | exact Kd.N_nil _ _ _ _ _ | exact Kd.V_nil _ _ _ _ _ | exact Kd.Q_nil _ _ _ _ _ | exact Kd.S_nil _ _ _ _ _, by repeat (first | (with_reducible first | exact HB.out | apply pA | apply pN | apply pD) | exact HB.out)⟩
                · replace c10 := Bool.eq_false_iff.mpr c10
                  subst c10
                  have H1 : (if 0 ≤ (wrap64 (x5_1 + 1)) then (if (wrap64 (x5_1 + 1)) < (l0.length : Int) then (if x4_1.length < 140737488355328 then (portreeveref07_Plain.l0 kj4 l0 (x4_1 ++ [Go.bits .xor .u8 (rd l0 (wrap64 (x5_1 + 1))) 32]) (wrap64 ((wrap64 (x5_1 + 1)) + 1))) else (none)) else (none)) else (none)) = some (r1, r2) := by rw [if_neg (show ¬ (false = true) by decide)] at H; exact H
                  clear H
                  have H := H1
                  clear H1
                  obtain ⟨ji11, hji11⟩ : ∃ j_ : Int, (wrap64 (x5_1 + 1)) = j_ := ⟨_, rfl⟩
                  replace H : (if 0 ≤ (ji11) then (if (ji11) < (l0.length : Int) then (if x4_1.length < 140737488355328 then (portreeveref07_Plain.l0 kj4 l0 (x4_1 ++ [Go.bits .xor .u8 (rd l0 (ji11)) 32]) (wrap64 ((ji11) + 1))) else (none)) else (none)) else (none)) = some (r1, r2) := by first | (rw [hji11] at H; exact H) | (simp only [hji11] at H ⊢; exact H)
                  (try rw [hji11] at hji7)
                  have hji11w : (IntKind.i64.wrap (x5_1 + 1)) = ji11 := (i64_w _).trans hji11
                  by_cases c12 : 0 ≤ (ji11)
                  · rw [if_pos c12] at H
                    have c12b0 : decide (0 ≤ (ji11)) = true := decide_eq_true c12
                    clear c12
                    by_cases c13 : (ji11) < (l0.length : Int)
                    · rw [if_pos c13] at H
                      have c13b0 : decide ((ji11) < (l0.length : Int)) = true := decide_eq_true c13
                      clear c13
                      by_cases c14 : x4_1.length < 140737488355328
                      · rw [if_pos c14] at H
                        have LMc14 := Aside0.mk c14
                        clear c14
                        obtain ⟨y204, hy204⟩ : ∃ y_ : List Int, y_ = (x4_1 ++ [Go.bits .xor .u8 (rd l0 (ji11)) 32]) := ⟨_, rfl⟩
                        replace H : (portreeveref07_Plain.l0 kj4 l0 y204 (wrap64 ((ji11) + 1))) = some (r1, r2) := by first | (rw [hy204]; with_reducible exact H) | (have H2_ := (Option.bind_some _ _).symm.trans H; rw [hy204]; with_reducible exact H2_) | (have H2_ := (Option.bind_some _ _).symm.trans H; with_reducible exact H2_) | with_reducible exact H | (rw [hy204]; exact H) | exact H
                        have Ny204 := Aside0.mk hy204
                        clear hy204
                        have H' := Aside0.mk H
                        clear H
                        have p203 : 0 ≤ ((ji11) : Int) := of_decide_eq_true (by first | (with_reducible assumption) | assumption)
                        have q203 : (ji11) < (l0.length : Int) := of_decide_eq_true (by first | (with_reducible assumption) | assumption)
                        obtain ⟨ad203, e203, hx203_0⟩ := Kd.at_int HR0.out (ji11) p203 q203
                        obtain rfl : ad201 = ad203 := (by injection e203)
                        replace hx203_0 := (HB.out.cell (World.block_lt_of_cell? w _ hx203_0)).trans hx203_0
                        replace p203 := eq_true p203
                        replace q203 := eq_true q203
                        go_wp2_with (first | ((with_reducible refine gate_builtin (b := .append) (xs := #[.tmp 41, .tmp 43]) rfl ?_); at_builtin; refine Kd.R_append (Kd.int .u8) (w0 := w) w.heap.size rfl (.tmp 41) (.tmp 43) 22 5 (.int .u8 0) 1 rfl Try.underlying22 info5 rfl (by decide) (by omega) u4 x4_1 (Go.bits .xor .u8 (rd l0 (ji11)) 32) [.int .u8 (Go.bits .xor .u8 (rd l0 (ji11)) 32)] (fun _ => True) (fun _ => False) rfl rfl ?aP (fun _ hk => hk.elim) ?aF ?aO ?aB ?aS ?aL ?_; (case aP => exact rfl); (case aB => exact (by repeat (first | (with_reducible first | exact HB.out | apply pA | apply pN | apply pD) | exact HB.out))); (case aF => exact (fun _ _ => trivial)); (case aO => exact (by (with_reducible repeat (first | apply Kd.R_alloc | apply Kd.R_drewN | apply Kd.R_drew)); exact HO_4.out)); (case aS => exact (below_size (by repeat (first | (with_reducible first | exact HB.out | apply pA | apply pN | apply pD) | exact HB.out)))); (case aL => have := LMc14.out; omega); intro v205 w15 ho hb hg hat; rw [← Ny204.out] at ho; have n0_ := Aside0.mk (hb); have n1_ := Aside0.mk (ho); clear HB; clear HO_4; have HB := n0_; have HO206 := n1_; clear n0_ n1_; clear ho hb hg hat))
                        go_roundg kj4
                        case measure => have := HK1.out; have := HJ4.out; omega
                        case rel => exact ⟨(y204), (wrap64 ((ji11) + 1)), (by first | rfl | (simp; done) | (simp only [← hji11] <;> (first | rfl | simp)) | (simp [*]; done)), H', ⟨by have := HK1.out; have := HJ4.out; omega⟩, ⟨by (with_reducible repeat (first | apply Kd.R_alloc | apply Kd.R_drewN | apply Kd.R_drew)); exact HO206.out⟩, ⟨by repeat (first | (with_reducible first | exact HB.out | apply pA | apply pN | apply pD) | exact HB.out)⟩⟩
                      · rw [if_neg c14] at H
                        exact absurd H (by simp)
                    · rw [if_neg c13] at H
                      exact absurd H (by simp)
                  · rw [if_neg c12] at H
                    exact absurd H (by simp)
          · rw [if_neg c4] at H
            have c4b0 : ((rd l0 x5_1) == 125) = false := beq_eq_false_iff_ne.mpr c4
            have c4b1 : ((rd l0 x5_1) != 125) = true := bne_iff_ne.mpr c4
            by_cases c16 : (rd l0 x5_1) = 126
            · rw [if_pos c16] at H
              have c16b0 : ((rd l0 x5_1) == 126) = true := beq_iff_eq.mpr c16
              have c16b1 : ((rd l0 x5_1) != 126) = false := bne_eq_false_iff_eq.mpr c16
              clear c16
              simp only [Option.some.injEq, Prod.mk.injEq] at H
              obtain ⟨rfl, rfl⟩ := H
              have p201 : 0 ≤ (x5_1 : Int) := of_decide_eq_true (by first | (with_reducible assumption) | assumption)
              have q201 : x5_1 < (l0.length : Int) := of_decide_eq_true (by first | (with_reducible assumption) | assumption)
              obtain ⟨ad201, e201, hx201_0⟩ := Kd.at_int HR0.out x5_1 p201 q201
              cases e201
              replace hx201_0 := (HB.out.cell (World.block_lt_of_cell? w _ hx201_0)).trans hx201_0
              replace p201 := eq_true p201
              replace q201 := eq_true q201
              go_wp2
              go_ret2
              exact ⟨_, by first | rfl | (simp [errW_none, errW_some] <;> rfl) | (simp [*, errW_none, errW_some] <;> rfl), by first | exact Kd.R_nil _ _ _ _ _ | exact Kd.N_nil _ _ _ _ _ | exact Kd.V_nil _ _ _ _ _ | exact Kd.Q_nil _ _ _ _ _ | exact Kd.S_nil _ _ _ _ _, by repeat (first | (with_reducible first | exact HB.out | apply pA | apply pN | apply pD) | exact HB.out)⟩
            · rw [if_neg c16] at H
              have c16b0 : ((rd l0 x5_1) == 126) = false := beq_eq_false_iff_ne.mpr c16
              have c16b1 : ((rd l0 x5_1) != 126) = true := bne_iff_ne.mpr c16
              by_cases c17 : x4_1.length < 140737488355328
              · rw [if_pos c17] at H
                have LMc17 := Aside0.mk c17
                clear c17
                obtain ⟨y207, hy207⟩ : ∃ y_ : List Int, y_ = (x4_1 ++ [rd l0 x5_1]) := ⟨_, rfl⟩
                replace H : (portreeveref07_Plain.l0 k1 l0 y207 (wrap64 (x5_1 + 1))) = some (r1, r2) := by first | (rw [hy207]; with_reducible exact H) | (have H2_ := (Option.bind_some _ _).symm.trans H; rw [hy207]; with_reducible exact H2_) | (have H2_ := (Option.bind_some _ _).symm.trans H; with_reducible exact H2_) | with_reducible exact H | (rw [hy207]; exact H) | exact H
                have Ny207 := Aside0.mk hy207
                clear hy207
                have H' := Aside0.mk H
                clear H
                have p201 : 0 ≤ (x5_1 : Int) := of_decide_eq_true (by first | (with_reducible assumption) | assumption)
                have q201 : x5_1 < (l0.length : Int) := of_decide_eq_true (by first | (with_reducible assumption) | assumption)
                obtain ⟨ad201, e201, hx201_0⟩ := Kd.at_int HR0.out x5_1 p201 q201
                cases e201
                replace hx201_0 := (HB.out.cell (World.block_lt_of_cell? w _ hx201_0)).trans hx201_0
                replace p201 := eq_true p201
                replace q201 := eq_true q201
                go_wp2_with (first | ((with_reducible refine gate_builtin (b := .append) (xs := #[.tmp 41, .tmp 43]) rfl ?_); at_builtin; refine Kd.R_append (Kd.int .u8) (w0 := w) w.heap.size rfl (.tmp 41) (.tmp 43) 22 5 (.int .u8 0) 1 rfl Try.underlying22 info5 rfl (by decide) (by omega) u4 x4_1 (rd l0 x5_1) [.int .u8 (rd l0 x5_1)] (fun _ => True) (fun _ => False) rfl rfl ?aP (fun _ hk => hk.elim) ?aF ?aO ?aB ?aS ?aL ?_; (case aP => exact rfl); (case aB => exact (by repeat (first | (with_reducible first | exact HB.out | apply pA | apply pN | apply pD) | exact HB.out))); (case aF => exact (fun _ _ => trivial)); (case aO => exact (by (with_reducible repeat (first | apply Kd.R_alloc | apply Kd.R_drewN | apply Kd.R_drew)); exact HO_4.out)); (case aS => exact (below_size (by repeat (first | (with_reducible first | exact HB.out | apply pA | apply pN | apply pD) | exact HB.out)))); (case aL => have := LMc17.out; omega); intro v208 w18 ho hb hg hat; rw [← Ny207.out] at ho; have n0_ := Aside0.mk (hb); have n1_ := Aside0.mk (ho); clear HB; clear HO_4; have HB := n0_; have HO209 := n1_; clear n0_ n1_; clear ho hb hg hat))
                go_roundg k1
                case measure => have := HK1.out; omega
                case rel => exact ⟨(y207), (wrap64 (x5_1 + 1)), (by first | rfl | (simp; done) | (simp [*]; done)), H', ⟨by have := HK1.out; omega⟩, ⟨by (with_reducible repeat (first | apply Kd.R_alloc | apply Kd.R_drewN | apply Kd.R_drew)); exact HO209.out⟩, ⟨by repeat (first | (with_reducible first | exact HB.out | apply pA | apply pN | apply pD) | exact HB.out)⟩⟩
              · rw [if_neg c17] at H
                exact absurd H (by simp)
        · rw [if_neg c3] at H
          exact absurd H (by simp)
      · rw [if_neg c2] at H
        have c2b0 : decide (x5_1 < (l0.length : Int)) = false := decide_eq_false c2
        clear c2
        simp only [Option.some.injEq, Prod.mk.injEq] at H
        obtain ⟨rfl, rfl⟩ := H
        go_wp2
        go_ret2
        exact ⟨_, by first | rfl | (simp [errW_none, errW_some] <;> rfl) | (simp [*, errW_none, errW_some] <;> rfl), by (with_reducible repeat (first | apply Kd.R_alloc | apply Kd.R_drewN | apply Kd.R_drew)); exact HO_4.out, by repeat (first | (with_reducible first | exact HB.out | apply pA | apply pN | apply pD) | exact HB.out)⟩

/-! ### portreeveref01_Row: function 13 -/
def portreeveref01_Row.l0 : Nat → List Int → List Int → Int → Option (Bool)
  | 0, _, _, _ => none
  | k + 1, x0, x1, x5 => if x5 < (x0.length : Int) then (if 0 ≤ x5 then (if x5 < (x1.length : Int) then (if (rd x0 x5) = (rd x1 x5) then (portreeveref01_Row.l0 k x0 x1 (wrap64 (x5 + 1))) else (some false)) else (none)) else (none)) else (some true)
def portreeveref01_Row.f (k : Nat) (l0 : List Int) (l1 : List Int) : Option (Bool) := if (l0.length : Int) = (l1.length : Int) then (portreeveref01_Row.l0 k l0 l1 0) else (some false)
theorem portreeveref01_Row.mono_l : ∀ k, (∀ y0 y1 y2, LeO (portreeveref01_Row.l0 k y0 y1 y2) (portreeveref01_Row.l0 (k + 1) y0 y1 y2))
  | 0 => fun _ _ _ r h => by simp [portreeveref01_Row.l0] at h
  | k + 1 => by
    have ih0 := portreeveref01_Row.mono_l k
    · intro y0 y1 y2
      unfold portreeveref01_Row.l0
      repeat' first
      | (with_reducible exact ih0 _ _ _)
      | (with_reducible exact LeO.refl _)
      | (with_reducible exact LeO.none _)
      | (with_reducible refine LeO.ite ?_ ?_)
      | (with_reducible refine LeO.bind ?_ (fun _ => ?_))
      | exact ih0 _ _ _
      | exact LeO.none _
      | refine LeO.ite ?_ ?_
      | refine LeO.bind ?_ (fun _ => ?_)
theorem portreeveref01_Row.mono : ∀ a0 a1 k, LeO (portreeveref01_Row.f k a0 a1) (portreeveref01_Row.f (k + 1) a0 a1) := by
  intro a0 a1 k
  have ih0 := portreeveref01_Row.mono_l k
  unfold portreeveref01_Row.f
  repeat' first
      | (with_reducible exact ih0 _ _ _)
      | (with_reducible exact LeO.refl _)
      | (with_reducible exact LeO.none _)
      | (with_reducible refine LeO.ite ?_ ?_)
      | (with_reducible refine LeO.bind ?_ (fun _ => ?_))
      | exact ih0 _ _ _
      | exact LeO.none _
      | refine LeO.ite ?_ ?_
      | refine LeO.bind ?_ (fun _ => ?_)
set_option maxHeartbeats 8000000 in
set_option maxRecDepth 100000 in
theorem portreeveref01_Row.calls (k : Nat) (A0 : Option Addr) (c0 : Nat) (l0 : List Int) (A1 : Option Addr) (c1 : Nat) (l1 : List Int) (r : Bool) (w : World) (hr0 : Kd.C (Kd.int .u8) w A0 l0.length l0) (hc0 : l0.length ≤ c0) (hr1 : Kd.C (Kd.int .u8) w A1 l1.length l1) (hc1 : l1.length ≤ c1) (h : portreeveref01_Row.f k l0 l1 = some r) :
    Calls Try.prog 13 #[.slice A0 l0.length c0, .slice A1 l1.length c1] w fun e w' => e = .returned (.bool r) ∧ Drawn0 w w' := by
  have HR0 := Aside0.mk hr0
  have HC0 := Aside0.mk hc0
  clear hr0 hc0
  have HR1 := Aside0.mk hr1
  have HC1 := Aside0.mk hc1
  clear hr1 hc1
  have H : (if (l0.length : Int) = (l1.length : Int) then (portreeveref01_Row.l0 k l0 l1 0) else (some false)) = some r := h
  clear h
  by_cases c3 : (l0.length : Int) = (l1.length : Int)
  · rw [if_pos c3] at H
    have c3b0 : ((l0.length : Int) == (l1.length : Int)) = true := beq_iff_eq.mpr c3
    have c3b1 : ((l0.length : Int) != (l1.length : Int)) = false := bne_eq_false_iff_eq.mpr c3
    have c3b2 : (l0.length == l1.length) = true := by first | simpa using c3 | (simp at c3 ⊢; omega)
    clear c3
    have H' := Aside0.mk H
    clear H
    go_enter Try.func13, Try.ntmps13
    go_wp2
    repeat (go_quiet (fail); try go_wp2)
    go_loopg [5] k (fun kq v5 w' => ∃ (x5_1 : Int), v5 = .int .i64 x5_1 ∧ Aside0 (portreeveref01_Row.l0 kq l0 l1 x5_1 = some r) ∧ Aside0 (kq ≤ k) ∧ Drawn0 w w')
    case atStart => exact ⟨(0), (by first | rfl | (simp; done) | (simp [*]; done)), H', ⟨Nat.le_refl _⟩, by repeat (first | exact Drawn0.refl _ | apply Drawn0.step)⟩
    case round =>
      clear H'
      try clear c1
      try clear p2
      try clear c3
      try clear c3b0
      try clear c3b1
      try clear c3b2
      obtain ⟨x5_1, rfl, HA, HK1, ⟨m1, rfl⟩⟩ := hrel
      cases gk with
      | zero => exact absurd HA.out (by simp [portreeveref01_Row.l0])
      | succ k1 =>
        have H := HA.out
        clear HA
        simp only [portreeveref01_Row.l0] at H
        by_cases c4 : x5_1 < (l0.length : Int)
        · rw [if_pos c4] at H
          have c4b0 : decide (x5_1 < (l0.length : Int)) = true := decide_eq_true c4
          clear c4
          by_cases c5 : 0 ≤ x5_1
          · rw [if_pos c5] at H
            have c5b0 : decide (0 ≤ x5_1) = true := decide_eq_true c5
            clear c5
            by_cases c6 : x5_1 < (l1.length : Int)
            · rw [if_pos c6] at H
              have c6b0 : decide (x5_1 < (l1.length : Int)) = true := decide_eq_true c6
              clear c6
              by_cases c7 : (rd l0 x5_1) = (rd l1 x5_1)
              · rw [if_pos c7] at H
                have c7b0 : ((rd l0 x5_1) == (rd l1 x5_1)) = true := beq_iff_eq.mpr c7
                have c7b1 : ((rd l0 x5_1) != (rd l1 x5_1)) = false := bne_eq_false_iff_eq.mpr c7
                clear c7
                have H' := Aside0.mk H
                clear H
                have p210 : 0 ≤ (x5_1 : Int) := of_decide_eq_true (by first | (with_reducible assumption) | assumption)
                have q210 : x5_1 < (l0.length : Int) := of_decide_eq_true (by first | (with_reducible assumption) | assumption)
                obtain ⟨ad210, e210, hx210_0⟩ := Kd.at_int HR0.out x5_1 p210 q210
                cases e210
                replace p210 := eq_true p210
                replace q210 := eq_true q210
                have p211 : 0 ≤ (x5_1 : Int) := of_decide_eq_true (by first | (with_reducible assumption) | assumption)
                have q211 : x5_1 < (l1.length : Int) := of_decide_eq_true (by first | (with_reducible assumption) | assumption)
                obtain ⟨ad211, e211, hx211_0⟩ := Kd.at_int HR1.out x5_1 p211 q211
                cases e211
                replace p211 := eq_true p211
                replace q211 := eq_true q211
                go_wp2
                repeat (go_quiet (fail); try go_wp2)
                go_roundg k1
                case measure => have := HK1.out; omega
                case rel => exact ⟨(wrap64 (x5_1 + 1)), (by first | rfl | (simp; done) | (simp [*]; done)), H', ⟨by have := HK1.out; omega⟩, by repeat (first | exact Drawn0.refl _ | apply Drawn0.step)⟩
              · rw [if_neg c7] at H
                have c7b0 : ((rd l0 x5_1) == (rd l1 x5_1)) = false := beq_eq_false_iff_ne.mpr c7
                have c7b1 : ((rd l0 x5_1) != (rd l1 x5_1)) = true := bne_iff_ne.mpr c7
                obtain rfl := Option.some.inj H
                have p210 : 0 ≤ (x5_1 : Int) := of_decide_eq_true (by first | (with_reducible assumption) | assumption)
                have q210 : x5_1 < (l0.length : Int) := of_decide_eq_true (by first | (with_reducible assumption) | assumption)
                obtain ⟨ad210, e210, hx210_0⟩ := Kd.at_int HR0.out x5_1 p210 q210
                cases e210
                replace p210 := eq_true p210
                replace q210 := eq_true q210
                have p211 : 0 ≤ (x5_1 : Int) := of_decide_eq_true (by first | (with_reducible assumption) | assumption)
                have q211 : x5_1 < (l1.length : Int) := of_decide_eq_true (by first | (with_reducible assumption) | assumption)
                obtain ⟨ad211, e211, hx211_0⟩ := Kd.at_int HR1.out x5_1 p211 q211
                cases e211
                replace p211 := eq_true p211
                replace q211 := eq_true q211
                go_wp2
                repeat (go_quiet (fail); try go_wp2)
                go_ret
                exact ⟨by first | rfl | (simp; done) | (simp [*]; done), by repeat (first | exact Drawn0.refl _ | apply Drawn0.step)⟩
            · rw [if_neg c6] at H
              exact absurd H (by simp)
          · rw [if_neg c5] at H
            exact absurd H (by simp)
        · rw [if_neg c4] at H
          have c4b0 : decide (x5_1 < (l0.length : Int)) = false := decide_eq_false c4
          clear c4
          obtain rfl := Option.some.inj H
          go_wp2
          repeat (go_quiet (fail); try go_wp2)
          go_ret
          exact ⟨by first | rfl | (simp; done) | (simp [*]; done), by repeat (first | exact Drawn0.refl _ | apply Drawn0.step)⟩
  · rw [if_neg c3] at H
    have c3b0 : ((l0.length : Int) == (l1.length : Int)) = false := beq_eq_false_iff_ne.mpr c3
    have c3b1 : ((l0.length : Int) != (l1.length : Int)) = true := bne_iff_ne.mpr c3
    have c3b2 : (l0.length == l1.length) = false := by first | simpa using c3 | (simp at c3 ⊢; omega)
    obtain rfl := Option.some.inj H
    go_enter Try.func13, Try.ntmps13
    go_wp2
    repeat (go_quiet (fail); try go_wp2)
    go_ret
    exact ⟨by first | rfl | (simp; done) | (simp [*]; done), by repeat (first | exact Drawn0.refl _ | apply Drawn0.step)⟩

end Go.Proofs.Ytdmhamnnadegnaa.Q
