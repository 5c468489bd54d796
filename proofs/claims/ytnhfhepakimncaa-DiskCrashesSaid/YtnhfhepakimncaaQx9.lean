-- written by this session's own program (wip/tools/myprint.py), over the kit's print
import Derived.Test.YtnhfhepakimncaaQx0
import Derived.Test.YtnhfhepakimncaaQx3
import Derived.Test.YtnhfhepakimncaaQx4
import Derived.Test.YtnhfhepakimncaaQx6
import Derived.Test.YtnhfhepakimncaaQx7
import Derived.Test.YtnhfhepakimncaaQx8
namespace Go.Proofs.Ytnhfhepakimncaa.Q
open Go.RowKit Go.Proofs.YtnhfhepakimncaaW.PrintWords Go.Proofs.YtnhfhepakimncaaW.PrintLast Go.Proofs.YtnhfhepakimncaaW.PrintMore
open Go.Proofs.YtnhfhepakimncaaV
attribute [local go_sem] max2_int min2_int max_two min_two max_three min_three max_four min_four   -- for this text's walks alone
set_option linter.unusedVariables false
set_option linter.unusedSimpArgs false

/-! ### portreevelaw03_shown_g: function 9 -/
def portreevelaw03_shown_g.f (k : Nat)  : Option (Bool) := if 128 ≤ 281474976710656 then ((some (List.replicate 128 0 : List Int)).bind fun y181 => (if 0 < (y181.length : Int) then ((disk_New.f k).bind fun bt185 => ((disk_Write.f bt185.1 bt185.2 3 (y181.set (0 : Int).toNat 7)).bind fun bt191 => ((disk_Read.f k bt191.1 bt191.2.1 3).bind fun bt199 => ((disk_Crash.f k bt191.1 bt191.2.1 ([] : List Bool)).bind fun bt203 => ((disk_Read.f k bt203.1 bt203.2 3).bind fun bt209 => ((disk_Flush.f k bt191.1 bt191.2.1).bind fun bt213 => ((disk_Read.f k bt213.1 bt213.2 3).bind fun bt219 => (if bt191.2.2 = 0 then (if bt199.2 = 0 then (if bt209.2 = 0 then (if bt219.2 = 0 then ((disk_Right.f k bt191.1 bt191.2.1).bind fun t223 => (if t223 = true then ((disk_Same.f k bt191.1 bt191.2.1 bt191.1 bt191.2.1).bind fun t224 => (if t224 = true then (if (bt199.1.length : Int) = 128 then (if (bt209.1.length : Int) = 128 then (if (bt219.1.length : Int) = 128 then (if 0 < (bt199.1.length : Int) then (if (rd bt199.1 0) = 7 then (if 0 < (bt209.1.length : Int) then (if (rd bt209.1 0) = 0 then (if 0 < (bt219.1.length : Int) then (some ((rd bt219.1 0) == 7)) else (none)) else (some false)) else (none)) else (some false)) else (none)) else (some false)) else (some false)) else (some false)) else (some false))) else (some false))) else (some false)) else (some false)) else (some false)) else (some false))))))))) else (none))) else (none)
theorem portreevelaw03_shown_g.mono : ∀ k, LeO (portreevelaw03_shown_g.f k ) (portreevelaw03_shown_g.f (k + 1) ) := by
  intro  k
  unfold portreevelaw03_shown_g.f
  repeat' first
      | (with_reducible exact disk_Crash.mono _ _ _ _)
      | (with_reducible exact disk_Flush.mono _ _ _)
      | (with_reducible exact disk_New.mono _)
      | (with_reducible exact disk_Read.mono _ _ _ _)
      | (with_reducible exact disk_Right.mono _ _ _)
      | (with_reducible exact disk_Same.mono _ _ _ _ _)
      | (with_reducible exact LeO.refl _)
      | (with_reducible exact LeO.none _)
      | (with_reducible refine LeO.ite ?_ ?_)
      | (with_reducible refine LeO.bind ?_ (fun _ => ?_))
      | exact disk_Crash.mono _ _ _ _
      | exact disk_Flush.mono _ _ _
      | exact disk_New.mono _
      | exact disk_Read.mono _ _ _ _
      | exact disk_Right.mono _ _ _
      | exact disk_Same.mono _ _ _ _ _
      | exact LeO.none _
      | refine LeO.ite ?_ ?_
      | refine LeO.bind ?_ (fun _ => ?_)
set_option maxHeartbeats 8000000 in
set_option maxRecDepth 100000 in
theorem portreevelaw03_shown_g.calls (k : Nat)  (r : Bool) (w : World) (hlaw_ : Aside0 (r = true)) (h : portreevelaw03_shown_g.f k  = some r) :
    Calls Try.prog 9 #[] w fun e w' => e = .returned (.bool r) ∧ Below w.heap.size w w' := by
  have hu25 := Try.underlying25
  have HB := Aside0.mk (Below.refl w.heap.size w)
  have H : (if 128 ≤ 281474976710656 then ((some (List.replicate 128 0 : List Int)).bind fun y181 => (if 0 < (y181.length : Int) then ((disk_New.f k).bind fun bt185 => ((disk_Write.f bt185.1 bt185.2 3 (y181.set (0 : Int).toNat 7)).bind fun bt191 => ((disk_Read.f k bt191.1 bt191.2.1 3).bind fun bt199 => ((disk_Crash.f k bt191.1 bt191.2.1 ([] : List Bool)).bind fun bt203 => ((disk_Read.f k bt203.1 bt203.2 3).bind fun bt209 => ((disk_Flush.f k bt191.1 bt191.2.1).bind fun bt213 => ((disk_Read.f k bt213.1 bt213.2 3).bind fun bt219 => (if bt191.2.2 = 0 then (if bt199.2 = 0 then (if bt209.2 = 0 then (if bt219.2 = 0 then ((disk_Right.f k bt191.1 bt191.2.1).bind fun t223 => (if t223 = true then ((disk_Same.f k bt191.1 bt191.2.1 bt191.1 bt191.2.1).bind fun t224 => (if t224 = true then (if (bt199.1.length : Int) = 128 then (if (bt209.1.length : Int) = 128 then (if (bt219.1.length : Int) = 128 then (if 0 < (bt199.1.length : Int) then (if (rd bt199.1 0) = 7 then (if 0 < (bt209.1.length : Int) then (if (rd bt209.1 0) = 0 then (if 0 < (bt219.1.length : Int) then (some ((rd bt219.1 0) == 7)) else (none)) else (some false)) else (none)) else (some false)) else (none)) else (some false)) else (some false)) else (some false)) else (some false))) else (some false))) else (some false)) else (some false)) else (some false)) else (some false))))))))) else (none))) else (none)) = some r := h
  clear h
  by_cases c1 : 128 ≤ 281474976710656
  · rw [if_pos c1] at H
    have c1b0 := eq_true c1
    have c1b1 : decide (128 ≤ 281474976710656) = true := decide_eq_true c1
    clear c1
    obtain ⟨y181, hy181⟩ : ∃ y_ : List Int, y_ = (List.replicate 128 0) := ⟨_, rfl⟩
    replace H : (if 0 < (y181.length : Int) then ((disk_New.f k).bind fun bt185 => ((disk_Write.f bt185.1 bt185.2 3 (y181.set (0 : Int).toNat 7)).bind fun bt191 => ((disk_Read.f k bt191.1 bt191.2.1 3).bind fun bt199 => ((disk_Crash.f k bt191.1 bt191.2.1 ([] : List Bool)).bind fun bt203 => ((disk_Read.f k bt203.1 bt203.2 3).bind fun bt209 => ((disk_Flush.f k bt191.1 bt191.2.1).bind fun bt213 => ((disk_Read.f k bt213.1 bt213.2 3).bind fun bt219 => (if bt191.2.2 = 0 then (if bt199.2 = 0 then (if bt209.2 = 0 then (if bt219.2 = 0 then ((disk_Right.f k bt191.1 bt191.2.1).bind fun t223 => (if t223 = true then ((disk_Same.f k bt191.1 bt191.2.1 bt191.1 bt191.2.1).bind fun t224 => (if t224 = true then (if (bt199.1.length : Int) = 128 then (if (bt209.1.length : Int) = 128 then (if (bt219.1.length : Int) = 128 then (if 0 < (bt199.1.length : Int) then (if (rd bt199.1 0) = 7 then (if 0 < (bt209.1.length : Int) then (if (rd bt209.1 0) = 0 then (if 0 < (bt219.1.length : Int) then (some ((rd bt219.1 0) == 7)) else (none)) else (some false)) else (none)) else (some false)) else (none)) else (some false)) else (some false)) else (some false)) else (some false))) else (some false))) else (some false)) else (some false)) else (some false)) else (some false))))))))) else (none)) = some r := by first | (rw [hy181]; with_reducible exact H) | (have H2_ := (Option.bind_some _ _).symm.trans H; rw [hy181]; with_reducible exact H2_) | (have H2_ := (Option.bind_some _ _).symm.trans H; with_reducible exact H2_) | with_reducible exact H | (rw [hy181]; exact H) | exact H
    have Ny181 := Aside0.mk hy181
    clear hy181
    by_cases c2 : 0 < (y181.length : Int)
    · rw [if_pos c2] at H
      have c2b0 : decide (0 < (y181.length : Int)) = true := decide_eq_true c2
      have c2b1 : decide (0 < y181.length) = true := decide_eq_true (by omega)
      clear c2
      obtain ⟨y184, hy184⟩ : ∃ y_ : List Int, y_ = (y181.set (0 : Int).toNat 7) := ⟨_, rfl⟩
      replace H : ((disk_New.f k).bind fun bt185 => ((disk_Write.f bt185.1 bt185.2 3 y184).bind fun bt191 => ((disk_Read.f k bt191.1 bt191.2.1 3).bind fun bt199 => ((disk_Crash.f k bt191.1 bt191.2.1 ([] : List Bool)).bind fun bt203 => ((disk_Read.f k bt203.1 bt203.2 3).bind fun bt209 => ((disk_Flush.f k bt191.1 bt191.2.1).bind fun bt213 => ((disk_Read.f k bt213.1 bt213.2 3).bind fun bt219 => (if bt191.2.2 = 0 then (if bt199.2 = 0 then (if bt209.2 = 0 then (if bt219.2 = 0 then ((disk_Right.f k bt191.1 bt191.2.1).bind fun t223 => (if t223 = true then ((disk_Same.f k bt191.1 bt191.2.1 bt191.1 bt191.2.1).bind fun t224 => (if t224 = true then (if (bt199.1.length : Int) = 128 then (if (bt209.1.length : Int) = 128 then (if (bt219.1.length : Int) = 128 then (if 0 < (bt199.1.length : Int) then (if (rd bt199.1 0) = 7 then (if 0 < (bt209.1.length : Int) then (if (rd bt209.1 0) = 0 then (if 0 < (bt219.1.length : Int) then (some ((rd bt219.1 0) == 7)) else (none)) else (some false)) else (none)) else (some false)) else (none)) else (some false)) else (some false)) else (some false)) else (some false))) else (some false))) else (some false)) else (some false)) else (some false)) else (some false))))))))) = some r := by first | (rw [hy184]; with_reducible exact H) | (have H2_ := (Option.bind_some _ _).symm.trans H; rw [hy184]; with_reducible exact H2_) | (have H2_ := (Option.bind_some _ _).symm.trans H; with_reducible exact H2_) | with_reducible exact H | (rw [hy184]; exact H) | exact H
      have Ny184 := Aside0.mk hy184
      clear hy184
      replace H := Option.bind_eq_some_iff.mp H
      obtain ⟨⟨t185, t188⟩, A40, H⟩ := H
      replace H : ((disk_Write.f t185 t188 3 y184).bind fun bt191 => ((disk_Read.f k bt191.1 bt191.2.1 3).bind fun bt199 => ((disk_Crash.f k bt191.1 bt191.2.1 ([] : List Bool)).bind fun bt203 => ((disk_Read.f k bt203.1 bt203.2 3).bind fun bt209 => ((disk_Flush.f k bt191.1 bt191.2.1).bind fun bt213 => ((disk_Read.f k bt213.1 bt213.2 3).bind fun bt219 => (if bt191.2.2 = 0 then (if bt199.2 = 0 then (if bt209.2 = 0 then (if bt219.2 = 0 then ((disk_Right.f k bt191.1 bt191.2.1).bind fun t223 => (if t223 = true then ((disk_Same.f k bt191.1 bt191.2.1 bt191.1 bt191.2.1).bind fun t224 => (if t224 = true then (if (bt199.1.length : Int) = 128 then (if (bt209.1.length : Int) = 128 then (if (bt219.1.length : Int) = 128 then (if 0 < (bt199.1.length : Int) then (if (rd bt199.1 0) = 7 then (if 0 < (bt209.1.length : Int) then (if (rd bt209.1 0) = 0 then (if 0 < (bt219.1.length : Int) then (some ((rd bt219.1 0) == 7)) else (none)) else (some false)) else (none)) else (some false)) else (none)) else (some false)) else (some false)) else (some false)) else (some false))) else (some false))) else (some false)) else (some false)) else (some false)) else (some false)))))))) = some r := H
      have A4 := Aside0.mk A40
      clear A40
      replace H := Option.bind_eq_some_iff.mp H
      obtain ⟨⟨t191, t194, t197⟩, A50, H⟩ := H
      replace H : ((disk_Read.f k t191 t194 3).bind fun bt199 => ((disk_Crash.f k t191 t194 ([] : List Bool)).bind fun bt203 => ((disk_Read.f k bt203.1 bt203.2 3).bind fun bt209 => ((disk_Flush.f k t191 t194).bind fun bt213 => ((disk_Read.f k bt213.1 bt213.2 3).bind fun bt219 => (if t197 = 0 then (if bt199.2 = 0 then (if bt209.2 = 0 then (if bt219.2 = 0 then ((disk_Right.f k t191 t194).bind fun t223 => (if t223 = true then ((disk_Same.f k t191 t194 t191 t194).bind fun t224 => (if t224 = true then (if (bt199.1.length : Int) = 128 then (if (bt209.1.length : Int) = 128 then (if (bt219.1.length : Int) = 128 then (if 0 < (bt199.1.length : Int) then (if (rd bt199.1 0) = 7 then (if 0 < (bt209.1.length : Int) then (if (rd bt209.1 0) = 0 then (if 0 < (bt219.1.length : Int) then (some ((rd bt219.1 0) == 7)) else (none)) else (some false)) else (none)) else (some false)) else (none)) else (some false)) else (some false)) else (some false)) else (some false))) else (some false))) else (some false)) else (some false)) else (some false)) else (some false))))))) = some r := H
      have A5 := Aside0.mk A50
      clear A50
      replace H := Option.bind_eq_some_iff.mp H
      obtain ⟨⟨t199, t202⟩, A60, H⟩ := H
      replace H : ((disk_Crash.f k t191 t194 ([] : List Bool)).bind fun bt203 => ((disk_Read.f k bt203.1 bt203.2 3).bind fun bt209 => ((disk_Flush.f k t191 t194).bind fun bt213 => ((disk_Read.f k bt213.1 bt213.2 3).bind fun bt219 => (if t197 = 0 then (if t202 = 0 then (if bt209.2 = 0 then (if bt219.2 = 0 then ((disk_Right.f k t191 t194).bind fun t223 => (if t223 = true then ((disk_Same.f k t191 t194 t191 t194).bind fun t224 => (if t224 = true then (if (t199.length : Int) = 128 then (if (bt209.1.length : Int) = 128 then (if (bt219.1.length : Int) = 128 then (if 0 < (t199.length : Int) then (if (rd t199 0) = 7 then (if 0 < (bt209.1.length : Int) then (if (rd bt209.1 0) = 0 then (if 0 < (bt219.1.length : Int) then (some ((rd bt219.1 0) == 7)) else (none)) else (some false)) else (none)) else (some false)) else (none)) else (some false)) else (some false)) else (some false)) else (some false))) else (some false))) else (some false)) else (some false)) else (some false)) else (some false)))))) = some r := H
      have A6 := Aside0.mk A60
      clear A60
      replace H := Option.bind_eq_some_iff.mp H
      obtain ⟨⟨t203, t206⟩, A70, H⟩ := H
      replace H : ((disk_Read.f k t203 t206 3).bind fun bt209 => ((disk_Flush.f k t191 t194).bind fun bt213 => ((disk_Read.f k bt213.1 bt213.2 3).bind fun bt219 => (if t197 = 0 then (if t202 = 0 then (if bt209.2 = 0 then (if bt219.2 = 0 then ((disk_Right.f k t191 t194).bind fun t223 => (if t223 = true then ((disk_Same.f k t191 t194 t191 t194).bind fun t224 => (if t224 = true then (if (t199.length : Int) = 128 then (if (bt209.1.length : Int) = 128 then (if (bt219.1.length : Int) = 128 then (if 0 < (t199.length : Int) then (if (rd t199 0) = 7 then (if 0 < (bt209.1.length : Int) then (if (rd bt209.1 0) = 0 then (if 0 < (bt219.1.length : Int) then (some ((rd bt219.1 0) == 7)) else (none)) else (some false)) else (none)) else (some false)) else (none)) else (some false)) else (some false)) else (some false)) else (some false))) else (some false))) else (some false)) else (some false)) else (some false)) else (some false))))) = some r := H
      have A7 := Aside0.mk A70
      clear A70
      replace H := Option.bind_eq_some_iff.mp H
      obtain ⟨⟨t209, t212⟩, A80, H⟩ := H
      replace H : ((disk_Flush.f k t191 t194).bind fun bt213 => ((disk_Read.f k bt213.1 bt213.2 3).bind fun bt219 => (if t197 = 0 then (if t202 = 0 then (if t212 = 0 then (if bt219.2 = 0 then ((disk_Right.f k t191 t194).bind fun t223 => (if t223 = true then ((disk_Same.f k t191 t194 t191 t194).bind fun t224 => (if t224 = true then (if (t199.length : Int) = 128 then (if (t209.length : Int) = 128 then (if (bt219.1.length : Int) = 128 then (if 0 < (t199.length : Int) then (if (rd t199 0) = 7 then (if 0 < (t209.length : Int) then (if (rd t209 0) = 0 then (if 0 < (bt219.1.length : Int) then (some ((rd bt219.1 0) == 7)) else (none)) else (some false)) else (none)) else (some false)) else (none)) else (some false)) else (some false)) else (some false)) else (some false))) else (some false))) else (some false)) else (some false)) else (some false)) else (some false)))) = some r := H
      have A8 := Aside0.mk A80
      clear A80
      replace H := Option.bind_eq_some_iff.mp H
      obtain ⟨⟨t213, t216⟩, A90, H⟩ := H
      replace H : ((disk_Read.f k t213 t216 3).bind fun bt219 => (if t197 = 0 then (if t202 = 0 then (if t212 = 0 then (if bt219.2 = 0 then ((disk_Right.f k t191 t194).bind fun t223 => (if t223 = true then ((disk_Same.f k t191 t194 t191 t194).bind fun t224 => (if t224 = true then (if (t199.length : Int) = 128 then (if (t209.length : Int) = 128 then (if (bt219.1.length : Int) = 128 then (if 0 < (t199.length : Int) then (if (rd t199 0) = 7 then (if 0 < (t209.length : Int) then (if (rd t209 0) = 0 then (if 0 < (bt219.1.length : Int) then (some ((rd bt219.1 0) == 7)) else (none)) else (some false)) else (none)) else (some false)) else (none)) else (some false)) else (some false)) else (some false)) else (some false))) else (some false))) else (some false)) else (some false)) else (some false)) else (some false))) = some r := H
      have A9 := Aside0.mk A90
      clear A90
      replace H := Option.bind_eq_some_iff.mp H
      obtain ⟨⟨t219, t222⟩, A100, H⟩ := H
      replace H : (if t197 = 0 then (if t202 = 0 then (if t212 = 0 then (if t222 = 0 then ((disk_Right.f k t191 t194).bind fun t223 => (if t223 = true then ((disk_Same.f k t191 t194 t191 t194).bind fun t224 => (if t224 = true then (if (t199.length : Int) = 128 then (if (t209.length : Int) = 128 then (if (t219.length : Int) = 128 then (if 0 < (t199.length : Int) then (if (rd t199 0) = 7 then (if 0 < (t209.length : Int) then (if (rd t209 0) = 0 then (if 0 < (t219.length : Int) then (some ((rd t219 0) == 7)) else (none)) else (some false)) else (none)) else (some false)) else (none)) else (some false)) else (some false)) else (some false)) else (some false))) else (some false))) else (some false)) else (some false)) else (some false)) else (some false)) = some r := H
      have A10 := Aside0.mk A100
      clear A100
      by_cases c11 : t197 = 0
      · rw [if_pos c11] at H
        have c11b0 : (t197 == 0) = true := beq_iff_eq.mpr c11
        have c11b1 : (t197 != 0) = false := bne_eq_false_iff_eq.mpr c11
        clear c11
        by_cases c12 : t202 = 0
        · rw [if_pos c12] at H
          have c12b0 : (t202 == 0) = true := beq_iff_eq.mpr c12
          have c12b1 : (t202 != 0) = false := bne_eq_false_iff_eq.mpr c12
          clear c12
          by_cases c13 : t212 = 0
          · rw [if_pos c13] at H
            have c13b0 : (t212 == 0) = true := beq_iff_eq.mpr c13
            have c13b1 : (t212 != 0) = false := bne_eq_false_iff_eq.mpr c13
            clear c13
            by_cases c14 : t222 = 0
            · rw [if_pos c14] at H
              have c14b0 : (t222 == 0) = true := beq_iff_eq.mpr c14
              have c14b1 : (t222 != 0) = false := bne_eq_false_iff_eq.mpr c14
              clear c14
              replace H := Option.bind_eq_some_iff.mp H
              obtain ⟨t223, A150, H⟩ := H
              replace H : (if t223 = true then ((disk_Same.f k t191 t194 t191 t194).bind fun t224 => (if t224 = true then (if (t199.length : Int) = 128 then (if (t209.length : Int) = 128 then (if (t219.length : Int) = 128 then (if 0 < (t199.length : Int) then (if (rd t199 0) = 7 then (if 0 < (t209.length : Int) then (if (rd t209 0) = 0 then (if 0 < (t219.length : Int) then (some ((rd t219 0) == 7)) else (none)) else (some false)) else (none)) else (some false)) else (none)) else (some false)) else (some false)) else (some false)) else (some false))) else (some false)) = some r := H
              have A15 := Aside0.mk A150
              clear A150
              by_cases c16 : t223 = true
              · subst c16
                have H1 : ((disk_Same.f k t191 t194 t191 t194).bind fun t224 => (if t224 = true then (if (t199.length : Int) = 128 then (if (t209.length : Int) = 128 then (if (t219.length : Int) = 128 then (if 0 < (t199.length : Int) then (if (rd t199 0) = 7 then (if 0 < (t209.length : Int) then (if (rd t209 0) = 0 then (if 0 < (t219.length : Int) then (some ((rd t219 0) == 7)) else (none)) else (some false)) else (none)) else (some false)) else (none)) else (some false)) else (some false)) else (some false)) else (some false))) = some r := by rw [if_pos rfl] at H; exact H
                clear H
                have H := H1
                clear H1
                replace H := Option.bind_eq_some_iff.mp H
                obtain ⟨t224, A170, H⟩ := H
                replace H : (if t224 = true then (if (t199.length : Int) = 128 then (if (t209.length : Int) = 128 then (if (t219.length : Int) = 128 then (if 0 < (t199.length : Int) then (if (rd t199 0) = 7 then (if 0 < (t209.length : Int) then (if (rd t209 0) = 0 then (if 0 < (t219.length : Int) then (some ((rd t219 0) == 7)) else (none)) else (some false)) else (none)) else (some false)) else (none)) else (some false)) else (some false)) else (some false)) else (some false)) = some r := H
                have A17 := Aside0.mk A170
                clear A170
                by_cases c18 : t224 = true
                · subst c18
                  have H1 : (if (t199.length : Int) = 128 then (if (t209.length : Int) = 128 then (if (t219.length : Int) = 128 then (if 0 < (t199.length : Int) then (if (rd t199 0) = 7 then (if 0 < (t209.length : Int) then (if (rd t209 0) = 0 then (if 0 < (t219.length : Int) then (some ((rd t219 0) == 7)) else (none)) else (some false)) else (none)) else (some false)) else (none)) else (some false)) else (some false)) else (some false)) = some r := by rw [if_pos rfl] at H; exact H
                  clear H
                  have H := H1
                  clear H1
                  by_cases c19 : (t199.length : Int) = 128
                  · rw [if_pos c19] at H
                    have c19b0 : ((t199.length : Int) == 128) = true := beq_iff_eq.mpr c19
                    have c19b1 : ((t199.length : Int) != 128) = false := bne_eq_false_iff_eq.mpr c19
                    clear c19
                    by_cases c20 : (t209.length : Int) = 128
                    · rw [if_pos c20] at H
                      have c20b0 : ((t209.length : Int) == 128) = true := beq_iff_eq.mpr c20
                      have c20b1 : ((t209.length : Int) != 128) = false := bne_eq_false_iff_eq.mpr c20
                      clear c20
                      by_cases c21 : (t219.length : Int) = 128
                      · rw [if_pos c21] at H
                        have c21b0 : ((t219.length : Int) == 128) = true := beq_iff_eq.mpr c21
                        have c21b1 : ((t219.length : Int) != 128) = false := bne_eq_false_iff_eq.mpr c21
                        clear c21
                        by_cases c22 : 0 < (t199.length : Int)
                        · rw [if_pos c22] at H
                          have c22b0 : decide (0 < (t199.length : Int)) = true := decide_eq_true c22
                          have c22b1 : decide (0 < t199.length) = true := decide_eq_true (by omega)
                          clear c22
                          by_cases c23 : (rd t199 0) = 7
                          · rw [if_pos c23] at H
                            have c23b0 : ((rd t199 0) == 7) = true := beq_iff_eq.mpr c23
                            have c23b1 : ((rd t199 0) != 7) = false := bne_eq_false_iff_eq.mpr c23
                            clear c23
                            by_cases c24 : 0 < (t209.length : Int)
                            · rw [if_pos c24] at H
                              have c24b0 : decide (0 < (t209.length : Int)) = true := decide_eq_true c24
                              have c24b1 : decide (0 < t209.length) = true := decide_eq_true (by omega)
                              clear c24
                              by_cases c25 : (rd t209 0) = 0
                              · rw [if_pos c25] at H
                                have c25b0 : ((rd t209 0) == 0) = true := beq_iff_eq.mpr c25
                                have c25b1 : ((rd t209 0) != 0) = false := bne_eq_false_iff_eq.mpr c25
                                clear c25
                                by_cases c26 : 0 < (t219.length : Int)
                                · rw [if_pos c26] at H
                                  have c26b0 : decide (0 < (t219.length : Int)) = true := decide_eq_true c26
                                  have c26b1 : decide (0 < t219.length) = true := decide_eq_true (by omega)
                                  clear c26
                                  clear hlaw_
                                  obtain rfl := Option.some.inj H
                                  go_enter Try.func9, Try.ntmps9
                                  go_wp2_with (first | ((with_reducible refine gate_dst (N := 11) rfl ?_); (try (refine gate_guard (by rfl) ?_; dsimp only)); refine Kd.R_make (Kd.int .u8) _ 5 rfl (N := 11) rfl 26 _ _ rfl 128 rfl rfl Try.underlying26 (.int .u8 0) 1 info5 rfl (by decide) (by omega) 0 (ok := fun _ => True) (okp := fun _ => True) rfl (fun _ hk => hk) trivial (by omega) (by omega) (Below.refl _ _) (Nat.le_refl _) ?_; intro v182 w27 ho28 hb hg_ hnew_; clear hg_ hnew_; (first | rw [← Ny181.out] at ho28 | (simp only [Int.reduceToNat] at ho28; rw [← Ny181.out] at ho28)); have n0_ := Aside0.mk (Kd.R_lower ho28 (below_size (by repeat (first | (with_reducible first | exact HB.out | apply pA | apply pN | apply pD) | exact HB.out)))); have n1_ := Aside0.mk (below_step (by repeat (first | (with_reducible first | exact HB.out | apply pA | apply pN | apply pD) | exact HB.out)) hb); clear HB; have HO183 := n0_; have HB := n1_; clear n0_ n1_; clear hb ho28; have p3 : 0 ≤ (0 : Int) := (by omega); have q3 : (0 : Int) < ((y181.length : Int) : Int) := of_decide_eq_true (by first | (with_reducible assumption) | assumption); have qi3 : (0 < y181.length) = True := eq_true (by omega); obtain ⟨go3, co3, eo3, gb3, gl3, cl3, HG3⟩ := Kd.R_form HO183.out (by omega); (first | cases eo3 | (injection eo3 with ea_ en_ ec_; (first | subst ea_ | (injection ea_ with ea_; subst ea_)); subst ec_; clear en_)); have GB3 := Aside0.mk gb3; have GG3 := Aside0.mk HG3; clear gb3 gl3 HG3; obtain ⟨hx3_0, hf3_0⟩ := Kd.R_celln 0 HO183.out (0 : Int) p3 q3; (try rw [show ((0 : Int)).toNat = 0 from rfl] at hx3_0); (try simp only [Nat.reduceMul, Nat.zero_mul, Nat.zero_add, Nat.reduceAdd] at hx3_0); (try rw [show ((0 : Int)).toNat = 0 from rfl] at hf3_0); (try simp only [Nat.reduceMul, Nat.zero_mul, Nat.zero_add, Nat.reduceAdd] at hf3_0); replace p3 := eq_true p3; replace q3 := eq_true q3; obtain ⟨hy29_, hz29_⟩ := Kd.R_celln 0 HO183.out (0 : Int) (by omega) (of_decide_eq_true (by first | (with_reducible assumption) | assumption)); (try simp only [Int.reduceToNat, Int.toNat_zero, Int.toNat_ofNat, Nat.reduceMul, Nat.zero_mul, Nat.zero_add] at hy29_ hz29_); (try rw [show ((0 : Int)).toNat = 0 from rfl] at hy29_); (try rw [show ((0 : Int)).toNat = 0 from rfl] at hz29_); have HP29 := Kd.R_putg HO183.out (0 : Int) 7) | ((with_reducible refine gate_store (t := 5) (p := 13) rfl ?_); refine store_event (t := 5) (p := 13) (v := ?vo_w30) (w1 := (w27.setCell ⟨go3, (0 : Int).toNat, none⟩ (.int .u8 7))) ?hg ?ho ?hn ?hr ?_; (case ho => rfl); (case hg => rfl); (case hn => rfl); (case hr => first | (go_simp; done) | (go_simp; rfl)); intro w30 hw; have hg : w27.grownBy w30 (some go3) := (by rw [hw]; exact HP29.2); have hp_ : Kd.R (Kd.int .u8) 5 w30 w.heap.size (fun _ => True) (.slice (some ⟨go3, 0, none⟩) y181.length co3) y184 := (by rw [hw, Ny184.out]; exact HP29.1); clear HP29; have n0_ := Aside0.mk (hp_); have n1_ := Aside0.mk ((by rw [hw]; exact pS (HB.out) GB3.out : Below w.heap.size w w30)); clear HO183; clear HB; have HO183 := n0_; have HB := n1_; clear n0_ n1_; clear hg hw hp_) | ((with_reducible refine gate_callee (f := 23) rfl ?_); refine goesL_ (some 15) rfl rfl Try.func23 (by kernel_rfl) rfl #[] rfl (by (try simp only [List.map_toArray, List.map_cons, List.map_nil]); first | done | rfl | (simp only [List.length_drop, List.length_take]; rfl)) ?_; (with_reducible refine (disk_New.calls k  t185 t188 _ A4.out).mono ?_); rintro e w31 ⟨v186, v189, rfl, ho0, ho1, hb⟩; refine ⟨_, rfl, ?_⟩; have n0_ := Aside0.mk (Kd.R_below (by (with_reducible repeat (first | apply Kd.R_alloc | apply Kd.R_drewN | apply Kd.R_drew)); exact HO183.out) hb); have n1_ := Aside0.mk (Kd.N_lower (Kd.N_mono (ok' := fun k_ => some k_ ≠ (v189 : Value).ownBlock ∧ some k_ ≠ (.slice (some ⟨go3, 0, none⟩) y181.length co3 : Value).ownBlock) ho0 (fun k_ hk_ => ⟨hk_.2, (Kd.fresh' (Kd.R_lt (by (with_reducible repeat (first | apply Kd.R_alloc | apply Kd.R_drewN | apply Kd.R_drew)); exact HO183.out)) k_ hk_.1)⟩)) (below_size (by repeat (first | (with_reducible first | exact HB.out | apply pA | apply pN | apply pD) | exact HB.out)))); have n2_ := Aside0.mk (Kd.N_lower (Kd.N_mono (ok' := fun k_ => some k_ ≠ (v186 : Value).ownBlock ∧ some k_ ≠ (.slice (some ⟨go3, 0, none⟩) y181.length co3 : Value).ownBlock) ho1 (fun k_ hk_ => ⟨hk_.2, (Kd.fresh' (Kd.R_lt (by (with_reducible repeat (first | apply Kd.R_alloc | apply Kd.R_drewN | apply Kd.R_drew)); exact HO183.out)) k_ hk_.1)⟩)) (below_size (by repeat (first | (with_reducible first | exact HB.out | apply pA | apply pN | apply pD) | exact HB.out)))); have n3_ := Aside0.mk (below_step (by repeat (first | (with_reducible first | exact HB.out | apply pA | apply pN | apply pD) | exact HB.out)) hb); clear HO183; clear HB; have HO183 := n0_; have HO187 := n1_; have HO190 := n2_; have HB := n3_; clear n0_ n1_ n2_ n3_; (try clear hb); (try clear hb2); (try clear hk); (try clear hi); (try clear ho0); (try clear ho1); obtain ⟨Ao32, co32, eo32⟩ := Kd.N_slice HO187.out; subst eo32; obtain ⟨Ao33, co33, eo33⟩ := Kd.N_slice HO190.out; subst eo33) | ((with_reducible refine gate_callee (f := 12) rfl ?_); refine goesL_ (some 17) rfl rfl Try.func12 (by kernel_rfl) rfl #[.agg #[.slice Ao32 t185.length co32, .slice Ao33 t188.length co33], .int .i64 3, .slice (some ⟨go3, 0, none⟩) y184.length co3] rfl (by (try simp only [List.map_toArray, List.map_cons, List.map_nil]); first | done | (rw [show y184.length = y181.length from (Kd.R_reads' HO183.out).1.symm] <;> rfl) | rfl | (simp only [List.length_drop, List.length_take]; rfl)) ?_; (with_reducible refine (disk_Write.calls (fun k_ => (some k_ ≠ (.slice Ao33 t188.length co33 : Value).ownBlock ∧ some k_ ≠ (.slice (some ⟨go3, 0, none⟩) y181.length co3 : Value).ownBlock)) _ _ t185 (fun k_ => (some k_ ≠ (.slice Ao32 t185.length co32 : Value).ownBlock ∧ some k_ ≠ (.slice (some ⟨go3, 0, none⟩) y181.length co3 : Value).ownBlock)) _ _ t188 3 _ _ y184 t191 t194 t197 _ ?side1 ?side2 ?side3 ?side4 A5.out).mono ?_); (case side1 => exact Kd.N_V (HO187.out)); (case side2 => exact Kd.N_V (HO190.out)); (case side3 => repeat (first | exact (Kd.R_reads' HO183.out).2.2 | (with_reducible refine Kd.C_alloc ?_ _) | (with_reducible refine Kd.C_drewN ?_ _) | (with_reducible refine Kd.C_drew ?_))); (case side4 => rw [show y184.length = y181.length from (Kd.R_reads' HO183.out).1.symm]; exact (Kd.R_reads' HO183.out).2.1); rintro e w34 ⟨v192, v195, rfl, ho0, ho1, hb⟩; refine ⟨_, rfl, ?_⟩; have n0_ := Aside0.mk (Kd.R_below (by (with_reducible repeat (first | apply Kd.R_alloc | apply Kd.R_drewN | apply Kd.R_drew)); exact HO183.out) hb); have n1_ := Aside0.mk (Kd.N_below (by (with_reducible repeat (first | apply Kd.N_alloc | apply Kd.N_drewN | apply Kd.N_drew)); exact HO187.out) hb); have n2_ := Aside0.mk (Kd.N_below (by (with_reducible repeat (first | apply Kd.N_alloc | apply Kd.N_drewN | apply Kd.N_drew)); exact HO190.out) hb); have n3_ := Aside0.mk (Kd.V_lower (Kd.V_mono (ok' := fun k_ => some k_ ≠ (.slice (some ⟨go3, 0, none⟩) y181.length co3 : Value).ownBlock) ho0 (fun k_ hk_ => Or.elim hk_ (fun hs_ => Or.elim hs_ (fun hs_ => hs_.2) (fun hs_ => hs_.2)) (fun hn_ => (Kd.fresh' (Kd.R_lt (by (with_reducible repeat (first | apply Kd.R_alloc | apply Kd.R_drewN | apply Kd.R_drew)); exact HO183.out)) k_ hn_)))) (below_size (by repeat (first | (with_reducible first | exact HB.out | apply pA | apply pN | apply pD) | exact HB.out)))); have n4_ := Aside0.mk (Kd.V_lower (Kd.V_mono (ok' := fun k_ => some k_ ≠ (.slice (some ⟨go3, 0, none⟩) y181.length co3 : Value).ownBlock) ho1 (fun k_ hk_ => Or.elim hk_ (fun hs_ => Or.elim hs_ (fun hs_ => hs_.2) (fun hs_ => hs_.2)) (fun hn_ => (Kd.fresh' (Kd.R_lt (by (with_reducible repeat (first | apply Kd.R_alloc | apply Kd.R_drewN | apply Kd.R_drew)); exact HO183.out)) k_ hn_)))) (below_size (by repeat (first | (with_reducible first | exact HB.out | apply pA | apply pN | apply pD) | exact HB.out)))); have n5_ := Aside0.mk (below_step (by repeat (first | (with_reducible first | exact HB.out | apply pA | apply pN | apply pD) | exact HB.out)) hb); clear HO183; clear HO187; clear HO190; clear HB; have HO183 := n0_; have HO187 := n1_; have HO190 := n2_; have HO193 := n3_; have HO196 := n4_; have HB := n5_; clear n0_ n1_ n2_ n3_ n4_ n5_; (try clear hb); (try clear hb2); (try clear hk); (try clear hi); (try clear ho0); (try clear ho1)) | ((with_reducible refine gate_dst (N := 2) rfl ?_); (try (refine gate_guard (by rfl) ?_; dsimp only)); refine box_event ?hg (N := 2) ?hd (cs := #[.slice none 0 0, .slice none 0 0]) (t := 25) ?hr ?_; (case hd => rfl); (case hg => rfl); (case hr => first | (go_simp; done) | (go_simp; rfl)); intro gb198 hg w35 hbox hb; have n0_ := Aside0.mk (Kd.R_below (by (with_reducible repeat (first | apply Kd.R_alloc | apply Kd.R_drewN | apply Kd.R_drew)); exact HO183.out) hb); have n1_ := Aside0.mk (Kd.N_below (Kd.N_elderB (by (with_reducible repeat (first | apply Kd.N_alloc | apply Kd.N_drewN | apply Kd.N_drew)); exact HO187.out) gb198 (Nat.le_of_eq hg.symm)) hb); have n2_ := Aside0.mk (Kd.N_below (Kd.N_elderB (by (with_reducible repeat (first | apply Kd.N_alloc | apply Kd.N_drewN | apply Kd.N_drew)); exact HO190.out) gb198 (Nat.le_of_eq hg.symm)) hb); have n3_ := Aside0.mk (Kd.V_below (Kd.V_elderB (by (with_reducible repeat (first | apply Kd.V_alloc | apply Kd.V_drewN | apply Kd.V_drew)); exact HO193.out) gb198 (Nat.le_of_eq hg.symm)) hb); have n4_ := Aside0.mk (Kd.V_below (Kd.V_elderB (by (with_reducible repeat (first | apply Kd.V_alloc | apply Kd.V_drewN | apply Kd.V_drew)); exact HO196.out) gb198 (Nat.le_of_eq hg.symm)) hb); have n5_ := Aside0.mk (below_step (by repeat (first | (with_reducible first | exact HB.out | apply pA | apply pN | apply pD) | exact HB.out)) hb); have n6_ := Aside0.mk (hbox); have n7_ := Aside0.mk ((by rw [hg]; exact (below_size (by repeat (first | (with_reducible first | exact HB.out | apply pA | apply pN | apply pD) | exact HB.out))) : w.heap.size ≤ gb198)); have n8_ := Aside0.mk ((by rw [hg]; exact (below_size (by repeat (first | (with_reducible first | exact HB.out | apply pA | apply pN | apply pD) | exact HB.out))) : w.heap.size ≤ gb198)); clear HO183; clear HO187; clear HO190; clear HO193; clear HO196; clear HB; have HO183 := n0_; have HO187 := n1_; have HO190 := n2_; have HO193 := n3_; have HO196 := n4_; have HB := n5_; have BK198 := n6_; have GW198 := n7_; have GE198 := n8_; clear n0_ n1_ n2_ n3_ n4_ n5_ n6_ n7_ n8_; clear hb hbox hg; obtain ⟨Ao36, co36, eo36⟩ := Kd.V_slice HO193.out; subst eo36; have hcz37_0 : w35.cell? ⟨gb198, 0, none⟩ = some (.slice none 0 0) := (blk_cell BK198.out 0).trans rfl; have hcz37_1 : w35.cell? ⟨gb198, 1, none⟩ = some (.slice none 0 0) := (blk_cell BK198.out 1).trans rfl; have hfz37_0 := blk_frozen BK198.out 0; have hfz37_1 := blk_frozen BK198.out 1; obtain ⟨Ao38, co38, eo38⟩ := Kd.V_slice HO196.out; subst eo38) | ((with_reducible refine gate_store (t := 25) (p := 2) rfl ?_); refine store_event (t := 25) (p := 2) (v := ?vo_w39) (w1 := ((w35.setCell ⟨gb198, 0, none⟩ (.slice Ao36 t191.length co36)).setCell ⟨gb198, 1, none⟩ (.slice Ao38 t194.length co38))) ?hg ?ho ?hn ?hr ?_; (case ho => rfl); (case hg => rfl); (case hn => rfl); (case hr => first | (go_simp; done) | (go_simp; rfl)); intro w39 hw; have n0_ : Aside0 (Kd.R (Kd.int .u8) 5 w39 w.heap.size (fun _ => True) (.slice (some ⟨go3, 0, none⟩) y181.length co3) y184) := ⟨(by rw [hw]; exact (by (with_reducible repeat (first | apply Kd.R_alloc | apply Kd.R_drewN | apply Kd.R_drew)); exact Kd.R_mono (Kd.R_far (p := ⟨gb198, 1, none⟩) (Kd.R_far (p := ⟨gb198, 0, none⟩) (Kd.R_types HO183.out BK198.out (by decide)) (fun _ hk => hk.2) (.slice Ao36 t191.length co36)) (fun _ hk => hk.2) (.slice Ao38 t194.length co38)) (fun _ hk => trivial)))⟩; have n1_ : Aside0 (Kd.N (Kd.slice 5 (Kd.int .u8)) 26 w39 w.heap.size (fun k_ => some k_ ≠ (.slice (some ⟨go3, 0, none⟩) y181.length co3 : Value).ownBlock ∧ some k_ ≠ (.slice Ao33 t188.length co33 : Value).ownBlock ∧ k_ ≠ gb198) (.slice Ao32 t185.length co32) t185) := ⟨(by rw [hw]; exact (by (with_reducible repeat (first | apply Kd.N_alloc | apply Kd.N_drewN | apply Kd.N_drew)); exact Kd.N_mono (Kd.N_far (p := ⟨gb198, 1, none⟩) (Kd.N_far (p := ⟨gb198, 0, none⟩) (Kd.N_mono HO187.out (fun k_ hk => (⟨hk, hk.2⟩ : _ ∧ k_ ≠ gb198))) (fun _ hk => hk.2) (.slice Ao36 t191.length co36)) (fun _ hk => hk.2) (.slice Ao38 t194.length co38)) (fun _ hk => ⟨hk.1.1.2, ⟨hk.1.1.1, hk.1.2⟩⟩)))⟩; have n2_ : Aside0 (Kd.N k47 47 w39 w.heap.size (fun k_ => some k_ ≠ (.slice (some ⟨go3, 0, none⟩) y181.length co3 : Value).ownBlock ∧ some k_ ≠ (.slice Ao32 t185.length co32 : Value).ownBlock ∧ k_ ≠ gb198) (.slice Ao33 t188.length co33) t188) := ⟨(by rw [hw]; exact (by (with_reducible repeat (first | apply Kd.N_alloc | apply Kd.N_drewN | apply Kd.N_drew)); exact Kd.N_mono (Kd.N_far (p := ⟨gb198, 1, none⟩) (Kd.N_far (p := ⟨gb198, 0, none⟩) (Kd.N_mono HO190.out (fun k_ hk => (⟨hk, hk.2⟩ : _ ∧ k_ ≠ gb198))) (fun _ hk => hk.2) (.slice Ao36 t191.length co36)) (fun _ hk => hk.2) (.slice Ao38 t194.length co38)) (fun _ hk => ⟨hk.1.1.2, ⟨hk.1.1.1, hk.1.2⟩⟩)))⟩; have n3_ : Aside0 (Kd.V (Kd.slice 5 (Kd.int .u8)) 26 w39 w.heap.size (fun k_ => some k_ ≠ (.slice (some ⟨go3, 0, none⟩) y181.length co3 : Value).ownBlock ∧ k_ ≠ gb198) (.slice Ao36 t191.length co36) t191) := ⟨(by rw [hw]; exact (by (with_reducible repeat (first | apply Kd.V_alloc | apply Kd.V_drewN | apply Kd.V_drew)); exact Kd.V_mono (Kd.V_far (p := ⟨gb198, 1, none⟩) (Kd.V_far (p := ⟨gb198, 0, none⟩) (Kd.V_mono HO193.out (fun k_ hk => (⟨hk, hk.2⟩ : _ ∧ k_ ≠ gb198))) (fun _ hk => hk.2) (.slice Ao36 t191.length co36)) (fun _ hk => hk.2) (.slice Ao38 t194.length co38)) (fun _ hk => ⟨hk.1.1, hk.1.2⟩)))⟩; have n4_ : Aside0 (Kd.V k47 47 w39 w.heap.size (fun k_ => some k_ ≠ (.slice (some ⟨go3, 0, none⟩) y181.length co3 : Value).ownBlock ∧ k_ ≠ gb198) (.slice Ao38 t194.length co38) t194) := ⟨(by rw [hw]; exact (by (with_reducible repeat (first | apply Kd.V_alloc | apply Kd.V_drewN | apply Kd.V_drew)); exact Kd.V_mono (Kd.V_far (p := ⟨gb198, 1, none⟩) (Kd.V_far (p := ⟨gb198, 0, none⟩) (Kd.V_mono HO196.out (fun k_ hk => (⟨hk, hk.2⟩ : _ ∧ k_ ≠ gb198))) (fun _ hk => hk.2) (.slice Ao36 t191.length co36)) (fun _ hk => hk.2) (.slice Ao38 t194.length co38)) (fun _ hk => ⟨hk.1.1, hk.1.2⟩)))⟩; have n5_ : Aside0 (w39.heap[gb198]? = some (.cells #[.slice Ao36 t191.length co36, .slice Ao38 t194.length co38] 25 (0, 0))) := ⟨(by rw [hw]; exact (by (with_reducible repeat (first | refine qN ?_ _ | refine qD ?_ | refine qA ?_ _)); refine blk_put (cs := #[.slice Ao36 t191.length co36, .slice none 0 0]) ?_ 1 _ rfl; (with_reducible repeat (first | refine qN ?_ _ | refine qD ?_ | refine qA ?_ _)); refine blk_put (cs := #[.slice none 0 0, .slice none 0 0]) ?_ 0 _ rfl; (with_reducible repeat (first | refine qN ?_ _ | refine qD ?_ | refine qA ?_ _)); exact BK198.out))⟩; have n6_ : Aside0 (Below w.heap.size w w39) := ⟨(by rw [hw]; exact (by repeat (first | (with_reducible first | exact HB.out | apply pA | apply pN | apply pD | refine pS ?_ GE198.out) | exact HB.out)))⟩; clear hw; clear HO183; clear HO187; clear HO190; clear HO193; clear HO196; clear BK198; clear HB; have HO183 := n0_; have HO187 := n1_; have HO190 := n2_; have HO193 := n3_; have HO196 := n4_; have BK198 := n5_; have HB := n6_; clear n0_ n1_ n2_ n3_ n4_ n5_ n6_; have hcz40_0 : w39.cell? ⟨gb198, 0, none⟩ = some (.slice Ao36 t191.length co36) := (blk_cell BK198.out 0).trans rfl; have hcz40_1 : w39.cell? ⟨gb198, 1, none⟩ = some (.slice Ao38 t194.length co38) := (blk_cell BK198.out 1).trans rfl; have hfz40_0 := blk_frozen BK198.out 0; have hfz40_1 := blk_frozen BK198.out 1) | ((with_reducible refine gate_callee (f := 14) rfl ?_); refine goesL_ (some 22) rfl rfl Try.func14 (by kernel_rfl) rfl #[.agg #[.slice Ao36 t191.length co36, .slice Ao38 t194.length co38], .int .i64 3] rfl (by (try simp only [List.map_toArray, List.map_cons, List.map_nil]); first | done | rfl | (simp only [List.length_drop, List.length_take]; rfl)) ?_; (with_reducible refine (disk_Read.calls k (fun k_ => (some k_ ≠ (.slice (some ⟨go3, 0, none⟩) y181.length co3 : Value).ownBlock ∧ k_ ≠ gb198)) _ _ t191 (fun k_ => (some k_ ≠ (.slice (some ⟨go3, 0, none⟩) y181.length co3 : Value).ownBlock ∧ k_ ≠ gb198)) _ _ t194 3 t199 t202 _ ?side1 ?side2 A6.out).mono ?_); (case side1 => exact HO193.out); (case side2 => exact HO196.out); rintro e w41 ⟨v200, rfl, ho0, hb⟩; refine ⟨_, rfl, ?_⟩; have n0_ := Aside0.mk (Kd.R_elder' (by (with_reducible repeat (first | apply Kd.R_alloc | apply Kd.R_drewN | apply Kd.R_drew)); exact HO183.out) (Kd.R_base ho0) hb); have n1_ := Aside0.mk (Kd.N_elder' (by (with_reducible repeat (first | apply Kd.N_alloc | apply Kd.N_drewN | apply Kd.N_drew)); exact HO187.out) (Kd.R_base ho0) hb); have n2_ := Aside0.mk (Kd.N_elder' (by (with_reducible repeat (first | apply Kd.N_alloc | apply Kd.N_drewN | apply Kd.N_drew)); exact HO190.out) (Kd.R_base ho0) hb); have n3_ := Aside0.mk (Kd.V_elder' (by (with_reducible repeat (first | apply Kd.V_alloc | apply Kd.V_drewN | apply Kd.V_drew)); exact HO193.out) (Kd.R_base ho0) hb); have n4_ := Aside0.mk (Kd.V_elder' (by (with_reducible repeat (first | apply Kd.V_alloc | apply Kd.V_drewN | apply Kd.V_drew)); exact HO196.out) (Kd.R_base ho0) hb); have n5_ := Aside0.mk (Kd.R_lower (Kd.R_new' (Kd.R_mono (ok' := fun k_ => True) ho0 (fun _ hk_ => trivial)) (Kd.R_lt (by (with_reducible repeat (first | apply Kd.R_alloc | apply Kd.R_drewN | apply Kd.R_drew)); exact HO183.out))) (below_size (by repeat (first | (with_reducible first | exact HB.out | apply pA | apply pN | apply pD | refine pS ?_ GE198.out) | exact HB.out)))); have n6_ := Aside0.mk (blk_below (g := gb198) (o := .cells #[.slice Ao36 t191.length co36, .slice Ao38 t194.length co38] 25 (0, 0)) (by (with_reducible repeat (first | refine qN ?_ _ | refine qD ?_ | refine qA ?_ _)); exact BK198.out) hb); have n7_ := Aside0.mk (below_step (by repeat (first | (with_reducible first | exact HB.out | apply pA | apply pN | apply pD | refine pS ?_ GE198.out) | exact HB.out)) hb); clear HO183; clear HO187; clear HO190; clear HO193; clear HO196; clear BK198; clear HB; have HO183 := n0_; have HO187 := n1_; have HO190 := n2_; have HO193 := n3_; have HO196 := n4_; have HO201 := n5_; have BK198 := n6_; have HB := n7_; clear n0_ n1_ n2_ n3_ n4_ n5_ n6_ n7_; (try clear hb); (try clear hb2); (try clear hk); (try clear hi); (try clear ho0); have hcz42_0 : w41.cell? ⟨gb198, 0, none⟩ = some (.slice Ao36 t191.length co36) := (blk_cell BK198.out 0).trans rfl; have hcz42_1 : w41.cell? ⟨gb198, 1, none⟩ = some (.slice Ao38 t194.length co38) := (blk_cell BK198.out 1).trans rfl; have hfz42_0 := blk_frozen BK198.out 0; have hfz42_1 := blk_frozen BK198.out 1) | ((with_reducible refine gate_callee (f := 20) rfl ?_); refine goesL_ (some 27) rfl rfl Try.func20 (by kernel_rfl) rfl #[.agg #[.slice Ao36 t191.length co36, .slice Ao38 t194.length co38], .slice none 0 0] rfl (by (try simp only [List.map_toArray, List.map_cons, List.map_nil]); first | done | rfl | (simp only [List.length_drop, List.length_take]; rfl)) ?_; (refine (disk_Crash.calls k (fun k_ => ((some k_ ≠ (.slice (some ⟨go3, 0, none⟩) y181.length co3 : Value).ownBlock ∧ k_ ≠ gb198) ∧ some k_ ≠ (v200 : Value).ownBlock)) _ _ t191 (fun k_ => ((some k_ ≠ (.slice (some ⟨go3, 0, none⟩) y181.length co3 : Value).ownBlock ∧ k_ ≠ gb198) ∧ some k_ ≠ (v200 : Value).ownBlock)) _ _ t194 _ _ ([] : List Bool) t203 t206 _ ?side1 ?side2 ?side3 ?side4 A7.out).mono ?_); (case side1 => exact HO193.out); (case side2 => exact HO196.out); (case side3 => exact Kd.C_nil _ _); (case side4 => exact Nat.le_refl _); rintro e w43 ⟨v204, v207, rfl, ho0, ho1, hb⟩; refine ⟨_, rfl, ?_⟩; have n0_ := Aside0.mk (Kd.R_below (by (with_reducible repeat (first | apply Kd.R_alloc | apply Kd.R_drewN | apply Kd.R_drew)); exact HO183.out) hb); have n1_ := Aside0.mk (Kd.N_mono (Kd.N_told (Kd.N_told (Kd.N_old (by (with_reducible repeat (first | apply Kd.N_alloc | apply Kd.N_drewN | apply Kd.N_drew)); exact HO187.out) hb) (Kd.N_base ho0)) (Kd.N_base ho1)) (fun _ h_ => h_.1)); have n2_ := Aside0.mk (Kd.N_mono (Kd.N_told (Kd.N_told (Kd.N_old (by (with_reducible repeat (first | apply Kd.N_alloc | apply Kd.N_drewN | apply Kd.N_drew)); exact HO190.out) hb) (Kd.N_base ho0)) (Kd.N_base ho1)) (fun _ h_ => h_.1)); have n3_ := Aside0.mk (Kd.V_mono (Kd.V_told (Kd.V_told (Kd.V_old (by (with_reducible repeat (first | apply Kd.V_alloc | apply Kd.V_drewN | apply Kd.V_drew)); exact HO193.out) hb) (Kd.N_base ho0)) (Kd.N_base ho1)) (fun _ h_ => h_.1)); have n4_ := Aside0.mk (Kd.V_mono (Kd.V_told (Kd.V_told (Kd.V_old (by (with_reducible repeat (first | apply Kd.V_alloc | apply Kd.V_drewN | apply Kd.V_drew)); exact HO196.out) hb) (Kd.N_base ho0)) (Kd.N_base ho1)) (fun _ h_ => h_.1)); have n5_ := Aside0.mk (Kd.R_below (by (with_reducible repeat (first | apply Kd.R_alloc | apply Kd.R_drewN | apply Kd.R_drew)); exact HO201.out) hb); have n6_ := Aside0.mk (Kd.N_lower (Kd.N_mono (ok' := fun k_ => some k_ ≠ (v207 : Value).ownBlock ∧ some k_ ≠ (.slice (some ⟨go3, 0, none⟩) y181.length co3 : Value).ownBlock ∧ some k_ ≠ (v200 : Value).ownBlock ∧ k_ ≠ gb198) ho0 (fun k_ hk_ => ⟨hk_.2, Or.elim hk_.1 (fun hs_ => Or.elim hs_ (fun hs_ => hs_.1.1) (fun hs_ => hs_.1.1)) (fun hn_ => (Kd.fresh' (Kd.R_lt (by (with_reducible repeat (first | apply Kd.R_alloc | apply Kd.R_drewN | apply Kd.R_drew)); exact HO183.out)) k_ hn_)), Or.elim hk_.1 (fun hs_ => Or.elim hs_ (fun hs_ => hs_.2) (fun hs_ => hs_.2)) (fun hn_ => (Kd.fresh' (Kd.R_lt (by (with_reducible repeat (first | apply Kd.R_alloc | apply Kd.R_drewN | apply Kd.R_drew)); exact HO201.out)) k_ hn_)), Or.elim hk_.1 (fun hs_ => Or.elim hs_ (fun hs_ => hs_.1.2) (fun hs_ => hs_.1.2)) (fun hn_ => (Kd.freshB (g := gb198) (o := .cells #[.slice Ao36 t191.length co36, .slice Ao38 t194.length co38] 25 (0, 0)) (by (with_reducible repeat (first | refine qN ?_ _ | refine qD ?_ | refine qA ?_ _)); exact BK198.out) k_ hn_))⟩)) (below_size (by repeat (first | (with_reducible first | exact HB.out | apply pA | apply pN | apply pD | refine pS ?_ GE198.out) | exact HB.out)))); have n7_ := Aside0.mk (Kd.N_lower (Kd.N_mono (ok' := fun k_ => some k_ ≠ (v204 : Value).ownBlock ∧ some k_ ≠ (.slice (some ⟨go3, 0, none⟩) y181.length co3 : Value).ownBlock ∧ some k_ ≠ (v200 : Value).ownBlock ∧ k_ ≠ gb198) ho1 (fun k_ hk_ => ⟨hk_.2, Or.elim hk_.1 (fun hs_ => Or.elim hs_ (fun hs_ => hs_.1.1) (fun hs_ => hs_.1.1)) (fun hn_ => (Kd.fresh' (Kd.R_lt (by (with_reducible repeat (first | apply Kd.R_alloc | apply Kd.R_drewN | apply Kd.R_drew)); exact HO183.out)) k_ hn_)), Or.elim hk_.1 (fun hs_ => Or.elim hs_ (fun hs_ => hs_.2) (fun hs_ => hs_.2)) (fun hn_ => (Kd.fresh' (Kd.R_lt (by (with_reducible repeat (first | apply Kd.R_alloc | apply Kd.R_drewN | apply Kd.R_drew)); exact HO201.out)) k_ hn_)), Or.elim hk_.1 (fun hs_ => Or.elim hs_ (fun hs_ => hs_.1.2) (fun hs_ => hs_.1.2)) (fun hn_ => (Kd.freshB (g := gb198) (o := .cells #[.slice Ao36 t191.length co36, .slice Ao38 t194.length co38] 25 (0, 0)) (by (with_reducible repeat (first | refine qN ?_ _ | refine qD ?_ | refine qA ?_ _)); exact BK198.out) k_ hn_))⟩)) (below_size (by repeat (first | (with_reducible first | exact HB.out | apply pA | apply pN | apply pD | refine pS ?_ GE198.out) | exact HB.out)))); have n8_ := Aside0.mk (blk_below (g := gb198) (o := .cells #[.slice Ao36 t191.length co36, .slice Ao38 t194.length co38] 25 (0, 0)) (by (with_reducible repeat (first | refine qN ?_ _ | refine qD ?_ | refine qA ?_ _)); exact BK198.out) hb); have n9_ := Aside0.mk (below_step (by repeat (first | (with_reducible first | exact HB.out | apply pA | apply pN | apply pD | refine pS ?_ GE198.out) | exact HB.out)) hb); clear HO183; clear HO187; clear HO190; clear HO193; clear HO196; clear HO201; clear BK198; clear HB; have HO183 := n0_; have HO187 := n1_; have HO190 := n2_; have HO193 := n3_; have HO196 := n4_; have HO201 := n5_; have HO205 := n6_; have HO208 := n7_; have BK198 := n8_; have HB := n9_; clear n0_ n1_ n2_ n3_ n4_ n5_ n6_ n7_ n8_ n9_; (try clear hb); (try clear hb2); (try clear hk); (try clear hi); (try clear ho0); (try clear ho1); obtain ⟨Ao44, co44, eo44⟩ := Kd.N_slice HO205.out; subst eo44; obtain ⟨Ao45, co45, eo45⟩ := Kd.N_slice HO208.out; subst eo45) | ((with_reducible refine gate_callee (f := 14) rfl ?_); refine goesL_ (some 28) rfl rfl Try.func14 (by kernel_rfl) rfl #[.agg #[.slice Ao44 t203.length co44, .slice Ao45 t206.length co45], .int .i64 3] rfl (by (try simp only [List.map_toArray, List.map_cons, List.map_nil]); first | done | rfl | (simp only [List.length_drop, List.length_take]; rfl)) ?_; (with_reducible refine (disk_Read.calls k (fun k_ => (some k_ ≠ (.slice Ao45 t206.length co45 : Value).ownBlock ∧ (some k_ ≠ (.slice (some ⟨go3, 0, none⟩) y181.length co3 : Value).ownBlock ∧ (some k_ ≠ (v200 : Value).ownBlock ∧ k_ ≠ gb198)))) _ _ t203 (fun k_ => (some k_ ≠ (.slice Ao44 t203.length co44 : Value).ownBlock ∧ (some k_ ≠ (.slice (some ⟨go3, 0, none⟩) y181.length co3 : Value).ownBlock ∧ (some k_ ≠ (v200 : Value).ownBlock ∧ k_ ≠ gb198)))) _ _ t206 3 t209 t212 _ ?side1 ?side2 A8.out).mono ?_); (case side1 => exact Kd.N_V (HO205.out)); (case side2 => exact Kd.N_V (HO208.out)); rintro e w46 ⟨v210, rfl, ho0, hb⟩; refine ⟨_, rfl, ?_⟩; have n0_ := Aside0.mk (Kd.R_elder' (by (with_reducible repeat (first | apply Kd.R_alloc | apply Kd.R_drewN | apply Kd.R_drew)); exact HO183.out) (Kd.R_base ho0) hb); have n1_ := Aside0.mk (Kd.N_elder' (by (with_reducible repeat (first | apply Kd.N_alloc | apply Kd.N_drewN | apply Kd.N_drew)); exact HO187.out) (Kd.R_base ho0) hb); have n2_ := Aside0.mk (Kd.N_elder' (by (with_reducible repeat (first | apply Kd.N_alloc | apply Kd.N_drewN | apply Kd.N_drew)); exact HO190.out) (Kd.R_base ho0) hb); have n3_ := Aside0.mk (Kd.V_elder' (by (with_reducible repeat (first | apply Kd.V_alloc | apply Kd.V_drewN | apply Kd.V_drew)); exact HO193.out) (Kd.R_base ho0) hb); have n4_ := Aside0.mk (Kd.V_elder' (by (with_reducible repeat (first | apply Kd.V_alloc | apply Kd.V_drewN | apply Kd.V_drew)); exact HO196.out) (Kd.R_base ho0) hb); have n5_ := Aside0.mk (Kd.R_elder' (by (with_reducible repeat (first | apply Kd.R_alloc | apply Kd.R_drewN | apply Kd.R_drew)); exact HO201.out) (Kd.R_base ho0) hb); have n6_ := Aside0.mk (Kd.N_elder' (by (with_reducible repeat (first | apply Kd.N_alloc | apply Kd.N_drewN | apply Kd.N_drew)); exact HO205.out) (Kd.R_base ho0) hb); have n7_ := Aside0.mk (Kd.N_elder' (by (with_reducible repeat (first | apply Kd.N_alloc | apply Kd.N_drewN | apply Kd.N_drew)); exact HO208.out) (Kd.R_base ho0) hb); have n8_ := Aside0.mk (Kd.R_lower (Kd.R_new' (Kd.R_new' (Kd.R_mono (ok' := fun k_ => True) ho0 (fun _ hk_ => trivial)) (Kd.R_lt (by (with_reducible repeat (first | apply Kd.R_alloc | apply Kd.R_drewN | apply Kd.R_drew)); exact HO183.out))) (Kd.R_lt (by (with_reducible repeat (first | apply Kd.R_alloc | apply Kd.R_drewN | apply Kd.R_drew)); exact HO201.out))) (below_size (by repeat (first | (with_reducible first | exact HB.out | apply pA | apply pN | apply pD | refine pS ?_ GE198.out) | exact HB.out)))); have n9_ := Aside0.mk (blk_below (g := gb198) (o := .cells #[.slice Ao36 t191.length co36, .slice Ao38 t194.length co38] 25 (0, 0)) (by (with_reducible repeat (first | refine qN ?_ _ | refine qD ?_ | refine qA ?_ _)); exact BK198.out) hb); have n10_ := Aside0.mk (below_step (by repeat (first | (with_reducible first | exact HB.out | apply pA | apply pN | apply pD | refine pS ?_ GE198.out) | exact HB.out)) hb); clear HO183; clear HO187; clear HO190; clear HO193; clear HO196; clear HO201; clear HO205; clear HO208; clear BK198; clear HB; have HO183 := n0_; have HO187 := n1_; have HO190 := n2_; have HO193 := n3_; have HO196 := n4_; have HO201 := n5_; have HO205 := n6_; have HO208 := n7_; have HO211 := n8_; have BK198 := n9_; have HB := n10_; clear n0_ n1_ n2_ n3_ n4_ n5_ n6_ n7_ n8_ n9_ n10_; (try clear hb); (try clear hb2); (try clear hk); (try clear hi); (try clear ho0); have hcz47_0 : w46.cell? ⟨gb198, 0, none⟩ = some (.slice Ao36 t191.length co36) := (blk_cell BK198.out 0).trans rfl; have hcz47_1 : w46.cell? ⟨gb198, 1, none⟩ = some (.slice Ao38 t194.length co38) := (blk_cell BK198.out 1).trans rfl; have hfz47_0 := blk_frozen BK198.out 0; have hfz47_1 := blk_frozen BK198.out 1) | ((with_reducible refine gate_callee (f := 18) rfl ?_); refine goesL_ (some 33) rfl rfl Try.func18 (by kernel_rfl) rfl #[.agg #[.slice Ao36 t191.length co36, .slice Ao38 t194.length co38]] rfl (by (try simp only [List.map_toArray, List.map_cons, List.map_nil]); first | done | rfl | (simp only [List.length_drop, List.length_take]; rfl)) ?_; (with_reducible refine (disk_Flush.calls k (fun k_ => (((((some k_ ≠ (.slice (some ⟨go3, 0, none⟩) y181.length co3 : Value).ownBlock ∧ k_ ≠ gb198) ∧ some k_ ≠ (v200 : Value).ownBlock) ∧ some k_ ≠ (.slice Ao44 t203.length co44 : Value).ownBlock) ∧ some k_ ≠ (.slice Ao45 t206.length co45 : Value).ownBlock) ∧ some k_ ≠ (v210 : Value).ownBlock)) _ _ t191 _ _ t194 t213 t216 _ ?side1 ?side2 ?side3 A9.out).mono ?_); (case side1 => exact HO193.out); (case side2 => repeat (first | exact (Kd.V_reads' HO196.out).2.2 | (with_reducible refine Kd.C_alloc ?_ _) | (with_reducible refine Kd.C_drewN ?_ _) | (with_reducible refine Kd.C_drew ?_))); (case side3 => exact (Kd.V_reads' HO196.out).2.1); rintro e w48 ⟨v214, v217, rfl, ho0, ho1, hb⟩; refine ⟨_, rfl, ?_⟩; have n0_ := Aside0.mk (Kd.R_below (by (with_reducible repeat (first | apply Kd.R_alloc | apply Kd.R_drewN | apply Kd.R_drew)); exact HO183.out) hb); have n1_ := Aside0.mk (Kd.N_mono (Kd.N_told (Kd.N_told (Kd.N_old (by (with_reducible repeat (first | apply Kd.N_alloc | apply Kd.N_drewN | apply Kd.N_drew)); exact HO187.out) hb) (Kd.N_base ho0)) (Kd.N_base ho1)) (fun _ h_ => h_.1)); have n2_ := Aside0.mk (Kd.N_mono (Kd.N_told (Kd.N_told (Kd.N_old (by (with_reducible repeat (first | apply Kd.N_alloc | apply Kd.N_drewN | apply Kd.N_drew)); exact HO190.out) hb) (Kd.N_base ho0)) (Kd.N_base ho1)) (fun _ h_ => h_.1)); have n3_ := Aside0.mk (Kd.V_mono (Kd.V_told (Kd.V_told (Kd.V_old (by (with_reducible repeat (first | apply Kd.V_alloc | apply Kd.V_drewN | apply Kd.V_drew)); exact HO193.out) hb) (Kd.N_base ho0)) (Kd.N_base ho1)) (fun _ h_ => h_.1)); have n4_ := Aside0.mk (Kd.V_mono (Kd.V_told (Kd.V_told (Kd.V_old (by (with_reducible repeat (first | apply Kd.V_alloc | apply Kd.V_drewN | apply Kd.V_drew)); exact HO196.out) hb) (Kd.N_base ho0)) (Kd.N_base ho1)) (fun _ h_ => h_.1)); have n5_ := Aside0.mk (Kd.R_below (by (with_reducible repeat (first | apply Kd.R_alloc | apply Kd.R_drewN | apply Kd.R_drew)); exact HO201.out) hb); have n6_ := Aside0.mk (Kd.N_mono (Kd.N_told (Kd.N_told (Kd.N_old (by (with_reducible repeat (first | apply Kd.N_alloc | apply Kd.N_drewN | apply Kd.N_drew)); exact HO205.out) hb) (Kd.N_base ho0)) (Kd.N_base ho1)) (fun _ h_ => h_.1)); have n7_ := Aside0.mk (Kd.N_mono (Kd.N_told (Kd.N_told (Kd.N_old (by (with_reducible repeat (first | apply Kd.N_alloc | apply Kd.N_drewN | apply Kd.N_drew)); exact HO208.out) hb) (Kd.N_base ho0)) (Kd.N_base ho1)) (fun _ h_ => h_.1)); have n8_ := Aside0.mk (Kd.R_below (by (with_reducible repeat (first | apply Kd.R_alloc | apply Kd.R_drewN | apply Kd.R_drew)); exact HO211.out) hb); have n9_ := Aside0.mk (Kd.N_lower (Kd.N_mono (ok' := fun k_ => some k_ ≠ (v217 : Value).ownBlock ∧ some k_ ≠ (.slice (some ⟨go3, 0, none⟩) y181.length co3 : Value).ownBlock ∧ some k_ ≠ (v200 : Value).ownBlock ∧ some k_ ≠ (.slice Ao44 t203.length co44 : Value).ownBlock ∧ some k_ ≠ (.slice Ao45 t206.length co45 : Value).ownBlock ∧ some k_ ≠ (v210 : Value).ownBlock ∧ k_ ≠ gb198) ho0 (fun k_ hk_ => ⟨hk_.2, Or.elim hk_.1 (fun hs_ => hs_.1.1.1.1.1) (fun hn_ => (Kd.fresh' (Kd.R_lt (by (with_reducible repeat (first | apply Kd.R_alloc | apply Kd.R_drewN | apply Kd.R_drew)); exact HO183.out)) k_ hn_)), Or.elim hk_.1 (fun hs_ => hs_.1.1.1.2) (fun hn_ => (Kd.fresh' (Kd.R_lt (by (with_reducible repeat (first | apply Kd.R_alloc | apply Kd.R_drewN | apply Kd.R_drew)); exact HO201.out)) k_ hn_)), Or.elim hk_.1 (fun hs_ => hs_.1.1.2) (fun hn_ => (Kd.fresh' (Kd.N_lt (by (with_reducible repeat (first | apply Kd.N_alloc | apply Kd.N_drewN | apply Kd.N_drew)); exact HO205.out)) k_ hn_)), Or.elim hk_.1 (fun hs_ => hs_.1.2) (fun hn_ => (Kd.fresh' (Kd.N_lt (by (with_reducible repeat (first | apply Kd.N_alloc | apply Kd.N_drewN | apply Kd.N_drew)); exact HO208.out)) k_ hn_)), Or.elim hk_.1 (fun hs_ => hs_.2) (fun hn_ => (Kd.fresh' (Kd.R_lt (by (with_reducible repeat (first | apply Kd.R_alloc | apply Kd.R_drewN | apply Kd.R_drew)); exact HO211.out)) k_ hn_)), Or.elim hk_.1 (fun hs_ => hs_.1.1.1.1.2) (fun hn_ => (Kd.freshB (g := gb198) (o := .cells #[.slice Ao36 t191.length co36, .slice Ao38 t194.length co38] 25 (0, 0)) (by (with_reducible repeat (first | refine qN ?_ _ | refine qD ?_ | refine qA ?_ _)); exact BK198.out) k_ hn_))⟩)) (below_size (by repeat (first | (with_reducible first | exact HB.out | apply pA | apply pN | apply pD | refine pS ?_ GE198.out) | exact HB.out)))); have n10_ := Aside0.mk (Kd.N_lower (Kd.N_mono (ok' := fun k_ => some k_ ≠ (v214 : Value).ownBlock ∧ some k_ ≠ (.slice (some ⟨go3, 0, none⟩) y181.length co3 : Value).ownBlock ∧ some k_ ≠ (v200 : Value).ownBlock ∧ some k_ ≠ (.slice Ao44 t203.length co44 : Value).ownBlock ∧ some k_ ≠ (.slice Ao45 t206.length co45 : Value).ownBlock ∧ some k_ ≠ (v210 : Value).ownBlock ∧ k_ ≠ gb198) ho1 (fun k_ hk_ => ⟨hk_.2, Or.elim hk_.1 (fun hs_ => hs_.1.1.1.1.1) (fun hn_ => (Kd.fresh' (Kd.R_lt (by (with_reducible repeat (first | apply Kd.R_alloc | apply Kd.R_drewN | apply Kd.R_drew)); exact HO183.out)) k_ hn_)), Or.elim hk_.1 (fun hs_ => hs_.1.1.1.2) (fun hn_ => (Kd.fresh' (Kd.R_lt (by (with_reducible repeat (first | apply Kd.R_alloc | apply Kd.R_drewN | apply Kd.R_drew)); exact HO201.out)) k_ hn_)), Or.elim hk_.1 (fun hs_ => hs_.1.1.2) (fun hn_ => (Kd.fresh' (Kd.N_lt (by (with_reducible repeat (first | apply Kd.N_alloc | apply Kd.N_drewN | apply Kd.N_drew)); exact HO205.out)) k_ hn_)), Or.elim hk_.1 (fun hs_ => hs_.1.2) (fun hn_ => (Kd.fresh' (Kd.N_lt (by (with_reducible repeat (first | apply Kd.N_alloc | apply Kd.N_drewN | apply Kd.N_drew)); exact HO208.out)) k_ hn_)), Or.elim hk_.1 (fun hs_ => hs_.2) (fun hn_ => (Kd.fresh' (Kd.R_lt (by (with_reducible repeat (first | apply Kd.R_alloc | apply Kd.R_drewN | apply Kd.R_drew)); exact HO211.out)) k_ hn_)), Or.elim hk_.1 (fun hs_ => hs_.1.1.1.1.2) (fun hn_ => (Kd.freshB (g := gb198) (o := .cells #[.slice Ao36 t191.length co36, .slice Ao38 t194.length co38] 25 (0, 0)) (by (with_reducible repeat (first | refine qN ?_ _ | refine qD ?_ | refine qA ?_ _)); exact BK198.out) k_ hn_))⟩)) (below_size (by repeat (first | (with_reducible first | exact HB.out | apply pA | apply pN | apply pD | refine pS ?_ GE198.out) | exact HB.out)))); have n11_ := Aside0.mk (blk_below (g := gb198) (o := .cells #[.slice Ao36 t191.length co36, .slice Ao38 t194.length co38] 25 (0, 0)) (by (with_reducible repeat (first | refine qN ?_ _ | refine qD ?_ | refine qA ?_ _)); exact BK198.out) hb); have n12_ := Aside0.mk (below_step (by repeat (first | (with_reducible first | exact HB.out | apply pA | apply pN | apply pD | refine pS ?_ GE198.out) | exact HB.out)) hb); clear HO183; clear HO187; clear HO190; clear HO193; clear HO196; clear HO201; clear HO205; clear HO208; clear HO211; clear BK198; clear HB; have HO183 := n0_; have HO187 := n1_; have HO190 := n2_; have HO193 := n3_; have HO196 := n4_; have HO201 := n5_; have HO205 := n6_; have HO208 := n7_; have HO211 := n8_; have HO215 := n9_; have HO218 := n10_; have BK198 := n11_; have HB := n12_; clear n0_ n1_ n2_ n3_ n4_ n5_ n6_ n7_ n8_ n9_ n10_ n11_ n12_; (try clear hb); (try clear hb2); (try clear hk); (try clear hi); (try clear ho0); (try clear ho1); obtain ⟨Ao49, co49, eo49⟩ := Kd.N_slice HO215.out; subst eo49; obtain ⟨Ao50, co50, eo50⟩ := Kd.N_slice HO218.out; subst eo50) | ((with_reducible refine gate_callee (f := 14) rfl ?_); refine goesL_ (some 34) rfl rfl Try.func14 (by kernel_rfl) rfl #[.agg #[.slice Ao49 t213.length co49, .slice Ao50 t216.length co50], .int .i64 3] rfl (by (try simp only [List.map_toArray, List.map_cons, List.map_nil]); first | done | rfl | (simp only [List.length_drop, List.length_take]; rfl)) ?_; (with_reducible refine (disk_Read.calls k (fun k_ => (some k_ ≠ (.slice Ao50 t216.length co50 : Value).ownBlock ∧ (some k_ ≠ (.slice (some ⟨go3, 0, none⟩) y181.length co3 : Value).ownBlock ∧ (some k_ ≠ (v200 : Value).ownBlock ∧ (some k_ ≠ (.slice Ao44 t203.length co44 : Value).ownBlock ∧ (some k_ ≠ (.slice Ao45 t206.length co45 : Value).ownBlock ∧ (some k_ ≠ (v210 : Value).ownBlock ∧ k_ ≠ gb198))))))) _ _ t213 (fun k_ => (some k_ ≠ (.slice Ao49 t213.length co49 : Value).ownBlock ∧ (some k_ ≠ (.slice (some ⟨go3, 0, none⟩) y181.length co3 : Value).ownBlock ∧ (some k_ ≠ (v200 : Value).ownBlock ∧ (some k_ ≠ (.slice Ao44 t203.length co44 : Value).ownBlock ∧ (some k_ ≠ (.slice Ao45 t206.length co45 : Value).ownBlock ∧ (some k_ ≠ (v210 : Value).ownBlock ∧ k_ ≠ gb198))))))) _ _ t216 3 t219 t222 _ ?side1 ?side2 A10.out).mono ?_); (case side1 => exact Kd.N_V (HO215.out)); (case side2 => exact Kd.N_V (HO218.out)); rintro e w51 ⟨v220, rfl, ho0, hb⟩; refine ⟨_, rfl, ?_⟩; have n0_ := Aside0.mk (Kd.R_elder' (by (with_reducible repeat (first | apply Kd.R_alloc | apply Kd.R_drewN | apply Kd.R_drew)); exact HO183.out) (Kd.R_base ho0) hb); have n1_ := Aside0.mk (Kd.N_elder' (by (with_reducible repeat (first | apply Kd.N_alloc | apply Kd.N_drewN | apply Kd.N_drew)); exact HO187.out) (Kd.R_base ho0) hb); have n2_ := Aside0.mk (Kd.N_elder' (by (with_reducible repeat (first | apply Kd.N_alloc | apply Kd.N_drewN | apply Kd.N_drew)); exact HO190.out) (Kd.R_base ho0) hb); have n3_ := Aside0.mk (Kd.V_elder' (by (with_reducible repeat (first | apply Kd.V_alloc | apply Kd.V_drewN | apply Kd.V_drew)); exact HO193.out) (Kd.R_base ho0) hb); have n4_ := Aside0.mk (Kd.V_elder' (by (with_reducible repeat (first | apply Kd.V_alloc | apply Kd.V_drewN | apply Kd.V_drew)); exact HO196.out) (Kd.R_base ho0) hb); have n5_ := Aside0.mk (Kd.R_elder' (by (with_reducible repeat (first | apply Kd.R_alloc | apply Kd.R_drewN | apply Kd.R_drew)); exact HO201.out) (Kd.R_base ho0) hb); have n6_ := Aside0.mk (Kd.N_elder' (by (with_reducible repeat (first | apply Kd.N_alloc | apply Kd.N_drewN | apply Kd.N_drew)); exact HO205.out) (Kd.R_base ho0) hb); have n7_ := Aside0.mk (Kd.N_elder' (by (with_reducible repeat (first | apply Kd.N_alloc | apply Kd.N_drewN | apply Kd.N_drew)); exact HO208.out) (Kd.R_base ho0) hb); have n8_ := Aside0.mk (Kd.R_elder' (by (with_reducible repeat (first | apply Kd.R_alloc | apply Kd.R_drewN | apply Kd.R_drew)); exact HO211.out) (Kd.R_base ho0) hb); have n9_ := Aside0.mk (Kd.N_elder' (by (with_reducible repeat (first | apply Kd.N_alloc | apply Kd.N_drewN | apply Kd.N_drew)); exact HO215.out) (Kd.R_base ho0) hb); have n10_ := Aside0.mk (Kd.N_elder' (by (with_reducible repeat (first | apply Kd.N_alloc | apply Kd.N_drewN | apply Kd.N_drew)); exact HO218.out) (Kd.R_base ho0) hb); have n11_ := Aside0.mk (Kd.R_lower (Kd.R_new' (Kd.R_new' (Kd.R_new' (Kd.R_mono (ok' := fun k_ => True) ho0 (fun _ hk_ => trivial)) (Kd.R_lt (by (with_reducible repeat (first | apply Kd.R_alloc | apply Kd.R_drewN | apply Kd.R_drew)); exact HO183.out))) (Kd.R_lt (by (with_reducible repeat (first | apply Kd.R_alloc | apply Kd.R_drewN | apply Kd.R_drew)); exact HO201.out))) (Kd.R_lt (by (with_reducible repeat (first | apply Kd.R_alloc | apply Kd.R_drewN | apply Kd.R_drew)); exact HO211.out))) (below_size (by repeat (first | (with_reducible first | exact HB.out | apply pA | apply pN | apply pD | refine pS ?_ GE198.out) | exact HB.out)))); have n12_ := Aside0.mk (blk_below (g := gb198) (o := .cells #[.slice Ao36 t191.length co36, .slice Ao38 t194.length co38] 25 (0, 0)) (by (with_reducible repeat (first | refine qN ?_ _ | refine qD ?_ | refine qA ?_ _)); exact BK198.out) hb); have n13_ := Aside0.mk (below_step (by repeat (first | (with_reducible first | exact HB.out | apply pA | apply pN | apply pD | refine pS ?_ GE198.out) | exact HB.out)) hb); clear HO183; clear HO187; clear HO190; clear HO193; clear HO196; clear HO201; clear HO205; clear HO208; clear HO211; clear HO215; clear HO218; clear BK198; clear HB; have HO183 := n0_; have HO187 := n1_; have HO190 := n2_; have HO193 := n3_; have HO196 := n4_; have HO201 := n5_; have HO205 := n6_; have HO208 := n7_; have HO211 := n8_; have HO215 := n9_; have HO218 := n10_; have HO221 := n11_; have BK198 := n12_; have HB := n13_; clear n0_ n1_ n2_ n3_ n4_ n5_ n6_ n7_ n8_ n9_ n10_ n11_ n12_ n13_; (try clear hb); (try clear hb2); (try clear hk); (try clear hi); (try clear ho0); have hcz52_0 : w51.cell? ⟨gb198, 0, none⟩ = some (.slice Ao36 t191.length co36) := (blk_cell BK198.out 0).trans rfl; have hcz52_1 : w51.cell? ⟨gb198, 1, none⟩ = some (.slice Ao38 t194.length co38) := (blk_cell BK198.out 1).trans rfl; have hfz52_0 := blk_frozen BK198.out 0; have hfz52_1 := blk_frozen BK198.out 1) | (go_at_call 22; (with_reducible refine (disk_Right.calls k _ _ t191 _ _ t194 true _ ?side1 ?side2 ?side3 ?side4 A15.out).mono ?_); (case side1 => repeat (first | exact (Kd.V_reads' HO193.out).2.2 | (with_reducible refine Kd.C_alloc ?_ _) | (with_reducible refine Kd.C_drewN ?_ _) | (with_reducible refine Kd.C_drew ?_))); (case side2 => exact (Kd.V_reads' HO193.out).2.1); (case side3 => repeat (first | exact (Kd.V_reads' HO196.out).2.2 | (with_reducible refine Kd.C_alloc ?_ _) | (with_reducible refine Kd.C_drewN ?_ _) | (with_reducible refine Kd.C_drew ?_))); (case side4 => exact (Kd.V_reads' HO196.out).2.1); rintro e w53 ⟨rfl, hb⟩; have n0_ := Aside0.mk (Kd.R_below (by (with_reducible repeat (first | apply Kd.R_alloc | apply Kd.R_drewN | apply Kd.R_drew)); exact HO183.out) hb); have n1_ := Aside0.mk (Kd.N_below (by (with_reducible repeat (first | apply Kd.N_alloc | apply Kd.N_drewN | apply Kd.N_drew)); exact HO187.out) hb); have n2_ := Aside0.mk (Kd.N_below (by (with_reducible repeat (first | apply Kd.N_alloc | apply Kd.N_drewN | apply Kd.N_drew)); exact HO190.out) hb); have n3_ := Aside0.mk (Kd.V_below (by (with_reducible repeat (first | apply Kd.V_alloc | apply Kd.V_drewN | apply Kd.V_drew)); exact HO193.out) hb); have n4_ := Aside0.mk (Kd.V_below (by (with_reducible repeat (first | apply Kd.V_alloc | apply Kd.V_drewN | apply Kd.V_drew)); exact HO196.out) hb); have n5_ := Aside0.mk (Kd.R_below (by (with_reducible repeat (first | apply Kd.R_alloc | apply Kd.R_drewN | apply Kd.R_drew)); exact HO201.out) hb); have n6_ := Aside0.mk (Kd.N_below (by (with_reducible repeat (first | apply Kd.N_alloc | apply Kd.N_drewN | apply Kd.N_drew)); exact HO205.out) hb); have n7_ := Aside0.mk (Kd.N_below (by (with_reducible repeat (first | apply Kd.N_alloc | apply Kd.N_drewN | apply Kd.N_drew)); exact HO208.out) hb); have n8_ := Aside0.mk (Kd.R_below (by (with_reducible repeat (first | apply Kd.R_alloc | apply Kd.R_drewN | apply Kd.R_drew)); exact HO211.out) hb); have n9_ := Aside0.mk (Kd.N_below (by (with_reducible repeat (first | apply Kd.N_alloc | apply Kd.N_drewN | apply Kd.N_drew)); exact HO215.out) hb); have n10_ := Aside0.mk (Kd.N_below (by (with_reducible repeat (first | apply Kd.N_alloc | apply Kd.N_drewN | apply Kd.N_drew)); exact HO218.out) hb); have n11_ := Aside0.mk (Kd.R_below (by (with_reducible repeat (first | apply Kd.R_alloc | apply Kd.R_drewN | apply Kd.R_drew)); exact HO221.out) hb); have n12_ := Aside0.mk (blk_below (g := gb198) (o := .cells #[.slice Ao36 t191.length co36, .slice Ao38 t194.length co38] 25 (0, 0)) (by (with_reducible repeat (first | refine qN ?_ _ | refine qD ?_ | refine qA ?_ _)); exact BK198.out) hb); have n13_ := Aside0.mk (below_step (by repeat (first | (with_reducible first | exact HB.out | apply pA | apply pN | apply pD | refine pS ?_ GE198.out) | exact HB.out)) hb); clear HO183; clear HO187; clear HO190; clear HO193; clear HO196; clear HO201; clear HO205; clear HO208; clear HO211; clear HO215; clear HO218; clear HO221; clear BK198; clear HB; have HO183 := n0_; have HO187 := n1_; have HO190 := n2_; have HO193 := n3_; have HO196 := n4_; have HO201 := n5_; have HO205 := n6_; have HO208 := n7_; have HO211 := n8_; have HO215 := n9_; have HO218 := n10_; have HO221 := n11_; have BK198 := n12_; have HB := n13_; clear n0_ n1_ n2_ n3_ n4_ n5_ n6_ n7_ n8_ n9_ n10_ n11_ n12_ n13_; (try clear hb); (try clear hb2); (try clear hk); (try clear hi); have hcz54_0 : w53.cell? ⟨gb198, 0, none⟩ = some (.slice Ao36 t191.length co36) := (blk_cell BK198.out 0).trans rfl; have hcz54_1 : w53.cell? ⟨gb198, 1, none⟩ = some (.slice Ao38 t194.length co38) := (blk_cell BK198.out 1).trans rfl; have hfz54_0 := blk_frozen BK198.out 0; have hfz54_1 := blk_frozen BK198.out 1) | (go_at_call 24; (with_reducible refine (disk_Same.calls k _ _ t191 _ _ t194 _ _ t191 _ _ t194 true _ ?side1 ?side2 ?side3 ?side4 ?side5 ?side6 ?side7 ?side8 A17.out).mono ?_); (case side1 => repeat (first | exact (Kd.V_reads' HO193.out).2.2 | (with_reducible refine Kd.C_alloc ?_ _) | (with_reducible refine Kd.C_drewN ?_ _) | (with_reducible refine Kd.C_drew ?_))); (case side2 => exact (Kd.V_reads' HO193.out).2.1); (case side3 => repeat (first | exact (Kd.V_reads' HO196.out).2.2 | (with_reducible refine Kd.C_alloc ?_ _) | (with_reducible refine Kd.C_drewN ?_ _) | (with_reducible refine Kd.C_drew ?_))); (case side4 => exact (Kd.V_reads' HO196.out).2.1); (case side5 => repeat (first | exact (Kd.V_reads' HO193.out).2.2 | (with_reducible refine Kd.C_alloc ?_ _) | (with_reducible refine Kd.C_drewN ?_ _) | (with_reducible refine Kd.C_drew ?_))); (case side6 => exact (Kd.V_reads' HO193.out).2.1); (case side7 => repeat (first | exact (Kd.V_reads' HO196.out).2.2 | (with_reducible refine Kd.C_alloc ?_ _) | (with_reducible refine Kd.C_drewN ?_ _) | (with_reducible refine Kd.C_drew ?_))); (case side8 => exact (Kd.V_reads' HO196.out).2.1); rintro e w55 ⟨rfl, hb⟩; have n0_ := Aside0.mk (Kd.R_below (by (with_reducible repeat (first | apply Kd.R_alloc | apply Kd.R_drewN | apply Kd.R_drew)); exact HO183.out) hb); have n1_ := Aside0.mk (Kd.N_below (by (with_reducible repeat (first | apply Kd.N_alloc | apply Kd.N_drewN | apply Kd.N_drew)); exact HO187.out) hb); have n2_ := Aside0.mk (Kd.N_below (by (with_reducible repeat (first | apply Kd.N_alloc | apply Kd.N_drewN | apply Kd.N_drew)); exact HO190.out) hb); have n3_ := Aside0.mk (Kd.V_below (by (with_reducible repeat (first | apply Kd.V_alloc | apply Kd.V_drewN | apply Kd.V_drew)); exact HO193.out) hb); have n4_ := Aside0.mk (Kd.V_below (by (with_reducible repeat (first | apply Kd.V_alloc | apply Kd.V_drewN | apply Kd.V_drew)); exact HO196.out) hb); have n5_ := Aside0.mk (Kd.R_below (by (with_reducible repeat (first | apply Kd.R_alloc | apply Kd.R_drewN | apply Kd.R_drew)); exact HO201.out) hb); have n6_ := Aside0.mk (Kd.N_below (by (with_reducible repeat (first | apply Kd.N_alloc | apply Kd.N_drewN | apply Kd.N_drew)); exact HO205.out) hb); have n7_ := Aside0.mk (Kd.N_below (by (with_reducible repeat (first | apply Kd.N_alloc | apply Kd.N_drewN | apply Kd.N_drew)); exact HO208.out) hb); have n8_ := Aside0.mk (Kd.R_below (by (with_reducible repeat (first | apply Kd.R_alloc | apply Kd.R_drewN | apply Kd.R_drew)); exact HO211.out) hb); have n9_ := Aside0.mk (Kd.N_below (by (with_reducible repeat (first | apply Kd.N_alloc | apply Kd.N_drewN | apply Kd.N_drew)); exact HO215.out) hb); have n10_ := Aside0.mk (Kd.N_below (by (with_reducible repeat (first | apply Kd.N_alloc | apply Kd.N_drewN | apply Kd.N_drew)); exact HO218.out) hb); have n11_ := Aside0.mk (Kd.R_below (by (with_reducible repeat (first | apply Kd.R_alloc | apply Kd.R_drewN | apply Kd.R_drew)); exact HO221.out) hb); have n12_ := Aside0.mk (blk_below (g := gb198) (o := .cells #[.slice Ao36 t191.length co36, .slice Ao38 t194.length co38] 25 (0, 0)) (by (with_reducible repeat (first | refine qN ?_ _ | refine qD ?_ | refine qA ?_ _)); exact BK198.out) hb); have n13_ := Aside0.mk (below_step (by repeat (first | (with_reducible first | exact HB.out | apply pA | apply pN | apply pD | refine pS ?_ GE198.out) | exact HB.out)) hb); clear HO183; clear HO187; clear HO190; clear HO193; clear HO196; clear HO201; clear HO205; clear HO208; clear HO211; clear HO215; clear HO218; clear HO221; clear BK198; clear HB; have HO183 := n0_; have HO187 := n1_; have HO190 := n2_; have HO193 := n3_; have HO196 := n4_; have HO201 := n5_; have HO205 := n6_; have HO208 := n7_; have HO211 := n8_; have HO215 := n9_; have HO218 := n10_; have HO221 := n11_; have BK198 := n12_; have HB := n13_; clear n0_ n1_ n2_ n3_ n4_ n5_ n6_ n7_ n8_ n9_ n10_ n11_ n12_ n13_; (try clear hb); (try clear hb2); (try clear hk); (try clear hi); obtain ⟨Ao56, co56, eo56⟩ := Kd.R_slice HO201.out; subst eo56; obtain ⟨Ao57, co57, eo57⟩ := Kd.R_slice HO211.out; subst eo57; obtain ⟨Ao58, co58, eo58⟩ := Kd.R_slice HO221.out; subst eo58; have p225 : 0 ≤ (0 : Int) := (by omega); have q225 : 0 < (t199.length : Int) := of_decide_eq_true (by first | (with_reducible assumption) | assumption); obtain ⟨ad225, e225, hx225_0⟩ := Kd.at_int (Kd.R_reads' HO201.out).2.2 0 p225 q225; cases e225; have qi225 : (0 < t199.length) = True := eq_true (by omega); (try rw [show ((0 : Int)).toNat = 0 from rfl] at hx225_0); (try rw [Addr.add_zero'] at hx225_0); replace p225 := eq_true p225; replace q225 := eq_true q225; have p226 : 0 ≤ (0 : Int) := (by omega); have q226 : 0 < (t209.length : Int) := of_decide_eq_true (by first | (with_reducible assumption) | assumption); obtain ⟨ad226, e226, hx226_0⟩ := Kd.at_int (Kd.R_reads' HO211.out).2.2 0 p226 q226; cases e226; have qi226 : (0 < t209.length) = True := eq_true (by omega); (try rw [show ((0 : Int)).toNat = 0 from rfl] at hx226_0); (try rw [Addr.add_zero'] at hx226_0); replace p226 := eq_true p226; replace q226 := eq_true q226; have p227 : 0 ≤ (0 : Int) := (by omega); have q227 : 0 < (t219.length : Int) := of_decide_eq_true (by first | (with_reducible assumption) | assumption); obtain ⟨ad227, e227, hx227_0⟩ := Kd.at_int (Kd.R_reads' HO221.out).2.2 0 p227 q227; cases e227; have qi227 : (0 < t219.length) = True := eq_true (by omega); (try rw [show ((0 : Int)).toNat = 0 from rfl] at hx227_0); (try rw [Addr.add_zero'] at hx227_0); replace p227 := eq_true p227; replace q227 := eq_true q227))
                                  go_ret
                                  exact ⟨by first | rfl | (simp [errW_none, errW_some] <;> rfl) | (simp [*, errW_none, errW_some] <;> rfl), by repeat (first | (with_reducible first | exact HB.out | apply pA | apply pN | apply pD | refine pS ?_ GE198.out) | exact HB.out)⟩
                                · rw [if_neg c26] at H
                                  exact absurd H (by simp)
                              · rw [if_neg c25] at H
                                have c25b0 : ((rd t209 0) == 0) = false := beq_eq_false_iff_ne.mpr c25
                                have c25b1 : ((rd t209 0) != 0) = true := bne_iff_ne.mpr c25
                                exact absurd ((Option.some.inj H).trans hlaw_.out) (by decide)
                            · rw [if_neg c24] at H
                              exact absurd H (by simp)
                          · rw [if_neg c23] at H
                            have c23b0 : ((rd t199 0) == 7) = false := beq_eq_false_iff_ne.mpr c23
                            have c23b1 : ((rd t199 0) != 7) = true := bne_iff_ne.mpr c23
                            exact absurd ((Option.some.inj H).trans hlaw_.out) (by decide)
                        · rw [if_neg c22] at H
                          exact absurd H (by simp)
                      · rw [if_neg c21] at H
                        have c21b0 : ((t219.length : Int) == 128) = false := beq_eq_false_iff_ne.mpr c21
                        have c21b1 : ((t219.length : Int) != 128) = true := bne_iff_ne.mpr c21
                        exact absurd ((Option.some.inj H).trans hlaw_.out) (by decide)
                    · rw [if_neg c20] at H
                      have c20b0 : ((t209.length : Int) == 128) = false := beq_eq_false_iff_ne.mpr c20
                      have c20b1 : ((t209.length : Int) != 128) = true := bne_iff_ne.mpr c20
                      exact absurd ((Option.some.inj H).trans hlaw_.out) (by decide)
                  · rw [if_neg c19] at H
                    have c19b0 : ((t199.length : Int) == 128) = false := beq_eq_false_iff_ne.mpr c19
                    have c19b1 : ((t199.length : Int) != 128) = true := bne_iff_ne.mpr c19
                    exact absurd ((Option.some.inj H).trans hlaw_.out) (by decide)
                · replace c18 := Bool.eq_false_iff.mpr c18
                  subst c18
                  have H1 : (some false) = some r := by rw [if_neg (show ¬ (false = true) by decide)] at H; exact H
                  clear H
                  have H := H1
                  clear H1
                  exact absurd ((Option.some.inj H).trans hlaw_.out) (by decide)
              · replace c16 := Bool.eq_false_iff.mpr c16
                subst c16
                have H1 : (some false) = some r := by rw [if_neg (show ¬ (false = true) by decide)] at H; exact H
                clear H
                have H := H1
                clear H1
                exact absurd ((Option.some.inj H).trans hlaw_.out) (by decide)
            · rw [if_neg c14] at H
              have c14b0 : (t222 == 0) = false := beq_eq_false_iff_ne.mpr c14
              have c14b1 : (t222 != 0) = true := bne_iff_ne.mpr c14
              exact absurd ((Option.some.inj H).trans hlaw_.out) (by decide)
          · rw [if_neg c13] at H
            have c13b0 : (t212 == 0) = false := beq_eq_false_iff_ne.mpr c13
            have c13b1 : (t212 != 0) = true := bne_iff_ne.mpr c13
            exact absurd ((Option.some.inj H).trans hlaw_.out) (by decide)
        · rw [if_neg c12] at H
          have c12b0 : (t202 == 0) = false := beq_eq_false_iff_ne.mpr c12
          have c12b1 : (t202 != 0) = true := bne_iff_ne.mpr c12
          exact absurd ((Option.some.inj H).trans hlaw_.out) (by decide)
      · rw [if_neg c11] at H
        have c11b0 : (t197 == 0) = false := beq_eq_false_iff_ne.mpr c11
        have c11b1 : (t197 != 0) = true := bne_iff_ne.mpr c11
        exact absurd ((Option.some.inj H).trans hlaw_.out) (by decide)
    · rw [if_neg c2] at H
      exact absurd H (by simp)
  · rw [if_neg c1] at H
    exact absurd H (by simp)

def portreevelaw03_shown.f (k : Nat) : Option Bool := (portreevelaw03_shown_g.f k).bind fun b => if b = true then some true else none
theorem portreevelaw03_shown.mono : ∀ k, LeO (portreevelaw03_shown.f k) (portreevelaw03_shown.f (k + 1)) := fun k => LeO.bind (portreevelaw03_shown_g.mono k) (fun _ => LeO.refl _)
theorem portreevelaw03_shown.calls (k : Nat)  (r : Bool) (w : World) (h : portreevelaw03_shown.f k  = some r) :
    Calls Try.prog 9 #[] w fun e w' => e = .returned (.bool r) ∧ Below w.heap.size w w' := by
  unfold portreevelaw03_shown.f at h
  obtain ⟨b, hb, hc⟩ := Option.bind_eq_some_iff.1 h
  cases b with
  | false => exact absurd hc (by simp)
  | true =>
    rw [if_pos rfl] at hc
    obtain rfl := Option.some.inj hc
    exact portreevelaw03_shown_g.calls k true w (Aside0.mk rfl) hb

/-! ### portreeveref03_Small: function 10 -/
mutual
def portreeveref03_Small.j0 : Nat → Bool → List (List Int) → List (S47) → Option (Bool)
  | 0, _, _, _ => none
  | k + 1, x14, x229000, x229001 => if x14 = true then (some false) else (portreeveref03_Small.l0 k 0 x229000 x229001)
def portreeveref03_Small.l0 : Nat → Int → List (List Int) → List (S47) → Option (Bool)
  | 0, _, _, _ => none
  | k + 1, x3, x229000, x229001 => if x3 < (x229000.length : Int) then (if 0 ≤ x3 then (if ((rd_L2 x229000 x3).length : Int) > 200 then (some false) else (portreeveref03_Small.l0 k (wrap64 (x3 + 1)) x229000 x229001)) else (none)) else (portreeveref03_Small.l1 k 0 x229000 x229001)
def portreeveref03_Small.l1 : Nat → Int → List (List Int) → List (S47) → Option (Bool)
  | 0, _, _, _ => none
  | k + 1, x4, x229000, x229001 => if x4 < (x229001.length : Int) then (if 0 ≤ x4 then (if (((rd_T47 x229001 x4).f1).length : Int) > 200 then (some false) else (portreeveref03_Small.l1 k (wrap64 (x4 + 1)) x229000 x229001)) else (none)) else (some true)
end
def portreeveref03_Small.f (k : Nat) (l0_0 : List (List Int)) (l0_1 : List (S47)) : Option (Bool) := if (l0_0.length : Int) > 70 then (portreeveref03_Small.j0 k true l0_0 l0_1) else (portreeveref03_Small.j0 k (decide ((l0_1.length : Int) > 70)) l0_0 l0_1)
theorem portreeveref03_Small.mono_l : ∀ k, (∀ y0 y1 y2, LeO (portreeveref03_Small.j0 k y0 y1 y2) (portreeveref03_Small.j0 (k + 1) y0 y1 y2)) ∧ (∀ y0 y1 y2, LeO (portreeveref03_Small.l0 k y0 y1 y2) (portreeveref03_Small.l0 (k + 1) y0 y1 y2)) ∧ (∀ y0 y1 y2, LeO (portreeveref03_Small.l1 k y0 y1 y2) (portreeveref03_Small.l1 (k + 1) y0 y1 y2))
  | 0 => ⟨fun _ _ _ r h => by simp [portreeveref03_Small.j0] at h, fun _ _ _ r h => by simp [portreeveref03_Small.l0] at h, fun _ _ _ r h => by simp [portreeveref03_Small.l1] at h⟩
  | k + 1 => by
    obtain ⟨ih0, ih1, ih2⟩ := portreeveref03_Small.mono_l k
    refine ⟨?_, ?_, ?_⟩
    · intro y0 y1 y2
      unfold portreeveref03_Small.j0
      repeat' first
      | (with_reducible exact ih0 _ _ _)
      | (with_reducible exact ih1 _ _ _)
      | (with_reducible exact ih2 _ _ _)
      | (with_reducible exact LeO.refl _)
      | (with_reducible exact LeO.none _)
      | (with_reducible refine LeO.ite ?_ ?_)
      | (with_reducible refine LeO.bind ?_ (fun _ => ?_))
      | exact ih0 _ _ _
      | exact ih1 _ _ _
      | exact ih2 _ _ _
      | exact LeO.none _
      | refine LeO.ite ?_ ?_
      | refine LeO.bind ?_ (fun _ => ?_)
    · intro y0 y1 y2
      unfold portreeveref03_Small.l0
      repeat' first
      | (with_reducible exact ih0 _ _ _)
      | (with_reducible exact ih1 _ _ _)
      | (with_reducible exact ih2 _ _ _)
      | (with_reducible exact LeO.refl _)
      | (with_reducible exact LeO.none _)
      | (with_reducible refine LeO.ite ?_ ?_)
      | (with_reducible refine LeO.bind ?_ (fun _ => ?_))
      | exact ih0 _ _ _
      | exact ih1 _ _ _
      | exact ih2 _ _ _
      | exact LeO.none _
      | refine LeO.ite ?_ ?_
      | refine LeO.bind ?_ (fun _ => ?_)
    · intro y0 y1 y2
      unfold portreeveref03_Small.l1
      repeat' first
      | (with_reducible exact ih0 _ _ _)
      | (with_reducible exact ih1 _ _ _)
      | (with_reducible exact ih2 _ _ _)
      | (with_reducible exact LeO.refl _)
      | (with_reducible exact LeO.none _)
      | (with_reducible refine LeO.ite ?_ ?_)
      | (with_reducible refine LeO.bind ?_ (fun _ => ?_))
      | exact ih0 _ _ _
      | exact ih1 _ _ _
      | exact ih2 _ _ _
      | exact LeO.none _
      | refine LeO.ite ?_ ?_
      | refine LeO.bind ?_ (fun _ => ?_)
theorem portreeveref03_Small.mono : ∀ a0 a1 k, LeO (portreeveref03_Small.f k a0 a1) (portreeveref03_Small.f (k + 1) a0 a1) := by
  intro a0 a1 k
  obtain ⟨ih0, ih1, ih2⟩ := portreeveref03_Small.mono_l k
  unfold portreeveref03_Small.f
  repeat' first
      | (with_reducible exact ih0 _ _ _)
      | (with_reducible exact ih1 _ _ _)
      | (with_reducible exact ih2 _ _ _)
      | (with_reducible exact LeO.refl _)
      | (with_reducible exact LeO.none _)
      | (with_reducible refine LeO.ite ?_ ?_)
      | (with_reducible refine LeO.bind ?_ (fun _ => ?_))
      | exact ih0 _ _ _
      | exact ih1 _ _ _
      | exact ih2 _ _ _
      | exact LeO.none _
      | refine LeO.ite ?_ ?_
      | refine LeO.bind ?_ (fun _ => ?_)
set_option maxHeartbeats 8000000 in
set_option maxRecDepth 100000 in
theorem portreeveref03_Small.calls (k : Nat) (A0_0 : Option Addr) (c0_0 : Nat) (l0_0 : List (List Int)) (A0_1 : Option Addr) (c0_1 : Nat) (l0_1 : List (S47)) (r : Bool) (w : World) (hr0_0 : Kd.C (Kd.slice 5 (Kd.int .u8)) w A0_0 l0_0.length l0_0) (hc0_0 : l0_0.length ≤ c0_0) (hr0_1 : Kd.C k47 w A0_1 l0_1.length l0_1) (hc0_1 : l0_1.length ≤ c0_1) (h : portreeveref03_Small.f k l0_0 l0_1 = some r) :
    Calls Try.prog 10 #[.agg #[.slice A0_0 l0_0.length c0_0, .slice A0_1 l0_1.length c0_1]] w fun e w' => e = .returned (.bool r) ∧ Below w.heap.size w w' := by
  have hu25 := Try.underlying25
  have hu47 := Try.underlying47
  have HR0_0 := Aside0.mk hr0_0
  have HC0_0 := Aside0.mk hc0_0
  clear hr0_0 hc0_0
  have HR0_1 := Aside0.mk hr0_1
  have HC0_1 := Aside0.mk hc0_1
  clear hr0_1 hc0_1
  have HB := Aside0.mk (Below.refl w.heap.size w)
  have H : (if (l0_0.length : Int) > 70 then (portreeveref03_Small.j0 k true l0_0 l0_1) else (portreeveref03_Small.j0 k (decide ((l0_1.length : Int) > 70)) l0_0 l0_1)) = some r := h
  clear h
  have HC2 := Aside0.mk H
  clear H
  go_enter Try.func10, Try.ntmps10
  go_upto_region 1 with (first | ((with_reducible refine gate_dst (N := 1) rfl ?_); (try (refine gate_guard (by rfl) ?_; dsimp only)); refine box_event ?hg (N := 1) ?hd (cs := #[.slice A0_0 l0_0.length c0_0, .slice A0_1 l0_1.length c0_1]) (t := 25) ?hr ?_; (case hd => rfl); (case hg => rfl); (case hr => first | (go_simp; done) | (go_simp; rfl)); intro gb228 hg w3 hbox hb; have n0_ := Aside0.mk (below_step (by repeat (first | (with_reducible first | exact HB.out | apply pA | apply pN | apply pD) | exact HB.out)) hb); have n1_ := Aside0.mk (hbox); have n2_ := Aside0.mk ((by rw [hg]; exact (below_size (by repeat (first | (with_reducible first | exact HB.out | apply pA | apply pN | apply pD) | exact HB.out))) : w.heap.size ≤ gb228)); have n3_ := Aside0.mk ((by rw [hg]; exact (below_size (by repeat (first | (with_reducible first | exact HB.out | apply pA | apply pN | apply pD) | exact HB.out))) : w.heap.size ≤ gb228)); clear HB; have HB := n0_; have BK228 := n1_; have GW228 := n2_; have GE228 := n3_; clear n0_ n1_ n2_ n3_; clear hb hbox hg))
  (try simp only [Act.put, List.setIfInBounds_toArray, List.set_cons_zero, List.set_cons_succ])
  go_cut [14] (fun v14 wc => ∃ (kq : Nat) (x14_1 : Bool), v14 = .bool x14_1 ∧ Aside0 (portreeveref03_Small.j0 kq x14_1 l0_0 l0_1 = some r) ∧ Aside0 (kq ≤ k) ∧ Aside0 (wc.heap[gb228]? = some (.cells #[(.slice A0_0 l0_0.length c0_0), (.slice A0_1 l0_1.length c0_1)] 25 (0, 0))) ∧ Aside0 (Below w.heap.size w wc))
  case first =>
    have H := HC2.out
    clear HC2
    by_cases c4 : (l0_0.length : Int) > 70
    · rw [if_pos c4] at H
      have c4b0 : decide (70 < (l0_0.length : Int)) = true := decide_eq_true c4
      have c4b1 : decide (70 < l0_0.length) = true := decide_eq_true (by omega)
      clear c4
      (first | rw [c4b0] | (simp only [i64_w, i32_w]; rw [c4b0]) | skip)
      have H' := Aside0.mk H
      clear H
      have hcz5_0 : w3.cell? ⟨gb228, 0, none⟩ = some (.slice A0_0 l0_0.length c0_0) := (blk_cell BK228.out 0).trans rfl
      have hcz5_1 : w3.cell? ⟨gb228, 1, none⟩ = some (.slice A0_1 l0_1.length c0_1) := (blk_cell BK228.out 1).trans rfl
      have hfz5_0 := blk_frozen BK228.out 0
      have hfz5_1 := blk_frozen BK228.out 1
      go_wp2
      go_meet
      case rel => exact ⟨_, (true), (by first | rfl | (simp; done) | (simp [*]; done)), H', ⟨by first | omega | exact Nat.le_refl _⟩, ⟨by (with_reducible repeat (first | refine qN ?_ _ | refine qD ?_ | refine qA ?_ _)); exact BK228.out⟩, ⟨by repeat (first | (with_reducible first | exact HB.out | apply pA | apply pN | apply pD | refine pS ?_ GE228.out) | exact HB.out)⟩⟩
    · rw [if_neg c4] at H
      have c4b0 : decide (70 < (l0_0.length : Int)) = false := decide_eq_false c4
      have c4b1 : decide (70 < l0_0.length) = false := decide_eq_false (by omega)
      clear c4
      (first | rw [c4b0] | (simp only [i64_w, i32_w]; rw [c4b0]) | skip)
      have H' := Aside0.mk H
      clear H
      have hcz6_0 : w3.cell? ⟨gb228, 0, none⟩ = some (.slice A0_0 l0_0.length c0_0) := (blk_cell BK228.out 0).trans rfl
      have hcz6_1 : w3.cell? ⟨gb228, 1, none⟩ = some (.slice A0_1 l0_1.length c0_1) := (blk_cell BK228.out 1).trans rfl
      have hfz6_0 := blk_frozen BK228.out 0
      have hfz6_1 := blk_frozen BK228.out 1
      go_wp2
      go_meet
      case rel => exact ⟨_, (decide ((l0_1.length : Int) > 70)), (by first | rfl | (simp; done) | (simp [*]; done)), H', ⟨by first | omega | exact Nat.le_refl _⟩, ⟨by (with_reducible repeat (first | refine qN ?_ _ | refine qD ?_ | refine qA ?_ _)); exact BK228.out⟩, ⟨by repeat (first | (with_reducible first | exact HB.out | apply pA | apply pN | apply pD | refine pS ?_ GE228.out) | exact HB.out)⟩⟩
  case rest =>
    clear HC2
    try clear c1
    try clear p2
    try clear c4
    try clear c4b0
    try clear c4b1
    try clear hcz5_0
    try clear hcz5_1
    try clear hcz6_0
    try clear hcz6_1
    try clear hfz5_0
    try clear hfz5_1
    try clear hfz6_0
    try clear hfz6_1
    obtain ⟨kq, x14_1, rfl, HA, HJ1, BK228, HB⟩ := hcut
    cases kq with
    | zero => exact absurd HA.out (by simp [portreeveref03_Small.j0])
    | succ kj1 =>
      have H := HA.out
      clear HA
      simp only [portreeveref03_Small.j0] at H
      by_cases c7 : x14_1 = true
      · subst c7
        have H1 : (some false) = some r := by rw [if_pos rfl] at H; exact H
        clear H
        have H := H1
        clear H1
        obtain rfl := Option.some.inj H
        go_wp2
        go_ret
        exact ⟨by first | rfl | (simp [errW_none, errW_some] <;> rfl) | (simp [*, errW_none, errW_some] <;> rfl), by repeat (first | (with_reducible first | exact HB.out | apply pA | apply pN | apply pD | refine pS ?_ GE228.out) | exact HB.out)⟩
      · replace c7 := Bool.eq_false_iff.mpr c7
        subst c7
        have H1 : (portreeveref03_Small.l0 kj1 0 l0_0 l0_1) = some r := by rw [if_neg (show ¬ (false = true) by decide)] at H; exact H
        clear H
        have H := H1
        clear H1
        have H' := Aside0.mk H
        clear H
        go_wp2
        go_loopg [3] kj1 (fun kq v3 w' => ∃ (x3_2 : Int), v3 = .int .i64 x3_2 ∧ Aside0 (portreeveref03_Small.l0 kq x3_2 l0_0 l0_1 = some r) ∧ Aside0 (kq ≤ kj1) ∧ Aside0 (w'.heap[gb228]? = some (.cells #[(.slice A0_0 l0_0.length c0_0), (.slice A0_1 l0_1.length c0_1)] 25 (0, 0))) ∧ Aside0 (Below w.heap.size w w'))
        case atStart => exact ⟨(0), (by first | rfl | (simp; done) | (simp [*]; done)), H', ⟨Nat.le_refl _⟩, ⟨by (with_reducible repeat (first | refine qN ?_ _ | refine qD ?_ | refine qA ?_ _)); exact BK228.out⟩, ⟨by repeat (first | (with_reducible first | exact HB.out | apply pA | apply pN | apply pD | refine pS ?_ GE228.out) | exact HB.out)⟩⟩
        case round =>
          clear H'
          try clear c1
          try clear p2
          try clear c4
          try clear c4b0
          try clear c4b1
          try clear c7
          try clear hcz5_0
          try clear hcz5_1
          try clear hcz6_0
          try clear hcz6_1
          try clear hfz5_0
          try clear hfz5_1
          try clear hfz6_0
          try clear hfz6_1
          try clear p2
          obtain ⟨x3_2, rfl, HA, HK2, BK228, HB⟩ := hrel
          cases gk with
          | zero => exact absurd HA.out (by simp [portreeveref03_Small.l0])
          | succ k2 =>
            have H := HA.out
            clear HA
            simp only [portreeveref03_Small.l0] at H
            by_cases c8 : x3_2 < (l0_0.length : Int)
            · rw [if_pos c8] at H
              have c8b0 : decide (x3_2 < (l0_0.length : Int)) = true := decide_eq_true c8
              clear c8
              by_cases c9 : 0 ≤ x3_2
              · rw [if_pos c9] at H
                have c9b0 : decide (0 ≤ x3_2) = true := decide_eq_true c9
                clear c9
                by_cases c10 : ((rd_L2 l0_0 x3_2).length : Int) > 200
                · rw [if_pos c10] at H
                  have c10b0 : decide (200 < ((rd_L2 l0_0 x3_2).length : Int)) = true := decide_eq_true c10
                  have c10b1 : decide (200 < (rd_L2 l0_0 x3_2).length) = true := decide_eq_true (by omega)
                  clear c10
                  obtain rfl := Option.some.inj H
                  have hcz11_0 : wr.cell? ⟨gb228, 0, none⟩ = some (.slice A0_0 l0_0.length c0_0) := (blk_cell BK228.out 0).trans rfl
                  have hcz11_1 : wr.cell? ⟨gb228, 1, none⟩ = some (.slice A0_1 l0_1.length c0_1) := (blk_cell BK228.out 1).trans rfl
                  have hfz11_0 := blk_frozen BK228.out 0
                  have hfz11_1 := blk_frozen BK228.out 1
                  have p229 : 0 ≤ (x3_2 : Int) := of_decide_eq_true (by first | (with_reducible assumption) | assumption)
                  have q229 : x3_2 < (l0_0.length : Int) := of_decide_eq_true (by first | (with_reducible assumption) | assumption)
                  obtain ⟨ad229, A229_0, c229_0, e229, hx229_0, hl229_0, hi229_0⟩ := at_L2 HR0_0.out x3_2 p229 q229
                  cases e229
                  replace hx229_0 := (HB.out.cell (World.block_lt_of_cell? w _ hx229_0)).trans hx229_0
                  have HR229_0 := Aside0.mk hi229_0
                  have HC229_0 := Aside0.mk hl229_0
                  clear hi229_0 hl229_0
                  replace p229 := eq_true p229
                  replace q229 := eq_true q229
                  go_wp2
                  go_ret
                  exact ⟨by first | rfl | (simp [errW_none, errW_some] <;> rfl) | (simp [*, errW_none, errW_some] <;> rfl), by repeat (first | (with_reducible first | exact HB.out | apply pA | apply pN | apply pD | refine pS ?_ GE228.out) | exact HB.out)⟩
                · rw [if_neg c10] at H
                  have c10b0 : decide (200 < ((rd_L2 l0_0 x3_2).length : Int)) = false := decide_eq_false c10
                  have c10b1 : decide (200 < (rd_L2 l0_0 x3_2).length) = false := decide_eq_false (by omega)
                  clear c10
                  have H' := Aside0.mk H
                  clear H
                  have hcz12_0 : wr.cell? ⟨gb228, 0, none⟩ = some (.slice A0_0 l0_0.length c0_0) := (blk_cell BK228.out 0).trans rfl
                  have hcz12_1 : wr.cell? ⟨gb228, 1, none⟩ = some (.slice A0_1 l0_1.length c0_1) := (blk_cell BK228.out 1).trans rfl
                  have hfz12_0 := blk_frozen BK228.out 0
                  have hfz12_1 := blk_frozen BK228.out 1
                  have p229 : 0 ≤ (x3_2 : Int) := of_decide_eq_true (by first | (with_reducible assumption) | assumption)
                  have q229 : x3_2 < (l0_0.length : Int) := of_decide_eq_true (by first | (with_reducible assumption) | assumption)
                  obtain ⟨ad229, A229_0, c229_0, e229, hx229_0, hl229_0, hi229_0⟩ := at_L2 HR0_0.out x3_2 p229 q229
                  cases e229
                  replace hx229_0 := (HB.out.cell (World.block_lt_of_cell? w _ hx229_0)).trans hx229_0
                  have HR229_0 := Aside0.mk hi229_0
                  have HC229_0 := Aside0.mk hl229_0
                  clear hi229_0 hl229_0
                  replace p229 := eq_true p229
                  replace q229 := eq_true q229
                  go_wp2
                  go_roundg k2
                  case measure => have := HJ1.out; have := HK2.out; omega
                  case rel => exact ⟨(wrap64 (x3_2 + 1)), (by first | rfl | (simp; done) | (simp [*]; done)), H', ⟨by have := HJ1.out; have := HK2.out; omega⟩, ⟨by (with_reducible repeat (first | refine qN ?_ _ | refine qD ?_ | refine qA ?_ _)); exact BK228.out⟩, ⟨by repeat (first | (with_reducible first | exact HB.out | apply pA | apply pN | apply pD | refine pS ?_ GE228.out) | exact HB.out)⟩⟩
              · rw [if_neg c9] at H
                exact absurd H (by simp)
            · rw [if_neg c8] at H
              have c8b0 : decide (x3_2 < (l0_0.length : Int)) = false := decide_eq_false c8
              clear c8
              have H' := Aside0.mk H
              clear H
              have hcz13_0 : wr.cell? ⟨gb228, 0, none⟩ = some (.slice A0_0 l0_0.length c0_0) := (blk_cell BK228.out 0).trans rfl
              have hcz13_1 : wr.cell? ⟨gb228, 1, none⟩ = some (.slice A0_1 l0_1.length c0_1) := (blk_cell BK228.out 1).trans rfl
              have hfz13_0 := blk_frozen BK228.out 0
              have hfz13_1 := blk_frozen BK228.out 1
              go_wp2
              go_loopg [4] k2 (fun kq v4 w' => ∃ (x4_3 : Int), v4 = .int .i64 x4_3 ∧ Aside0 (portreeveref03_Small.l1 kq x4_3 l0_0 l0_1 = some r) ∧ Aside0 (kq ≤ k2) ∧ Aside0 (w'.heap[gb228]? = some (.cells #[(.slice A0_0 l0_0.length c0_0), (.slice A0_1 l0_1.length c0_1)] 25 (0, 0))) ∧ Aside0 (Below w.heap.size w w'))
              case atStart => exact ⟨(0), (by first | rfl | (simp; done) | (simp [*]; done)), H', ⟨Nat.le_refl _⟩, ⟨by (with_reducible repeat (first | refine qN ?_ _ | refine qD ?_ | refine qA ?_ _)); exact BK228.out⟩, ⟨by repeat (first | (with_reducible first | exact HB.out | apply pA | apply pN | apply pD | refine pS ?_ GE228.out) | exact HB.out)⟩⟩
              case round =>
                clear H'
                try clear c1
                try clear c2
                try clear p2
                try clear q2
                try clear hx2
                try clear c4
                try clear c4b0
                try clear c4b1
                try clear p6
                try clear c7
                try clear c8
                try clear c8b0
                try clear c9
                try clear c9b0
                try clear c10
                try clear c10b0
                try clear c10b1
                try clear hcz11_0
                try clear hcz11_1
                try clear hcz12_0
                try clear hcz12_1
                try clear hcz13_0
                try clear hcz13_1
                try clear hcz5_0
                try clear hcz5_1
                try clear hcz6_0
                try clear hcz6_1
                try clear hfz11_0
                try clear hfz11_1
                try clear hfz12_0
                try clear hfz12_1
                try clear hfz13_0
                try clear hfz13_1
                try clear hfz5_0
                try clear hfz5_1
                try clear hfz6_0
                try clear hfz6_1
                try clear hx229_0
                try clear p2
                try clear p229
                try clear q229
                obtain ⟨x4_3, rfl, HA, HK3, BK228, HB⟩ := hrel
                cases gk with
                | zero => exact absurd HA.out (by simp [portreeveref03_Small.l1])
                | succ k3 =>
                  have H := HA.out
                  clear HA
                  simp only [portreeveref03_Small.l1] at H
                  by_cases c14 : x4_3 < (l0_1.length : Int)
                  · rw [if_pos c14] at H
                    have c14b0 : decide (x4_3 < (l0_1.length : Int)) = true := decide_eq_true c14
                    clear c14
                    by_cases c15 : 0 ≤ x4_3
                    · rw [if_pos c15] at H
                      have c15b0 : decide (0 ≤ x4_3) = true := decide_eq_true c15
                      clear c15
                      by_cases c16 : (((rd_T47 l0_1 x4_3).f1).length : Int) > 200
                      · rw [if_pos c16] at H
                        have c16b0 : decide (200 < (((rd_T47 l0_1 x4_3).f1).length : Int)) = true := decide_eq_true c16
                        have c16b1 : decide (200 < ((rd_T47 l0_1 x4_3).f1).length) = true := decide_eq_true (by omega)
                        clear c16
                        obtain rfl := Option.some.inj H
                        have hcz17_0 : wr.cell? ⟨gb228, 0, none⟩ = some (.slice A0_0 l0_0.length c0_0) := (blk_cell BK228.out 0).trans rfl
                        have hcz17_1 : wr.cell? ⟨gb228, 1, none⟩ = some (.slice A0_1 l0_1.length c0_1) := (blk_cell BK228.out 1).trans rfl
                        have hfz17_0 := blk_frozen BK228.out 0
                        have hfz17_1 := blk_frozen BK228.out 1
                        have p230 : 0 ≤ (x4_3 : Int) := of_decide_eq_true (by first | (with_reducible assumption) | assumption)
                        have q230 : x4_3 < (l0_1.length : Int) := of_decide_eq_true (by first | (with_reducible assumption) | assumption)
                        obtain ⟨ad230, A230_1, c230_1, e230, hx230_0, hx230_1, hl230_1, hi230_1⟩ := at_T47 HR0_1.out x4_3 p230 q230
                        cases e230
                        replace hx230_0 := (HB.out.cell (World.block_lt_of_cell? w _ hx230_0)).trans hx230_0
                        replace hx230_1 := (HB.out.cell (World.block_lt_of_cell? w _ hx230_1)).trans hx230_1
                        have HR230_1 := Aside0.mk hi230_1
                        have HC230_1 := Aside0.mk hl230_1
                        clear hi230_1 hl230_1
                        replace p230 := eq_true p230
                        replace q230 := eq_true q230
                        go_wp2
                        go_ret
                        exact ⟨by first | rfl | (simp [errW_none, errW_some] <;> rfl) | (simp [*, errW_none, errW_some] <;> rfl), by repeat (first | (with_reducible first | exact HB.out | apply pA | apply pN | apply pD | refine pS ?_ GE228.out) | exact HB.out)⟩
                      · rw [if_neg c16] at H
                        have c16b0 : decide (200 < (((rd_T47 l0_1 x4_3).f1).length : Int)) = false := decide_eq_false c16
                        have c16b1 : decide (200 < ((rd_T47 l0_1 x4_3).f1).length) = false := decide_eq_false (by omega)
                        clear c16
                        have H' := Aside0.mk H
                        clear H
                        have hcz18_0 : wr.cell? ⟨gb228, 0, none⟩ = some (.slice A0_0 l0_0.length c0_0) := (blk_cell BK228.out 0).trans rfl
                        have hcz18_1 : wr.cell? ⟨gb228, 1, none⟩ = some (.slice A0_1 l0_1.length c0_1) := (blk_cell BK228.out 1).trans rfl
                        have hfz18_0 := blk_frozen BK228.out 0
                        have hfz18_1 := blk_frozen BK228.out 1
                        have p230 : 0 ≤ (x4_3 : Int) := of_decide_eq_true (by first | (with_reducible assumption) | assumption)
                        have q230 : x4_3 < (l0_1.length : Int) := of_decide_eq_true (by first | (with_reducible assumption) | assumption)
                        obtain ⟨ad230, A230_1, c230_1, e230, hx230_0, hx230_1, hl230_1, hi230_1⟩ := at_T47 HR0_1.out x4_3 p230 q230
                        cases e230
                        replace hx230_0 := (HB.out.cell (World.block_lt_of_cell? w _ hx230_0)).trans hx230_0
                        replace hx230_1 := (HB.out.cell (World.block_lt_of_cell? w _ hx230_1)).trans hx230_1
                        have HR230_1 := Aside0.mk hi230_1
                        have HC230_1 := Aside0.mk hl230_1
                        clear hi230_1 hl230_1
                        replace p230 := eq_true p230
                        replace q230 := eq_true q230
                        go_wp2
                        go_roundg k3
                        case measure => have := HJ1.out; have := HK2.out; have := HK3.out; omega
                        case rel => exact ⟨(wrap64 (x4_3 + 1)), (by first | rfl | (simp; done) | (simp [*]; done)), H', ⟨by have := HJ1.out; have := HK2.out; have := HK3.out; omega⟩, ⟨by (with_reducible repeat (first | refine qN ?_ _ | refine qD ?_ | refine qA ?_ _)); exact BK228.out⟩, ⟨by repeat (first | (with_reducible first | exact HB.out | apply pA | apply pN | apply pD | refine pS ?_ GE228.out) | exact HB.out)⟩⟩
                    · rw [if_neg c15] at H
                      exact absurd H (by simp)
                  · rw [if_neg c14] at H
                    have c14b0 : decide (x4_3 < (l0_1.length : Int)) = false := decide_eq_false c14
                    clear c14
                    obtain rfl := Option.some.inj H
                    have hcz19_0 : wr.cell? ⟨gb228, 0, none⟩ = some (.slice A0_0 l0_0.length c0_0) := (blk_cell BK228.out 0).trans rfl
                    have hcz19_1 : wr.cell? ⟨gb228, 1, none⟩ = some (.slice A0_1 l0_1.length c0_1) := (blk_cell BK228.out 1).trans rfl
                    have hfz19_0 := blk_frozen BK228.out 0
                    have hfz19_1 := blk_frozen BK228.out 1
                    go_wp2
                    go_ret
                    exact ⟨by first | rfl | (simp [errW_none, errW_some] <;> rfl) | (simp [*, errW_none, errW_some] <;> rfl), by repeat (first | (with_reducible first | exact HB.out | apply pA | apply pN | apply pD | refine pS ?_ GE228.out) | exact HB.out)⟩

end Go.Proofs.Ytnhfhepakimncaa.Q
