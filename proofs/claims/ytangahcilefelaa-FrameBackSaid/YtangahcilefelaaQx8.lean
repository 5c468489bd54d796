-- written by this session's own program (wip/tools/myprint.py), over the kit's print
import Derived.Test.YtangahcilefelaaQx0
import Derived.Test.YtangahcilefelaaQx7
namespace Go.Proofs.Ytangahcilefelaa.Q
open Go.RowKit Go.Proofs.YtangahcilefelaaW.PrintWords Go.Proofs.YtangahcilefelaaW.PrintLast Go.Proofs.YtangahcilefelaaW.PrintMore
open Go.Proofs.YtangahcilefelaaV
attribute [local go_sem] max2_int min2_int max_two min_two max_three min_three max_four min_four   -- for this text's walks alone
set_option linter.unusedVariables false
set_option linter.unusedSimpArgs false

/-! fcs.Cut: bytes without their check sequence, in memory of their own. -/
def fcs_Cut.f (k : Nat) (l0 : List Int) : Option (List Int × Int) := if l0.length < 2 then some ([], 2) else (fcs_Good.f k l0).bind fun g => if g = true then (if l0.length < 140737488355328 then some (l0.take (l0.length - 2), 0) else none) else some ([], 3)
theorem fcs_Cut.mono : ∀ a0 k, LeO (fcs_Cut.f k a0) (fcs_Cut.f (k + 1) a0) := by
  intro a0 k
  unfold fcs_Cut.f
  exact LeO.ite (LeO.refl _) (LeO.bind (fcs_Good.mono _ _) (fun _ => LeO.refl _))
theorem fcs_Cut.list (l : List Int) (h : 2 ≤ l.length) : l.take (min l.length (List.replicate ((l.length : Int) - 2).toNat (0 : Int)).length) ++ (List.replicate ((l.length : Int) - 2).toNat (0 : Int)).drop (min l.length (List.replicate ((l.length : Int) - 2).toNat (0 : Int)).length) = l.take (l.length - 2) := by
  rw [List.length_replicate, show ((l.length : Int) - 2).toNat = l.length - 2 by omega, Nat.min_eq_right (by omega), List.drop_eq_nil_of_le (by rw [List.length_replicate]; omega), List.append_nil]
set_option maxHeartbeats 2000000 in
set_option maxRecDepth 100000 in
theorem fcs_Cut.calls (k : Nat) (A0 : Option Addr) (c0 : Nat) (l0 : List Int) (r1 : List Int) (r2 : Int) (w : World) (hr0 : Kd.C (Kd.int .u8) w A0 l0.length l0) (hc0 : l0.length ≤ c0) (h : fcs_Cut.f k l0 = some (r1, r2)) :
    Calls Try.prog 25 #[.slice A0 l0.length c0] w fun e w' => ∃ v0_ : Value, e = .returned (.tuple #[v0_, .int .i64 r2]) ∧ Kd.R (Kd.int .u8) 5 w' w.heap.size (fun _ => True) v0_ r1 ∧ Below w.heap.size w w' := by
  have hmax : l0.length ≤ 9223372036854775807 := hr0.2.1
  have HR := Aside0.mk hr0
  have HC := Aside0.mk hc0
  clear hr0 hc0
  unfold fcs_Cut.f at h
  by_cases h2 : l0.length < 2
  · rw [if_pos h2] at h
    simp only [Option.some.injEq, Prod.mk.injEq] at h
    obtain ⟨rfl, rfl⟩ := h
    go_enter Try.func25, Try.ntmps25
    go_wp2
    go_ret2
    exact ⟨_, rfl, Kd.R_nil _ _ _ _ _, Below.refl _ _⟩
  · rw [if_neg h2, Option.bind_eq_some_iff] at h
    obtain ⟨g, hg, h⟩ := h
    have HG := Aside0.mk hg
    clear hg
    have h2' : 2 ≤ l0.length := by omega
    clear h2
    cases g with
    | false =>
      rw [if_neg (by decide)] at h
      simp only [Option.some.injEq, Prod.mk.injEq] at h
      obtain ⟨rfl, rfl⟩ := h
      go_enter Try.func25, Try.ntmps25
      go_wp2_with (go_at_call 35; (with_reducible refine (fcs_Good.calls k _ _ l0 false _ HR.out HC.out HG.out).mono ?_); rintro e w1 ⟨rfl, ⟨nd, rfl⟩⟩)
      go_ret2
      exact ⟨_, rfl, Kd.R_nil _ _ _ _ _, pw_below_drewN (Below.refl _ _) _⟩
    | true =>
      rw [if_pos rfl] at h
      have hlen : l0.length < 140737488355328 := by
        by_cases hh : l0.length < 140737488355328
        · exact hh
        · rw [if_neg hh] at h; cases h
      rw [if_pos hlen] at h
      simp only [Option.some.injEq, Prod.mk.injEq] at h
      obtain ⟨rfl, rfl⟩ := h
      go_enter Try.func25, Try.ntmps25
      go_wp2_with (first
        | (go_at_call 35; (with_reducible refine (fcs_Good.calls k _ _ l0 true _ HR.out HC.out HG.out).mono ?_); rintro e w1 ⟨rfl, ⟨nd, rfl⟩⟩)
        | ((with_reducible refine gate_dst (N := 17) rfl ?_); refine Kd.R_make (Kd.int .u8) (w0 := w) w.heap.size 5 rfl (N := 17) rfl 23 _ _ rfl ((l0.length : Int) - 2) rfl rfl Try.underlying23 (.int .u8 0) 1 info5 rfl (by decide) (by omega) 0 (ok := fun _ => True) (okp := fun _ => True) rfl (fun _ hk => hk) trivial (by omega) (by omega) ?mB ?mS ?_; (case mB => exact pw_below_drewN (Below.refl _ _) _); (case mS => exact Nat.le_refl _); intro v1 w1 ho1 hb1 hg1 hn1; clear hg1 hn1; have HO := Aside0.mk ho1; have HB := Aside0.mk hb1; clear ho1 hb1)
        | ((with_reducible refine gate_builtin (b := .copy) (xs := #[.tmp 18, .tmp 19]) rfl ?_); refine Kd.R_copy (0 : Int) (w0 := w) w.heap.size rfl (.tmp 18) (.tmp 19) 23 23 5 rfl Try.underlying23 (by kernel_rfl) _ (List.replicate ((l0.length : Int) - 2).toNat 0) l0 _ _ _ (fun _ => True) rfl rfl HO.out (Kd.C_below HR.out HB.out) HB.out (below_size HB.out) ?_; intro w2 ho hb hg; clear hg; rw [fcs_Cut.list l0 (by omega)] at ho; clear HO HB; have HO := Aside0.mk ho; have HB := Aside0.mk hb; clear ho hb))
      go_ret2
      exact ⟨_, rfl, HO.out, HB.out⟩

end Go.Proofs.Ytangahcilefelaa.Q
