/- A crash that keeps nothing leaves the sectors as they were; a new disk reads noughts. -/
import Derived.Test.YtnhfhepakimncaaSayDiskNone
import Derived.Test.YtnhfhepakimncaaBase
import Derived.Test.YtnhfhepakimncaaBase2
import Derived.Test.YtnhfhepakimncaaRow
namespace Go.Proofs.Ytnhfhepakimncaa.Pure
set_option linter.unusedVariables false
open Go Go.RowKit Go.Proofs.Ytnhfhepakimncaa.Q Go.Proofs.YtnhfhepakimncaaK Go.Proofs.YtnhfhepakimncaaW.PrintWords Go.Proofs.YtnhfhepakimncaaW.PrintLast Go.Proofs.YtnhfhepakimncaaW.PrintMore

theorem none_l0 {S : List (List Int)} {W : List S47} (hD : RD S W) (a : Int) (x : List Int) (e : Int) : ∀ (d k i : Nat), i + d = 64 → d + 300 ≤ k → ∃ k', 200 ≤ k' ∧ portreevelaw03_DiskNone.l0 k a true x e (i : Int) S W S [] = portreevelaw03_DiskNone.l0 (k' + 1) a true x e 64 S W S []
  | 0, k, i, hd, hk => ⟨k - 1, by omega, by rw [show k - 1 + 1 = k by omega, show i = 64 by omega]; rfl⟩
  | d + 1, k, i, hd, hk => by
    obtain ⟨k, rfl⟩ : ∃ m, k = m + 1 := ⟨k - 1, by omega⟩
    have := hD.s64
    have hr := hD.get i (by omega)
    obtain ⟨k', h1, h2⟩ := none_l0 hD a x e d k (i + 1) (by omega) (by omega)
    refine ⟨k', h1, ?_⟩
    rw [portreevelaw03_DiskNone.l0, if_pos (by omega), if_pos (by omega), if_pos (by omega), row _ _ _ (by omega) (by omega), Option.bind_some, if_pos (by simp), w64 (by omega) (by omega), show ((i : Int) + 1) = ((i + 1 : Nat) : Int) by omega, h2]
theorem DiskNone : portreevelaw03_DiskNone.Pure := by
  intro S W a hS hW ha
  refine ⟨9000, ?_⟩
  obtain ⟨sm, h1, h2⟩ := small_own 9000 S W (by omega)
  have hj : portreevelaw03_DiskNone.j0 9000 a true true S W = some true := by rw [portreevelaw03_DiskNone.j0, if_pos rfl]
  unfold portreevelaw03_DiskNone.f
  rw [shown_true _ (by omega), Option.bind_some, h1, Option.bind_some]
  cases sm with
  | false => rw [if_neg (by simp)]; exact hj
  | true =>
    have h3 := h2 rfl
    rw [if_pos rfl, right_own _ S W (by omega) (by omega), Option.bind_some]
    by_cases hr : (S.length == 64 && (okS S && okW W)) = true
    · have hD := RD_of (by omega) hr
      obtain ⟨Z, z1, z2, z3⟩ := new_own 8999 (by omega)
      have hs := hD.s64
      rw [hr, portreevelaw03_DiskNone.j0, if_neg (by simp), crash_own _ hD [] (by simp) (by omega), Option.bind_some, z1, Option.bind_some, kp_nil, dn]
      by_cases g : a < 0 ∨ 64 ≤ a
      · obtain ⟨k', k1, k2⟩ := none_l0 hD a [] 1 64 8998 0 (by omega) (by omega)
        rw [read_out _ Z [] a g (by omega), Option.bind_some, if_pos rfl, portreevelaw03_DiskNone.j1, if_neg (by simp)]
        refine k2.trans ?_
        rw [portreevelaw03_DiskNone.l0, if_neg (by omega)]
        by_cases g1 : a < 0
        · rw [if_pos g1, if_pos rfl, if_pos rfl]; rfl
        · rw [if_neg g1, if_pos (by omega), if_pos rfl, if_pos rfl]; rfl
      · have hz : rd_L2 Z a = List.replicate 128 0 := by
          obtain ⟨n, rfl⟩ : ∃ n : Nat, a = n := ⟨a.toNat, by omega⟩
          exact z3 n (by omega)
        obtain ⟨k', k1, k2⟩ := none_l0 hD a (List.replicate 128 0) 0 64 8998 0 (by omega) (by omega)
        rw [read_own _ z2 a (by omega) (by omega) (by omega), Option.bind_some, lk, hz, if_pos rfl, portreevelaw03_DiskNone.j1, if_neg (by simp)]
        refine k2.trans ?_
        rw [portreevelaw03_DiskNone.l0, if_neg (by omega), if_neg (by omega), if_neg (by omega), if_pos rfl, if_pos rfl, if_pos (by omega), row _ _ _ (by rw [List.length_replicate]; omega) (by rw [List.length_replicate]; omega), Option.bind_some]
        simp
    · rw [Bool.not_eq_true] at hr
      rw [hr]; exact hj
end Go.Proofs.Ytnhfhepakimncaa.Pure
