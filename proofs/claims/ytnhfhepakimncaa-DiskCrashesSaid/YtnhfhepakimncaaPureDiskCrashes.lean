/- Behind a crash each sector has what it had, or what the last write of it that was kept says; with all kept it is a flush. -/
import Derived.Test.YtnhfhepakimncaaSayDiskCrashes
import Derived.Test.YtnhfhepakimncaaBase
import Derived.Test.YtnhfhepakimncaaBase2
import Derived.Test.YtnhfhepakimncaaRow
namespace Go.Proofs.Ytnhfhepakimncaa.Pure
set_option linter.unusedVariables false
open Go Go.RowKit Go.Proofs.Ytnhfhepakimncaa.Q Go.Proofs.YtnhfhepakimncaaK Go.Proofs.YtnhfhepakimncaaW.PrintWords Go.Proofs.YtnhfhepakimncaaW.PrintLast Go.Proofs.YtnhfhepakimncaaW.PrintMore

theorem kp_all : ∀ W : List S47, kp (List.replicate W.length true) W = W
  | [] => rfl
  | w :: t => by rw [List.length_cons, List.replicate_succ, kp, kp_all t]; rfl
theorem kp_none (ks : List Bool) : kp ks ([] : List S47) = [] := by cases ks <;> rfl
theorem crashes_l0 {S : List (List Int)} {W : List S47} (hD : RD S W) (a : Int) (ks : List Bool) (hks : ks.length ≤ 100) (C : List (List Int)) (P : Option Bool → Prop) (z b : List Int)
    (hP : ∀ k, 4000 ≤ k → P (portreevelaw03_DiskCrashes.l0 (k + 1) a ks true b 0 z (List.replicate W.length true) (W.length : Int) S W C [])) :
    ∀ (d k i : Nat) (x : List Int), i + d = W.length → lk x a (kp (ks.drop i) (W.drop i)) = z → d + 4001 ≤ k → P (portreevelaw03_DiskCrashes.l0 k a ks true b 0 x (List.replicate i true ++ List.replicate d false) (i : Int) S W C [])
  | 0, k, i, x, hd, hz, hk => by
    obtain ⟨k, rfl⟩ : ∃ m, k = m + 1 := ⟨k - 1, by omega⟩
    obtain rfl : i = W.length := by omega
    rw [List.drop_eq_nil_of_le (Nat.le_refl W.length), kp_none, lk] at hz
    rw [hz, List.replicate_zero, List.append_nil]
    exact hP k (by omega)
  | d + 1, k, i, x, hd, hz, hk => by
    obtain ⟨k, rfl⟩ : ∃ m, k = m + 1 := ⟨k - 1, by omega⟩
    have hi : i < W.length := by omega
    have hl := hD.few
    have hset : (List.replicate i true ++ List.replicate (d + 1) false).set i true = List.replicate (i + 1) true ++ List.replicate d false := by
      rw [List.set_append_right _ _ (by simp), List.length_replicate, Nat.sub_self, List.replicate_succ, List.set_cons_zero, List.replicate_succ', List.append_assoc]
      rfl
    have ih := fun x hz => crashes_l0 hD a ks hks C P z b hP d k (i + 1) x (by omega) hz (by omega)
    rw [List.drop_eq_getElem_cons hi] at hz
    rw [portreevelaw03_DiskCrashes.l0, if_pos (by omega), if_pos (by omega), if_pos (by rw [List.length_append, List.length_replicate, List.length_replicate]; omega), Int.toNat_natCast, hset, Option.bind_some, T_lt W i hi, w64 (by omega) (by omega), show ((i : Int) + 1) = ((i + 1 : Nat) : Int) by omega]
    by_cases hj : i < ks.length
    · rw [List.drop_eq_getElem_cons hj, kp] at hz
      by_cases hb : ks[i] = true
      · rw [if_pos hb, List.singleton_append, lk] at hz
        by_cases ha : W[i].f0 = a
        · rw [if_pos ha] at hz
          rw [if_pos ha, if_pos (by omega), O_lt ks i hj, if_pos hb]
          exact ih _ hz
        · rw [if_neg ha] at hz
          rw [if_neg ha]
          exact ih _ hz
      · rw [if_neg hb, List.nil_append] at hz
        by_cases ha : W[i].f0 = a
        · rw [if_pos ha, if_pos (by omega), O_lt ks i hj, if_neg hb]
          exact ih _ hz
        · rw [if_neg ha]
          exact ih _ hz
    · rw [List.drop_eq_nil_of_le (by omega : ks.length ≤ i), kp_nil] at hz
      have hz' : lk x a (kp (ks.drop (i + 1)) (W.drop (i + 1))) = z := by rw [List.drop_eq_nil_of_le (by omega : ks.length ≤ i + 1), kp_nil]; exact hz
      by_cases ha : W[i].f0 = a
      · rw [if_pos ha, if_neg (by omega)]
        exact ih _ hz'
      · rw [if_neg ha]
        exact ih _ hz'
theorem DiskCrashes : portreevelaw03_DiskCrashes.Pure := by
  intro S W a ks hS hW ha hks
  refine ⟨9000, ?_⟩
  obtain ⟨sm, h1, h2⟩ := small_own 9000 S W (by omega)
  have hj : portreevelaw03_DiskCrashes.j0 9000 a ks true true S W = some true := by rw [portreevelaw03_DiskCrashes.j0, if_pos rfl]
  unfold portreevelaw03_DiskCrashes.f
  rw [shown_true _ (by omega), Option.bind_some, h1, Option.bind_some]
  cases sm with
  | false => rw [if_neg (by simp)]; exact hj
  | true =>
    have h3 := h2 rfl
    rw [if_pos rfl, right_own _ S W (by omega) (by omega), Option.bind_some]
    by_cases hr : (S.length == 64 && (okS S && okW W)) = true
    · have hD := RD_of (by omega) hr
      rw [if_pos hr]
      by_cases g1 : a < 0
      · rw [if_pos g1]; exact hj
      by_cases g2 : a ≥ 64
      · rw [if_neg g1, if_pos g2]; exact hj
      by_cases g3 : (ks.length : Int) > 100
      · rw [if_neg g1, if_neg g2, decide_eq_true g3]; exact hj
      have hk := kp_fit hD.fit ks
      have hC := hD.done hk
      have hF := hD.done hD.fit
      have hs := hD.s64
      have hz : rd_L2 (dn S (kp ks W)) a = lk (rd_L2 S a) a (kp ks W) := by
        obtain ⟨n, rfl⟩ : ∃ n : Nat, a = n := ⟨a.toNat, by omega⟩
        exact dn_get _ S n (by omega) hk
      have hl : (rd_L2 (dn S (kp ks W)) a).length = 128 := by
        obtain ⟨n, rfl⟩ : ∃ n : Nat, a = n := ⟨a.toNat, by omega⟩
        exact hC.get n (by omega)
      rw [if_neg g1, if_neg g2, decide_eq_false g3, portreevelaw03_DiskCrashes.j0, if_neg (by simp), crash_own _ hD ks (by omega) (by omega), Option.bind_some, read_own _ hC a (by omega) (by omega) (by omega), Option.bind_some, lk, if_pos (by omega), if_pos (by omega), if_pos (by omega), if_pos (by omega), Int.toNat_natCast]
      refine crashes_l0 hD a ks (by omega) (dn S (kp ks W)) (fun o => o = some true) _ (rd_L2 (dn S (kp ks W)) a) (fun k hk4 => ?_) W.length 8999 0 (rd_L2 S a) (by omega) (by rw [List.drop_zero, List.drop_zero]) (by omega)
      rw [← hz, portreevelaw03_DiskCrashes.l0, if_neg (by omega), flush_own _ hD (by omega), Option.bind_some, if_pos rfl, row _ _ _ (by omega) (by omega), Option.bind_some, if_pos (by simp), if_pos (by simp), crash_own _ hD (List.replicate W.length true) (by rw [List.length_replicate]; omega) (by omega), Option.bind_some, kp_all, same_own _ hF (by omega), Option.bind_some]
      obtain ⟨k, rfl⟩ : ∃ m, k = m + 1 := ⟨k - 1, by omega⟩
      rw [portreevelaw03_DiskCrashes.j2, if_neg (by simp), if_pos rfl, flush_own _ hF (by omega), Option.bind_some, dn, same_own _ hF (by omega), Option.bind_some, if_pos rfl, crash_own _ hF ks (by omega) (by omega), Option.bind_some, kp_none, dn, same_own _ hF (by omega), Option.bind_some]
    · rw [if_neg hr]; exact hj
end Go.Proofs.Ytnhfhepakimncaa.Pure
