/- portreevelaw15.ChapUsers: its walk. -/
import Derived.Test.YtpbkdphilcodmaaUsersRow
import Derived.Test.YtpbkdphilcodmaaWTab
namespace Go.Proofs.Ytpbkdphilcodmaa.Q
open Go Go.RowKit Go.Proofs.YtpbkdphilcodmaaW.PrintWords Go.Proofs.YtpbkdphilcodmaaW.PrintLast Go.Proofs.YtpbkdphilcodmaaW.PrintMore
open Go.Proofs.YtpbkdphilcodmaaV Go.Proofs.Ytpbkdphilcodmaa.Pure
set_option linter.unusedVariables false
set_option linter.unusedSimpArgs false
def lawUsersL.T7 : Bool × List (List Nat × List Nat) := (true, [([], []), ([], []), ([], []), ([1, 2], [1, 2]), ([0, 3], [0, 3]), ([], []), ([], []), ([6], [6]), ([5, 7], [5, 7]), ([4, 8, 4], [4, 8]), ([9, 9, 0, 1, 2, 3, 4, 5, 6, 7, 8, 9], [9])])
def lawUsersL.B7 : List Nat := [0, 0, 0, 6, 15, 0, 0, 64, 224, 511, 1023]
theorem lawUsersL.tab7 : rtab .any (opsOf Try.f7 7) = lawUsersL.T7 := by kernel_rfl
theorem lawUsersL.bits7 : waitsOk lawUsersL.T7.2 lawUsersL.B7 = true := by kernel_rfl
def lawUsersL.T16 : Bool × List (List Nat × List Nat) := (true, [([], []), ([], []), ([0, 1], [0, 1]), ([], []), ([], []), ([3, 4], [3, 4]), ([5], [5]), ([6], [6]), ([2, 7, 2], [2, 7]), ([8, 8, 0, 1, 2, 3, 4, 5, 6, 7, 8], [8])])
def lawUsersL.B16 : List Nat := [0, 0, 3, 0, 0, 24, 56, 120, 255, 511]
theorem lawUsersL.tab16 : rtab .any (opsOf Try.f7 16) = lawUsersL.T16 := by kernel_rfl
theorem lawUsersL.bits16 : waitsOk lawUsersL.T16.2 lawUsersL.B16 = true := by kernel_rfl
def ulM (nm : ByteArray) (us : List S54) (j : Nat) : Bool := decide (nm ∈ (us.take j).map (·.f0))
theorem ulM_true {nm : ByteArray} {us : List S54} {j : Nat} {x : ByteArray} (hs : (us.take (j + 1)).map (·.f0) = (us.take j).map (·.f0) ++ [x]) (h : ulM nm us j = true) : ulM nm us (j + 1) = true := by
  unfold ulM
  rw [hs]
  exact decide_eq_true (List.mem_append_left _ (of_decide_eq_true h))
theorem ulM_next {nm : ByteArray} {us : List S54} {j : Nat} {x : ByteArray} (hs : (us.take (j + 1)).map (·.f0) = (us.take j).map (·.f0) ++ [x]) (h : ulM nm us j = false) : ulM nm us (j + 1) = (x.toList == nm.toList) := by
  unfold ulM
  rw [hs]
  by_cases he : x.toList = nm.toList
  · rw [he, beq_self_eq_true]
    exact decide_eq_true (List.mem_append_right _ (by rw [toList_inj.1 he]; exact List.mem_cons_self))
  · rw [beq_eq_false_iff_ne.mpr he]
    refine decide_eq_false (fun hm => ?_)
    rcases List.mem_append.1 hm with hm | hm
    · exact of_decide_eq_false h hm
    · exact he (by rw [List.mem_singleton.1 hm])
theorem ulM_full (nm : ByteArray) (us : List S54) : ulM nm us us.length = secB nm us := by
  unfold ulM
  rw [List.take_length, secB_mem]
theorem ul_swap {w W : World} {x y : Bk} {L : List Bk} (h : Fam w (x :: y :: L) W) : Fam w (y :: x :: L) W :=
  ⟨h.bel, fun v hv => h.all v (by simp only [List.mem_cons] at hv ⊢; exact hv.elim (fun e => Or.inr (Or.inl e)) (fun e => e.elim Or.inl (fun e => Or.inr (Or.inr e)))), fun v hv => h.lo v (by simp only [List.mem_cons] at hv ⊢; exact hv.elim (fun e => Or.inr (Or.inl e)) (fun e => e.elim Or.inl (fun e => Or.inr (Or.inr e)))), by have := h.nd; rw [List.map_cons, List.map_cons] at this ⊢; exact (List.Perm.swap _ _ _).nodup this⟩
set_option maxHeartbeats 16000000 in
set_option maxRecDepth 100000 in
theorem UsersLaw_calls (us : List S54) (A : Option Addr) (c : Nat) (n : Int) (hn : 0 ≤ n ∧ n ≤ 255) (nm : ByteArray) (w : World) (hr : Kd.C k54 w A us.length us) (hc : us.length ≤ c) :
    Calls Try.prog 7 #[.slice A us.length c, .int .u8 n, .string nm] w fun e w' => e = .returned (.bool true) ∧ Below w.heap.size w w' := by
  obtain ⟨k, rfl⟩ : ∃ k : Nat, n = (k : Int) := ⟨n.toNat, by omega⟩
  have hk : k ≤ 255 := by omega
  have hl64 := hr.2.1
  have HR := Aside0.mk hr
  have HC := Aside0.mk hc
  clear hr hc hn
  obtain ⟨ug, hug⟩ : ∃ ug, usr us = ug := ⟨_, rfl⟩
  have HUG := Aside0.mk hug
  obtain ⟨fb, hfb⟩ := few_calls us
  have HFB := Aside0.mk hfb
  clear hug hfb
  go_enter Try.func7, Try.ntmps7
  go_upto_region 2 with (first
    | (go_at_call 9; refine (shown_calls _).mono ?_; rintro e w3 ⟨rfl, hb⟩; have HF3 := Aside0.mk (Fam.start (w := w) hb); clear hb))
  cases fb with
  | false =>
    go_wp2_with (first
      | (go_at_call 18; refine (HFB.out A c _ (Kd.C_below HR.out HF3.out.bel) HC.out).mono ?_; rintro e w4 ⟨rfl, hb⟩; have HF4 := Aside0.mk (HF3.out.keep hb); clear HF3 hb))
    go_ret
    exact ⟨rfl, HF4.out.bel⟩
  | true =>
  by_cases h50 : (50 : Int) < (nm.size : Int)
  · go_wp2_with (first
      | (go_at_call 18; refine (HFB.out A c _ (Kd.C_below HR.out HF3.out.bel) HC.out).mono ?_; rintro e w4 ⟨rfl, hb⟩; have HF4 := Aside0.mk (HF3.out.keep hb); clear HF3 hb))
    go_ret
    exact ⟨rfl, HF4.out.bel⟩
  have h50' : ¬ (50 : Int) < (nm.size : Int) := h50
  go_upto_region 4 with (first
    | (go_at_call 18; refine (HFB.out A c _ (Kd.C_below HR.out HF3.out.bel) HC.out).mono ?_; rintro e w4 ⟨rfl, hb⟩; have HF4 := Aside0.mk (HF3.out.keep hb); clear HF3 hb))
  clear h50 h50'
  cases ug with
  | false =>
    go_wp2_with (first
      | (go_at_call 19; refine (Users_calls us A c _ (Kd.C_below HR.out HF4.out.bel) HC.out).mono ?_; rintro e w5 ⟨rfl, hb⟩; rw [HUG.out]; have HF5 := Aside0.mk (HF4.out.keep hb); clear HF4 hb))
    go_ret
    exact ⟨rfl, HF5.out.bel⟩
  | true =>
  by_cases hl0 : us.length = 0
  · have HU15 : Aside0 (∀ W, Kd.C k54 W A us.length us → Calls Try.prog 19 #[.slice A 0 c] W fun e w' => e = .returned (.bool (usr us)) ∧ Below W.heap.size W w') := ⟨fun W h => by have h1 := Users_calls us A c W h HC.out; rwa [hl0] at h1⟩
    go_wp2_with (first
      | (go_at_call 19; refine (HU15.out _ (Kd.C_below HR.out HF4.out.bel)).mono ?_; rintro e w5 ⟨rfl, hb⟩; rw [HUG.out]; have HF5 := Aside0.mk (HF4.out.keep hb); clear HF4 hb))
    go_ret
    exact ⟨rfl, HF5.out.bel⟩
  have hl0' : ((us.length : Int) == 0) = false := beq_eq_false_iff_ne.mpr (by omega)
  obtain ⟨i, hi⟩ : ∃ i, k % us.length = i := ⟨_, rfl⟩
  have hlt : i < us.length := by rw [← hi]; exact Nat.mod_lt _ (by omega)
  have hrem : Int.tmod (k : Int) (us.length : Int) = (i : Int) := by rw [Int.tmod_eq_emod_of_nonneg (by omega)]; omega
  have hltI : (i : Int) < (us.length : Int) := by omega
  obtain ⟨ad, rfl, hx0, hx1⟩ := at_T54 HR.out (i : Int) (by omega) hltI
  rw [Int.toNat_natCast] at hx0 hx1
  have hat := at_U hlt
  obtain ⟨u, hu⟩ : ∃ u, rd_T54 us (i : Int) = u := ⟨_, rfl⟩
  rw [hu] at hx0 hx1 hat
  have hup := (of_decide_eq_true HUG.out).1
  have HL8 := Aside0.mk (of_decide_eq_true HUG.out).2
  have HSO := Aside0.mk (ul_sec hup.1 hat)
  have HLS := Aside0.mk (ul_less HUG.out hat)
  have HTW := Aside0.mk (ul_twice hat)
  obtain ⟨s, z⟩ := u
  have HX : Aside0 (∀ W, Below w.heap.size w W → W.cell? (ad.add (i * 2)) = some (.string s) ∧ W.cell? ⟨(ad.add (i * 2)).block, (ad.add (i * 2)).off + 1, none⟩ = some (.string z)) :=
    ⟨fun W hb => ⟨(hb.cell (World.block_lt_of_cell? _ _ hx0)).trans hx0, (hb.cell (World.block_lt_of_cell? _ _ hx1)).trans hx1⟩⟩
  obtain ⟨l1, hl1⟩ : ∃ l1, us.take i = l1 := ⟨_, rfl⟩
  obtain ⟨l2, hl2⟩ : ∃ l2, us.drop (i + 1) = l2 := ⟨_, rfl⟩
  obtain ⟨le, hle⟩ : ∃ le, l1 ++ l2 = le := ⟨_, rfl⟩
  rw [hl1, hl2, hle] at HLS
  have HL1 := Aside0.mk (show l1.length = i by rw [← hl1, List.length_take]; omega)
  have HL2 := Aside0.mk (show l2.length = us.length - (i + 1) by rw [← hl2, List.length_drop])
  have HLE := Aside0.mk hle
  have HLEL := Aside0.mk (show le.length ≤ 8 by rw [← hle, List.length_append, HL1.out, HL2.out]; have := HL8.out; omega)
  have hC1 := C_cut (c := c) (lo := 0) (hi := i) HR.out (Nat.zero_le _) (by omega) HC.out
  have hC2 := C_cut (c := c) (lo := i + 1) (hi := us.length) HR.out (by omega) (Nat.le_refl _) HC.out
  rw [List.take_length, hl2] at hC2
  rw [List.drop_zero, hl1, Nat.sub_zero] at hC1
  obtain ⟨i04, hi04, _, hsz4, _⟩ := info_parts ul_info54
  have hcutA := cut_to (P := Try.prog) 25 54 .i64 Try.underlying25 hi04 (some ad) us.length c (i : Int) (by omega) (by omega) HC.out
  have hcutB := cut_from (P := Try.prog) 25 54 .i64 Try.underlying25 hi04 2 hsz4 (some ad) us.length c ((i : Int) + 1) (by omega) (by omega)
  rw [Int.toNat_natCast] at hcutA
  rw [show ((i : Int) + 1).toNat = i + 1 by omega] at hcutB
  have hC1' : Kd.C k54 w (some ad) i l1 := by
    by_cases hc0 : c = 0
    · exfalso; have := HC.out; omega
    · rw [if_neg hc0] at hC1
      have e : ad.add 0 = ad := by unfold Addr.add; simp
      simpa [e] using hC1
  obtain ⟨a2, ha2⟩ : ∃ a2, (if c = i + 1 then some ad else (some ad : Option Addr).map (·.add ((i + 1) * 2))) = some a2 := by
    by_cases h : c = i + 1
    · exact ⟨ad, by rw [if_pos h]⟩
    · exact ⟨_, by rw [if_neg h]; rfl⟩
  have hC2' : Kd.C k54 w (some a2) (us.length - (i + 1)) l2 := by
    rw [← ha2]
    exact hC2
  rw [ha2] at hcutB
  have HC1 := Aside0.mk hC1'
  have HC2 := Aside0.mk hC2'
  have HCA := Aside0.mk hcutA
  have HCB := Aside0.mk hcutB
  have e1 : wrap64 ((i : Int) + 1) = ((i + 1 : Nat) : Int) := by rw [wrap64_of (by have := HL8.out; omega)]; omega
  clear hi hu hup hat hx0 hx1 hl1 hl2 hle hC1 hC2 hC1' hC2' ha2 hi04 hsz4 hcutA hcutB
  go_upto_region 7 with (first
    | (go_at_call 19; refine (Users_calls us (some ad) c _ (Kd.C_below HR.out HF4.out.bel) HC.out).mono ?_; rintro e w5 ⟨rfl, hb⟩; rw [HUG.out]; have HF7 := Aside0.mk (HF4.out.keep hb); clear HF4 hb))
  have hcutA := HCA.out
  have hcutB := HCB.out
  refine start_ (n := 11) (S := fun w' => True) (ds := []) #[false, false, false, false, false, false, false, false, false, false, false] (by kernel_rfl) rfl rfl trivial (fun hHeld => ?_)
  refine with_tabW lawUsersL.tab7 lawUsersL.bits7 (fun HT_ HW_ => ?_)
  have HF8 := Aside0.mk HF7.out.drew
  clear HF7
  generalize World.drew _ = w7 at HF8 hHeld ⊢
  refine pure_ (i := 1) (N := some 44) (v := ?_) (a' := ?_) #[false, true, false, false, false, false, false, false, false, false, false] rfl rfl (any_of HT_.out (by kernel_rfl)) (fun _ _ _ h => h) (Or.inl ⟨by rfl, ?_⟩) ?_ ?_
  rotate_left
  · intro w'
    go_simp
    with_reducible rfl
  rotate_left
  · simp only [Act.put, sT, s0, s1, i64_w, i32_w]
    rfl
  refine pure_ (i := 2) (N := some 45) (v := ?_) (a' := ?_) #[false, true, true, false, false, false, false, false, false, false, false] rfl rfl (any_of HT_.out (by kernel_rfl)) (fun _ _ _ h => h) (Or.inl ⟨by rfl, ?_⟩) ?_ ?_
  rotate_left
  · intro w'
    go_simp
    with_reducible rfl
  rotate_left
  · simp only [Act.put, sT, s0, s1, i64_w, i32_w]
    rfl
  refine pure_ (i := 3) (N := some 46) (v := ?_) (a' := ?_) #[false, true, true, true, false, false, false, false, false, false, false] rfl rfl (any_of HT_.out (by kernel_rfl)) (fun _ _ _ h => h) (Or.inl ⟨by rfl, ?_⟩) ?_ ?_
  rotate_left
  · intro w'
    go_simp
    with_reducible rfl
  rotate_left
  · simp only [Act.put, sT, s0, s1, i64_w, i32_w]
    rfl
  refine pure_ (i := 5) (N := some 48) (v := ?_) (a' := ?_) #[false, true, true, true, false, true, false, false, false, false, false] rfl rfl (any_of HT_.out (by kernel_rfl)) (fun _ _ _ h => h) (Or.inl ⟨by rfl, ?_⟩) ?_ ?_
  rotate_left
  · intro w'
    go_simp
    with_reducible rfl
  rotate_left
  · simp only [Act.put, sT, s0, s1, i64_w, i32_w]
    rfl
  refine pure_ (i := 6) (N := some 49) (v := ?_) (a' := ?_) #[false, true, true, true, false, true, true, false, false, false, false] rfl rfl (any_of HT_.out (by kernel_rfl)) (fun _ _ _ h => h) (Or.inl ⟨by rfl, ?_⟩) ?_ ?_
  rotate_left
  · intro w'
    go_simp
    with_reducible rfl
  rotate_left
  · simp only [Act.put, sT, s0, s1, i64_w, i32_w]
    rfl
  refine pure_ (i := 7) (N := some 50) (v := ?_) (a' := ?_) #[false, true, true, true, false, true, true, true, false, false, false] rfl rfl (any_of HT_.out (by kernel_rfl)) (fun _ _ _ h => h) (Or.inl ⟨by rfl, ?_⟩) ?_ ?_
  rotate_left
  · intro w'
    go_simp
    with_reducible rfl
  rotate_left
  · simp only [Act.put, sT, s0, s1, i64_w, i32_w]
    rfl
  refine pure_ (i := 8) (N := some 51) (v := ?_) (a' := ?_) #[false, true, true, true, false, true, true, true, true, false, false] rfl rfl (any_of HT_.out (by kernel_rfl)) (fun _ _ _ h => h) (Or.inl ⟨by rfl, ?_⟩) ?_ ?_
  rotate_left
  · intro w'
    go_simp
    with_reducible rfl
  rotate_left
  · simp only [Act.put, sT, s0, s1, i64_w, i32_w]
    rfl
  refine one_ (i := 0) (N := some 43) #[true, true, true, true, false, true, true, true, true, false, false] rfl rfl (one_of HT_.out (by kernel_rfl)) (by decide) (fun K hK => ?_)
  refine value_ (by rfl) rfl (show (execOp _ _).run Try.prog _ = .ok (.value (.slice (some ⟨w7.heap.size, 0, none⟩) 0 0)) (w7.alloc (.cells #[] 54)) by first | (go_simp; done) | (go_simp; rfl)) ?_
  have HF9 := Aside0.mk (show Fam w [(w7.heap.size, 54, uc ([] : List S54) ++ [])] _ from HF8.out.box rfl Blk.new (pA (Below.refl _ _) _))
  clear HF8
  refine hK.out _ _ (trivial) (fun hHeld => ?_)
  clear hK K
  refine norm_ (a' := ?_) ?_ ?_
  rotate_left
  · show Act.put _ (some 43) _ = _
    simp only [Act.put, sT, s0, s1, i64_w, i32_w]
    rfl
  obtain ⟨g1, k1, sp1, w8, hrun, hk1, hF⟩ := ul_step (g := w7.heap.size) (k := 0) (l := []) (m := l1) (sp := []) (a := ad) (c := c) (ty := 25) HF9.out rfl (uc_src (Kd.C_below HC1.out HF9.out.bel)) (by rw [HL1.out]; have := HL8.out; simp only [List.length_nil]; omega)
  rw [List.nil_append] at hrun hF
  rw [HL1.out] at hrun
  have HF10 := Aside0.mk hF
  clear hF HF9
  refine one_ (i := 4) (N := some 47) #[true, true, true, true, true, true, true, true, true, false, false] rfl rfl (one_of HT_.out (by kernel_rfl)) (by decide) (fun K hK => ?_)
  refine value_ (v := .slice (some ⟨g1, 0, none⟩) i (i + k1)) (w1 := w8) (by rfl) rfl (ul_event rfl rfl rfl ?hh) ?_
  case hh => exact hrun
  clear hrun
  refine hK.out _ _ trivial (fun hHeld => ?_)
  clear hK K
  refine norm_ (a' := ?_) ?_ ?_
  rotate_left
  · show Act.put _ (some 47) _ = _
    simp only [Act.put, sT, s0, s1, i64_w, i32_w]
    rfl
  obtain ⟨g2, k2, sp2, w9, hrun, hk2, hF⟩ := ul_step (g := g1) (k := k1) (l := l1) (m := l2) (sp := sp1) (a := a2) (c := c - (i + 1)) (ty := 25) HF10.out hk1 (uc_src (Kd.C_below HC2.out HF10.out.bel)) (by rw [HL1.out, HL2.out]; have := HL8.out; omega)
  rw [HLE.out] at hrun hF
  rw [HL1.out, HL2.out] at hrun
  have HF11 := Aside0.mk hF
  clear hF HF10
  refine one_ (i := 9) (N := some 52) #[true, true, true, true, true, true, true, true, true, true, false] rfl rfl (one_of HT_.out (by kernel_rfl)) (by decide) (fun K hK => ?_)
  refine value_ (v := .slice (some ⟨g2, 0, none⟩) le.length (le.length + k2)) (w1 := w9) (by rfl) rfl (ul_event rfl rfl rfl ?hh) ?_
  case hh => exact hrun
  clear hrun
  refine hK.out _ _ trivial (fun hHeld => ?_)
  clear hK K
  refine norm_ (a' := ?_) ?_ ?_
  rotate_left
  · show Act.put _ (some 52) _ = _
    simp only [Act.put, sT, s0, s1, i64_w, i32_w]
    rfl
  refine pure_ (i := 10) (N := some 9) (v := ?_) (a' := ?_) #[true, true, true, true, true, true, true, true, true, true, true] rfl rfl (any_of HT_.out (by kernel_rfl)) (fun _ _ _ h => h) (Or.inl ⟨by rfl, ?_⟩) ?_ ?_
  rotate_left
  · intro w'
    go_simp
    with_reducible rfl
  rotate_left
  · simp only [Act.put, sT, s0, s1, i64_w, i32_w]
    rfl
  refine done_ (done_of HT_.out (by kernel_rfl)) ?_
  clear hHeld
  clear hcutA hcutB e1 hrem HCA HCB HC1 HC2 HL1 HL2 HLE
  have HSO' := Aside0.mk (show secB s us = true ∧ secS s us = z from HSO.out)
  have HLS' := Aside0.mk (show usr le = true ∧ secB s le = false from HLS.out)
  have HTW' := Aside0.mk (show usr (us ++ [⟨s, z⟩]) = false from HTW.out)
  clear HSO HLS HTW
  have hx := HX.out _ HF11.out.bel
  obtain ⟨hx0, hx1⟩ := hx
  go_upto_region 9 with (first
    | (go_at_call 20; refine (Secret_calls us (some ad) c s _ (Kd.C_below HR.out HF11.out.bel) HC.out).mono ?_; rintro e w10 ⟨rfl, hb⟩; rw [HSO'.out.1, HSO'.out.2]; have HF12 := Aside0.mk (HF11.out.keep hb); clear hb HF11 hx0 hx1; obtain ⟨hx0, hx1⟩ := HX.out _ HF12.out.bel))
  go_upto_region 11 with (first
    | (have hq_ := HF12; clear hq_; go_at_call 20; refine (Secret_calls le (some ⟨g2, 0, none⟩) (le.length + k2) s _ (ul_C (HF12.out.get 0 rfl) (by have := HLEL.out; omega)) (Nat.le_add_right _ _)).mono ?_; rintro e w11 ⟨rfl, hb⟩; rw [HLS'.out.2]; have HF13 := Aside0.mk (HF12.out.keep hb); clear hb HF12 hx0 hx1)
    | (have hq_ := HF13; clear hq_; go_at_call 20; refine (Secret_calls us (some ad) c nm _ (Kd.C_below HR.out HF13.out.bel) HC.out).mono ?_; rintro e w12 ⟨rfl, hb⟩; have HF14 := Aside0.mk (HF13.out.keep hb); clear hb HF13))
  go_wp2
  go_loopw [16, 17] (fun v16 v17 wr => ∃ j : Nat, j ≤ us.length ∧ v16 = .bool (ulM nm us j) ∧ v17 = .int .i64 j ∧ Aside0 (Fam w [(g2, 54, uc le ++ sp2)] wr)) (fun v16 v17 _ => us.length - (intOf v17).toNat)
  case atStart => exact ⟨0, Nat.zero_le _, rfl, rfl, HF14⟩
  case round =>
    obtain ⟨j, hj, rfl, rfl, HF1⟩ := hrel
    clear HF14
    by_cases hjt : j < us.length
    · have hjt' : (j : Int) < (us.length : Int) := by omega
      clear hj
      obtain ⟨ad', had', hy0, hy1⟩ := at_T54 (Kd.C_below HR.out HF1.out.bel) (j : Int) (by omega) hjt'
      cases had'
      rw [Int.toNat_natCast] at hy0
      have hau := at_U hjt
      obtain ⟨x, hx⟩ : ∃ x, rd_T54 us (j : Int) = x := ⟨_, rfl⟩
      rw [hx] at hy0 hau
      have HTS := Aside0.mk (show (us.take (j + 1)).map (·.f0) = (us.take j).map (·.f0) ++ [x.f0] by rw [List.take_add_one, hau, List.map_append]; rfl)
      clear hk1 hk2 hHeld hl0 hl0' hltI hlt
      clear hau hx hy1
      obtain ⟨xn, hxn⟩ : ∃ xn, x.f0 = xn := ⟨_, rfl⟩
      rw [hxn] at hy0 HTS
      clear hxn
      obtain ⟨tb, htb⟩ : ∃ tb, ulM nm us j = tb := ⟨_, rfl⟩
      rw [htb]
      have HTB := Aside0.mk htb
      clear htb
      cases tb with
      | true =>
        have HT2 := Aside0.mk (ulM_true HTS.out HTB.out)
        clear hy0
        go_wp2
        go_roundw
        case rel => exact ⟨j + 1, hjt, by rw [HT2.out], by first | rfl | go_num, HF1⟩
        case measure => simp only [intOf]; omega
      | false =>
        obtain ⟨qb, hqb⟩ : ∃ qb, (xn.toList == nm.toList) = qb := ⟨_, rfl⟩
        have HQB := Aside0.mk hqb
        have HT2 := Aside0.mk ((ulM_next HTS.out HTB.out).trans HQB.out)
        cases qb with
        | true =>
          have heq : xn.toList = nm.toList := beq_iff_eq.1 hqb
          go_wp2
          go_roundw
          case rel => exact ⟨j + 1, hjt, by rw [HT2.out], by first | rfl | go_num, HF1⟩
          case measure => simp only [intOf]; omega
        | false =>
          have heq : ¬ xn.toList = nm.toList := beq_eq_false_iff_ne.1 hqb
          go_wp2
          go_roundw
          case rel => exact ⟨j + 1, hjt, by rw [HT2.out], by first | rfl | go_num, HF1⟩
          case measure => simp only [intOf]; omega
    · obtain rfl : j = us.length := by omega
      clear hjt hj
      rw [ulM_full]
      obtain ⟨tb, htb⟩ : ∃ tb, secB nm us = tb := ⟨_, rfl⟩
      rw [htb]
      clear htb
      obtain ⟨tw, htw⟩ : ∃ tw, us ++ [⟨s, z⟩] = tw := ⟨_, rfl⟩
      have HTE := Aside0.mk htw
      have HTL := Aside0.mk (show tw.length ≤ 9 by rw [← htw, List.length_append]; have := HL8.out; simp only [List.length_cons, List.length_nil]; omega)
      rw [htw] at HTW'
      clear htw
      have HF15 := HF1
      clear HF1
      go_upto_region 16 with (fail)
      refine start_ (n := 10) (S := fun w' => w'.cell? (ad.add (i * 2)) = some (.string s) ∧ w'.cell? ⟨(ad.add (i * 2)).block, (ad.add (i * 2)).off + 1, none⟩ = some (.string z)) (ds := []) #[false, false, false, false, false, false, false, false, false, false] (by kernel_rfl) rfl rfl ⟨(HX.out _ HF15.out.drew.bel).1, (HX.out _ HF15.out.drew.bel).2⟩ (fun hHeld => ?_)
      refine with_tabW lawUsersL.tab16 lawUsersL.bits16 (fun HT_ HW_ => ?_)
      have HF16 := Aside0.mk HF15.out.drew
      clear HF15
      generalize World.drew _ = w15 at HF16 hHeld ⊢
      refine pure_ (i := 1) (N := some 96) (v := ?_) (a' := ?_) #[false, true, false, false, false, false, false, false, false, false] rfl rfl (any_of HT_.out (by kernel_rfl)) (fun _ _ _ h => h) (Or.inl ⟨by rfl, ?_⟩) ?_ ?_
      rotate_left
      · intro w'
        go_simp
        with_reducible rfl
      rotate_left
      · simp only [Act.put, sT, s0, s1, i64_w, i32_w]
        rfl
      refine pure_ (i := 3) (N := some 98) (v := ?_) (a' := ?_) #[false, true, false, true, false, false, false, false, false, false] rfl rfl (any_of HT_.out (by kernel_rfl)) (fun _ _ _ h => h) (Or.inl ⟨by rfl, ?_⟩) ?_ ?_
      rotate_left
      · intro w'
        go_simp
        with_reducible rfl
      rotate_left
      · simp only [Act.put, sT, s0, s1, i64_w, i32_w]
        rfl
      refine pure_ (i := 4) (N := some 99) (v := ?_) (a' := ?_) #[false, true, false, true, true, false, false, false, false, false] rfl rfl (any_of HT_.out (by kernel_rfl)) (fun _ _ _ h => h) (Or.inl ⟨by rfl, ?_⟩) ?_ ?_
      rotate_left
      · intro w'
        go_simp
        with_reducible rfl
      rotate_left
      · simp only [Act.put, sT, s0, s1, i64_w, i32_w]
        rfl
      refine pure_ (i := 5) (N := some 100) (v := ?_) (a' := ?_) #[false, true, false, true, true, true, false, false, false, false] rfl rfl (any_of HT_.out (by kernel_rfl)) (fun _ _ _ h => h) (Or.inl ⟨by rfl, ?_⟩) ?_ ?_
      rotate_left
      · intro w'
        go_simp
        with_reducible rfl
      rotate_left
      · simp only [Act.put, sT, s0, s1, i64_w, i32_w]
        rfl
      refine take_ (i := 6) (N := some 101) (v := .agg #[.string s, .string z]) (a' := ?_) #[false, true, false, true, true, true, true, false, false, false] rfl rfl (take_ofW HT_.out HW_.out (by kernel_rfl)) (fun _ _ _ h => h) (Or.inl ⟨by rfl, ?_⟩) hHeld ?_ ?_
      · rintro w' ⟨h1_, h2_⟩
        first | (go_simp; done) | (go_simp; rfl)
      rotate_left
      · simp only [Act.put, sT, s0, s1]
        rfl
      refine join_ (σ := Nat × Nat × Nat × Nat × List Value) 2 #[true, true, true, true, true, true, true, true, false, false] (fun s_ => [(95, .slice (some ⟨s_.1, 0, none⟩) 0 0), (97, .slice (some ⟨s_.2.1, 0, none⟩) us.length (us.length + s_.2.2.2.1)), (102, .slice (some ⟨s_.2.2.1, 0, none⟩) 1 1)]) (fun s_ w' => s_.2.2.2.2.length = s_.2.2.2.1 * 2 ∧ Fam w [(s_.2.1, 54, uc us ++ s_.2.2.2.2), (s_.2.2.1, 54, [.string s, .string z]), (g2, 54, uc le ++ sp2)] w') ?_ ?_
      rotate_left
      · intro hJ
        refine two_ (i := 0) (j := 7) (Ni := some 95) (Nj := some 102) #[true, true, false, true, true, true, true, false, false, false] #[false, true, false, true, true, true, true, true, false, false] rfl rfl rfl rfl (two_of HT_.out (by kernel_rfl)) (by decide) (by decide) (fun K hK => ?_) (fun K hK => ?_)
        · skip
          refine value_ (by rfl) rfl (show (execOp _ _).run Try.prog _ = .ok (.value (.slice (some ⟨w15.heap.size, 0, none⟩) 0 0)) (w15.alloc (.cells #[] 54)) by first | (go_simp; done) | (go_simp; rfl)) ?_
          have HF17 := Aside0.mk (show Fam w [(w15.heap.size, 54, uc ([] : List S54) ++ []), (g2, 54, uc le ++ sp2)] (w15.alloc (.cells #[] 54)) from HF16.out.box rfl Blk.new (pA (Below.refl _ _) _))
          clear HF16
          generalize hg_ : w15.heap.size = g0 at HF17 ⊢
          clear hg_
          generalize w15.alloc _ = w16 at HF17 ⊢
          refine hK.out _ _ ⟨(HX.out _ HF17.out.bel).1, (HX.out _ HF17.out.bel).2⟩ (fun hHeld => ?_)
          clear hK K
          refine norm_ (a' := ?_) ?_ ?_
          rotate_left
          · show Act.put _ (some 95) _ = _
            simp only [Act.put, sT, s0, s1, i64_w, i32_w]
            rfl
          refine two_ (i := 2) (j := 7) (Ni := some 97) (Nj := some 102) #[true, true, true, true, true, true, true, false, false, false] #[true, true, false, true, true, true, true, true, false, false] rfl rfl rfl rfl (two_of HT_.out (by kernel_rfl)) (by decide) (by decide) (fun K hK => ?_) (fun K hK => ?_)
          · skip
            obtain ⟨g3, k3, sp3, w17, hrun, hk3, hF⟩ := ul_step (g := g0) (k := 0) (l := []) (m := us) (sp := []) (a := ad) (c := c) (ty := 25) HF17.out rfl (uc_src (Kd.C_below HR.out HF17.out.bel)) (by have := HL8.out; simp only [List.length_nil]; omega)
            rw [List.nil_append] at hrun hF
            have HF18 := Aside0.mk hF
            clear hF HF17
            refine value_ (v := .slice (some ⟨g3, 0, none⟩) us.length (us.length + k3)) (w1 := w17) (by rfl) rfl (ul_event rfl rfl rfl ?hh) ?_
            case hh => exact hrun
            clear hrun
            refine hK.out _ _ ⟨(HX.out _ HF18.out.bel).1, (HX.out _ HF18.out.bel).2⟩ (fun hHeld => ?_)
            clear hK K
            refine norm_ (a' := ?_) ?_ ?_
            rotate_left
            · show Act.put _ (some 97) _ = _
              simp only [Act.put, sT, s0, s1, i64_w, i32_w]
              rfl
            refine one_ (i := 7) (N := some 102) #[true, true, true, true, true, true, true, true, false, false] rfl rfl (one_of HT_.out (by kernel_rfl)) (by decide) (fun K hK => ?_)
            refine value_ (by rfl) rfl (show (execOp _ _).run Try.prog _ = .ok (.value (.slice (some ⟨w17.heap.size, 0, none⟩) 1 1)) (w17.alloc (.cells #[.string s, .string z] 54)) by first | (go_simp; done) | (go_simp; rfl)) ?_
            have HF19 := Aside0.mk (show Fam w [(w17.heap.size, 54, [.string s, .string z]), (g3, 54, uc us ++ sp3), (g2, 54, uc le ++ sp2)] (w17.alloc (.cells #[.string s, .string z] 54)) from HF18.out.box rfl Blk.new (pA (Below.refl _ _) _))
            clear HF18
            generalize hg_ : w17.heap.size = gu at HF19 ⊢
            clear hg_
            generalize w17.alloc _ = w18 at HF19 ⊢
            refine hK.out _ _ (⟨(HX.out _ HF19.out.bel).1, (HX.out _ HF19.out.bel).2⟩) (fun hHeld => ?_)
            clear hK K
            refine norm_ (a' := ?_) ?_ ?_
            rotate_left
            · show Act.put _ (some 102) _ = _
              simp only [Act.put, sT, s0, s1, i64_w, i32_w]
              rfl
            exact norm_ (by first | (simp only [putAll, Act.put, sT, s0, s1]; done) | (simp only [putAll, Act.put, sT, s0, s1]; rfl)) (hJ (g0, g3, gu, k3, sp3) _ ⟨hk3, ul_swap HF19.out⟩)
          · skip
            refine value_ (by rfl) rfl (show (execOp _ _).run Try.prog _ = .ok (.value (.slice (some ⟨w16.heap.size, 0, none⟩) 1 1)) (w16.alloc (.cells #[.string s, .string z] 54)) by first | (go_simp; done) | (go_simp; rfl)) ?_
            have HF18 := Aside0.mk (show Fam w [(w16.heap.size, 54, [.string s, .string z]), (g0, 54, uc ([] : List S54) ++ []), (g2, 54, uc le ++ sp2)] (w16.alloc (.cells #[.string s, .string z] 54)) from HF17.out.box rfl Blk.new (pA (Below.refl _ _) _))
            clear HF17
            generalize hg_ : w16.heap.size = gu at HF18 ⊢
            clear hg_
            generalize w16.alloc _ = w17 at HF18 ⊢
            refine hK.out _ _ ⟨(HX.out _ HF18.out.bel).1, (HX.out _ HF18.out.bel).2⟩ (fun hHeld => ?_)
            clear hK K
            refine norm_ (a' := ?_) ?_ ?_
            rotate_left
            · show Act.put _ (some 102) _ = _
              simp only [Act.put, sT, s0, s1, i64_w, i32_w]
              rfl
            have HF18_ := Aside0.mk (ul_swap HF18.out)
            clear HF18
            obtain ⟨g3, k3, sp3, w18, hrun, hk3, hF⟩ := ul_step (g := g0) (k := 0) (l := []) (m := us) (sp := []) (a := ad) (c := c) (ty := 25) HF18_.out rfl (uc_src (Kd.C_below HR.out HF18_.out.bel)) (by have := HL8.out; simp only [List.length_nil]; omega)
            rw [List.nil_append] at hrun hF
            have HF19 := Aside0.mk hF
            clear hF HF18_
            refine one_ (i := 2) (N := some 97) #[true, true, true, true, true, true, true, true, false, false] rfl rfl (one_of HT_.out (by kernel_rfl)) (by decide) (fun K hK => ?_)
            refine value_ (v := .slice (some ⟨g3, 0, none⟩) us.length (us.length + k3)) (w1 := w18) (by rfl) rfl (ul_event rfl rfl rfl ?hh) ?_
            case hh => exact hrun
            clear hrun
            refine hK.out _ _ ⟨(HX.out _ HF19.out.bel).1, (HX.out _ HF19.out.bel).2⟩ (fun hHeld => ?_)
            clear hK K
            refine norm_ (a' := ?_) ?_ ?_
            rotate_left
            · show Act.put _ (some 97) _ = _
              simp only [Act.put, sT, s0, s1, i64_w, i32_w]
              rfl
            exact norm_ (by first | (simp only [putAll, Act.put, sT, s0, s1]; done) | (simp only [putAll, Act.put, sT, s0, s1]; rfl)) (hJ (g0, g3, gu, k3, sp3) _ ⟨hk3, HF19.out⟩)
        · skip
          refine value_ (by rfl) rfl (show (execOp _ _).run Try.prog _ = .ok (.value (.slice (some ⟨w15.heap.size, 0, none⟩) 1 1)) (w15.alloc (.cells #[.string s, .string z] 54)) by first | (go_simp; done) | (go_simp; rfl)) ?_
          have HF17 := Aside0.mk (show Fam w [(w15.heap.size, 54, [.string s, .string z]), (g2, 54, uc le ++ sp2)] (w15.alloc (.cells #[.string s, .string z] 54)) from HF16.out.box rfl Blk.new (pA (Below.refl _ _) _))
          clear HF16
          generalize hg_ : w15.heap.size = gu at HF17 ⊢
          clear hg_
          generalize w15.alloc _ = w16 at HF17 ⊢
          refine hK.out _ _ ⟨(HX.out _ HF17.out.bel).1, (HX.out _ HF17.out.bel).2⟩ (fun hHeld => ?_)
          clear hK K
          refine norm_ (a' := ?_) ?_ ?_
          rotate_left
          · show Act.put _ (some 102) _ = _
            simp only [Act.put, sT, s0, s1, i64_w, i32_w]
            rfl
          refine one_ (i := 0) (N := some 95) #[true, true, false, true, true, true, true, true, false, false] rfl rfl (one_of HT_.out (by kernel_rfl)) (by decide) (fun K hK => ?_)
          refine value_ (by rfl) rfl (show (execOp _ _).run Try.prog _ = .ok (.value (.slice (some ⟨w16.heap.size, 0, none⟩) 0 0)) (w16.alloc (.cells #[] 54)) by first | (go_simp; done) | (go_simp; rfl)) ?_
          have HF18 := Aside0.mk (show Fam w [(w16.heap.size, 54, uc ([] : List S54) ++ []), (gu, 54, [.string s, .string z]), (g2, 54, uc le ++ sp2)] (w16.alloc (.cells #[] 54)) from HF17.out.box rfl Blk.new (pA (Below.refl _ _) _))
          clear HF17
          generalize hg_ : w16.heap.size = g0 at HF18 ⊢
          clear hg_
          generalize w16.alloc _ = w17 at HF18 ⊢
          refine hK.out _ _ (⟨(HX.out _ HF18.out.bel).1, (HX.out _ HF18.out.bel).2⟩) (fun hHeld => ?_)
          clear hK K
          refine norm_ (a' := ?_) ?_ ?_
          rotate_left
          · show Act.put _ (some 95) _ = _
            simp only [Act.put, sT, s0, s1, i64_w, i32_w]
            rfl
          obtain ⟨g3, k3, sp3, w18, hrun, hk3, hF⟩ := ul_step (g := g0) (k := 0) (l := []) (m := us) (sp := []) (a := ad) (c := c) (ty := 25) HF18.out rfl (uc_src (Kd.C_below HR.out HF18.out.bel)) (by have := HL8.out; simp only [List.length_nil]; omega)
          rw [List.nil_append] at hrun hF
          have HF19 := Aside0.mk hF
          clear hF HF18
          refine one_ (i := 2) (N := some 97) #[true, true, true, true, true, true, true, true, false, false] rfl rfl (one_of HT_.out (by kernel_rfl)) (by decide) (fun K hK => ?_)
          refine value_ (v := .slice (some ⟨g3, 0, none⟩) us.length (us.length + k3)) (w1 := w18) (by rfl) rfl (ul_event rfl rfl rfl ?hh) ?_
          case hh => exact hrun
          clear hrun
          refine hK.out _ _ ⟨(HX.out _ HF19.out.bel).1, (HX.out _ HF19.out.bel).2⟩ (fun hHeld => ?_)
          clear hK K
          refine norm_ (a' := ?_) ?_ ?_
          rotate_left
          · show Act.put _ (some 97) _ = _
            simp only [Act.put, sT, s0, s1, i64_w, i32_w]
            rfl
          exact norm_ (by first | (simp only [putAll, Act.put, sT, s0, s1]; done) | (simp only [putAll, Act.put, sT, s0, s1]; rfl)) (hJ (g0, g3, gu, k3, sp3) _ ⟨hk3, HF19.out⟩)
      rintro ⟨g0, g3, gu, k3, sp3⟩ w17 ⟨hk3, hF⟩
      clear HF16 hHeld
      have HF17 := Aside0.mk hF
      clear hF
      dsimp only at hk3 HF17
      refine norm_ (a' := ?_) ?_ ?_
      rotate_left
      · simp only [putAll, Act.put, sT, s0, s1]
        rfl
      obtain ⟨g4, k4, sp4, w18, hrun, hk4, hF⟩ := ul_step (g := g3) (k := k3) (l := us) (m := [⟨s, z⟩]) (sp := sp3) (a := ⟨gu, 0, none⟩) (c := 1) (ty := 25) HF17.out hk3 (fun j u hj => by rw [Addr.add_mid, Nat.zero_add]; exact (HF17.out.get 1 rfl).at_ hj) (by have := HL8.out; simp only [List.length_cons, List.length_nil]; omega)
      rw [HTE.out] at hrun hF
      have HF18 := Aside0.mk hF
      clear hF HF17
      refine one_ (i := 8) (N := some 103) #[true, true, true, true, true, true, true, true, true, false] rfl rfl (one_of HT_.out (by kernel_rfl)) (by decide) (fun K hK => ?_)
      refine value_ (v := .slice (some ⟨g4, 0, none⟩) tw.length (tw.length + k4)) (w1 := w18) (by rfl) rfl (ul_event rfl rfl rfl ?hh) ?_
      case hh => exact hrun
      clear hrun
      refine hK.out _ _ ⟨(HX.out _ HF18.out.bel).1, (HX.out _ HF18.out.bel).2⟩ (fun hHeld => ?_)
      clear hK K
      refine norm_ (a' := ?_) ?_ ?_
      rotate_left
      · show Act.put _ (some 103) _ = _
        simp only [Act.put, sT, s0, s1, i64_w, i32_w]
        rfl
      refine pure_ (i := 9) (N := some 18) (v := ?_) (a' := ?_) #[true, true, true, true, true, true, true, true, true, true] rfl rfl (any_of HT_.out (by kernel_rfl)) (fun _ _ _ h => h) (Or.inl ⟨by rfl, ?_⟩) ?_ ?_
      rotate_left
      · intro w'
        go_simp
        with_reducible rfl
      rotate_left
      · simp only [Act.put, sT, s0, s1, i64_w, i32_w]
        rfl
      refine done_ (done_of HT_.out (by kernel_rfl)) ?_
      clear hHeld
      go_upto_region 17 with (fail)
      have HFX := Aside0.mk (show Fam w [(g4, 54, uc tw ++ sp4), (gu, 54, [.string s, .string z]), (g2, 54, uc le ++ sp2)] _ from HF18.out)
      clear HF18
      have htt : (tb == tb) = true := beq_self_eq_true tb
      go_wp2_with (first
        | (have hq_ := HFX; clear hq_; go_at_call 19; refine (Users_calls le (some ⟨g2, 0, none⟩) (le.length + k2) _ (ul_C (HFX.out.get 2 rfl) (by have := HLEL.out; omega)) (Nat.le_add_right _ _)).mono ?_; rintro e w19 ⟨rfl, hb⟩; rw [HLS'.out.1]; have HF19 := Aside0.mk (HFX.out.keep hb); clear hb HFX; obtain ⟨hx0, hx1⟩ := HX.out _ HF19.out.bel)
        | (have hq_ := HF19; clear hq_; go_at_call 19; refine (Users_calls tw (some ⟨g4, 0, none⟩) (tw.length + k4) _ (ul_C (HF19.out.get 0 rfl) (by have := HTL.out; omega)) (Nat.le_add_right _ _)).mono ?_; rintro e w20 ⟨rfl, hb⟩; rw [HTW'.out]; have HF20 := Aside0.mk (HF19.out.keep hb); clear hb HF19 hx0 hx1))
      go_ret
      exact ⟨rfl, HF20.out.bel⟩
end Go.Proofs.Ytpbkdphilcodmaa.Q
