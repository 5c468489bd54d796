/- portreevelaw15.ChapGood: its walk. -/
import Derived.Test.YtpbkdphilcodmaaRefD
import Derived.Test.YtpbkdphilcodmaaWTab
namespace Go.Proofs.Ytpbkdphilcodmaa.Q
open Go Go.RowKit Go.Proofs.YtpbkdphilcodmaaW.PrintWords Go.Proofs.YtpbkdphilcodmaaW.PrintLast Go.Proofs.YtpbkdphilcodmaaW.PrintMore
open Go.Proofs.YtpbkdphilcodmaaV Go.Proofs.Ytpbkdphilcodmaa.Pure
set_option linter.unusedVariables false
set_option linter.unusedSimpArgs false
def lawGood.T7 : Bool × List (List Nat × List Nat) := (true, [([], []), ([], []), ([], []), ([2], [2]), ([], []), ([], []), ([5], [5]), ([6], [6]), ([4, 7], [4, 7]), ([3, 8], [3, 8]), ([0, 1, 9, 8], [0, 1, 9]), ([10], [10]), ([11], [11]), ([11], [11]), ([11], [11]), ([12, 10, 0, 1, 2, 3, 4, 5, 6, 7, 8, 9, 10, 11, 12], [12]), ([13, 15, 0, 1, 2, 3, 4, 5, 6, 7, 8, 9, 10, 11, 12, 13, 15], [13]), ([14, 16, 0, 1, 2, 3, 4, 5, 6, 7, 8, 9, 10, 11, 12, 13, 14, 15, 16], [14])])
def lawGood.B7 : List Nat := [0, 0, 0, 4, 0, 0, 32, 96, 240, 508, 1023, 2047, 4095, 4095, 4095, 8191, 49151, 131071]
theorem lawGood.tab7 : rtab .any (opsOf Try.f8 7) = lawGood.T7 := by kernel_rfl
theorem lawGood.bits7 : waitsOk lawGood.T7.2 lawGood.B7 = true := by kernel_rfl
def lawGood.T8 : Bool × List (List Nat × List Nat) := (true, [([], []), ([0], [0]), ([1], [1]), ([1], [1]), ([3, 1], [1, 3]), ([2, 4, 1], [1, 2, 4]), ([1, 5], [1, 5]), ([6, 1], [6]), ([7], [7]), ([7, 8], [7, 8]), ([9, 7], [9]), ([10], [10]), ([10, 11], [10, 11]), ([12, 10], [12]), ([13], [13]), ([13], [13]), ([15, 13], [13, 15]), ([13], [13]), ([17, 13], [13, 17]), ([13], [13]), ([19, 13], [13, 19]), ([16, 18, 20, 13, 13], [13, 16, 18, 20]), ([14, 21, 13], [13, 14, 21]), ([13, 22], [13, 22]), ([23, 21, 0, 1, 2, 3, 4, 5, 6, 7, 8, 9, 10, 11, 12, 13, 14, 15, 16, 17, 18, 19, 20, 21, 22, 23], [23])])
def lawGood.B8 : List Nat := [0, 1, 3, 3, 11, 31, 63, 127, 255, 511, 1023, 2047, 4095, 8191, 16383, 16383, 49151, 16383, 147455, 16383, 540671, 2080767, 4194303, 8388607, 16777215]
theorem lawGood.tab8 : rtab .any (opsOf Try.f8 8) = lawGood.T8 := by kernel_rfl
theorem lawGood.bits8 : waitsOk lawGood.T8.2 lawGood.B8 = true := by kernel_rfl
theorem ix_of {us : List S54} : ∀ {i : Nat} {u : S54}, (us.map (·.f0)).Nodup → us[i]? = some u → ixU u.f0 us = some i := by
  induction us with
  | nil => intro i u _ h; simp at h
  | cons x us ih =>
    intro i u hn h
    rw [List.map_cons, List.nodup_cons] at hn
    cases i with
    | zero =>
      obtain rfl : x = u := by simpa using h
      rw [ixU, if_pos rfl]
    | succ i =>
      have h' : us[i]? = some u := by simpa using h
      have hx : ¬ x.f0.toList = u.f0.toList := fun he => hn.1 (by rw [toList_inj.1 he]; exact List.mem_map.2 ⟨u, List.mem_of_getElem? h', rfl⟩)
      rw [ixU, if_neg hx, ih hn.2 h']
      rfl
theorem sec_of {us : List S54} {i : Nat} {u : S54} (hn : (us.map (·.f0)).Nodup) (h : us[i]? = some u) : secB u.f0 us = true ∧ secS u.f0 us = u.f1 := by
  have hi := ix_of hn h
  unfold secB secS
  rw [hi]
  refine ⟨rfl, ?_⟩
  have hlt := (List.getElem?_eq_some_iff.1 h).1
  have := at_U hlt
  rw [h] at this
  show (rd_T54 us (i : Int)).f1 = u.f1
  rw [← Option.some.inj this]
set_option maxHeartbeats 16000000 in
set_option maxRecDepth 100000 in
theorem Good_calls (a : Au) (ha : a.good) (us : List S54) (A : Option Addr) (c : Nat) (n : Int) (hn : 0 ≤ n ∧ n ≤ 255) (w : World) (hr : Kd.C k54 w A us.length us) (hc : us.length ≤ c) :
    Calls Try.prog 8 #[.agg a.cells.toArray, .slice A us.length c, .int .u8 n] w fun e w' => e = .returned (.bool true) ∧ Below w.heap.size w w' := by
  obtain ⟨k, rfl⟩ : ∃ k : Nat, n = (k : Int) := ⟨n.toNat, by omega⟩
  have hk : k ≤ 255 := by omega
  have hl64 := hr.2.1
  have HA := Aside0.mk ha
  have HR := Aside0.mk hr
  have HC := Aside0.mk hc
  clear ha hr hc hn
  obtain ⟨cs, hcs⟩ : ∃ cs, cs = a.cells.toArray := ⟨_, rfl⟩
  rw [← hcs]
  have HCS := Aside0.mk hcs
  obtain ⟨rg, hrg⟩ : ∃ rg, rgt a = rg := ⟨_, rfl⟩
  obtain ⟨ug, hug⟩ : ∃ ug, usr us = ug := ⟨_, rfl⟩
  have HRG := Aside0.mk hrg
  have HUG := Aside0.mk hug
  clear hcs hrg hug
  go_enter Try.func8, Try.ntmps8
  go_upto_region 2 with (first
    | ((with_reducible refine gate_dst (N := 3) rfl ?_); refine box_event ?hg (N := 3) ?hd (cs := cs) (t := 24) ?hr ?_; (case hd => rfl); (case hg => rfl); (case hr => first | (go_simp; done) | (go_simp; rfl)); intro g3 hg w1 hbox hb; rw [HCS.out] at hbox; have HF1 := Aside0.mk (show Fam w [(g3, 24, a.cells)] w1 from (Fam.start (Below.refl _ _)).box hg hbox hb); clear hbox hb hg)
    | (go_at_call 9; refine (shown_calls _).mono ?_; rintro e w3 ⟨rfl, hb⟩; have HF3 := Aside0.mk (HF1.out.keep hb); clear HF1 hb))
  cases rg with
  | false =>
    go_wp2_with (first
      | ((with_reducible refine wpList_load_mid rfl 24 (.tmp 3) rfl g3 0 ?hx (a.cells) _ ?hc Try.underlying24 rfl ?hi ?_); (case hx => rfl); (case hc => exact (HF3.out.get 0 rfl).whole); (case hi => exact i24 HA.out.wf))
      | (go_at_call 10; refine (Right15_calls a HA.out.wf _).mono ?_; rintro e w4 ⟨rfl, hb⟩; rw [HRG.out]; have HF4 := Aside0.mk (HF3.out.keep hb); clear HF3 hb))
    go_ret
    exact ⟨rfl, HF4.out.bel⟩
  | true =>
  cases ug with
  | false =>
    go_wp2_with (first
      | ((with_reducible refine wpList_load_mid rfl 24 (.tmp 3) rfl g3 0 ?hx (a.cells) _ ?hc Try.underlying24 rfl ?hi ?_); (case hx => rfl); (case hc => exact (HF3.out.get 0 rfl).whole); (case hi => exact i24 HA.out.wf))
      | (go_at_call 10; refine (Right15_calls a HA.out.wf _).mono ?_; rintro e w4 ⟨rfl, hb⟩; rw [HRG.out]; have HF4 := Aside0.mk (HF3.out.keep hb); clear HF3 hb)
      | (go_at_call 11; refine (Users15_calls us A c _ (Kd.C_below HR.out HF4.out.bel) HC.out).mono ?_; rintro e w5 ⟨rfl, hb⟩; rw [HUG.out]; have HF5 := Aside0.mk (HF4.out.keep hb); clear HF4 hb))
    go_ret
    exact ⟨rfl, HF5.out.bel⟩
  | true =>
  have HS := Aside0.mk (secS_short HUG.out)
  have hl00 := hl64
  clear hl00
  by_cases hl0 : us.length = 0
  · have HU15 : Aside0 (∀ W, Kd.C k54 W A us.length us → Calls Try.prog 11 #[.slice A 0 c] W fun e w' => e = .returned (.bool (usr us)) ∧ Below W.heap.size W w') := ⟨fun W h => by have h1 := Users15_calls us A c W h HC.out; rwa [hl0] at h1⟩
    go_wp2_with (first
      | ((with_reducible refine wpList_load_mid rfl 24 (.tmp 3) rfl g3 0 ?hx (a.cells) _ ?hc Try.underlying24 rfl ?hi ?_); (case hx => rfl); (case hc => exact (HF3.out.get 0 rfl).whole); (case hi => exact i24 HA.out.wf))
      | (go_at_call 10; refine (Right15_calls a HA.out.wf _).mono ?_; rintro e w4 ⟨rfl, hb⟩; rw [HRG.out]; have HF4 := Aside0.mk (HF3.out.keep hb); clear HF3 hb)
      | (go_at_call 11; refine (HU15.out _ (Kd.C_below HR.out HF4.out.bel)).mono ?_; rintro e w5 ⟨rfl, hb⟩; rw [HUG.out]; have HF5 := Aside0.mk (HF4.out.keep hb); clear HF4 hb))
    go_ret
    exact ⟨rfl, HF5.out.bel⟩
  have hl0' : ((us.length : Int) == 0) = false := beq_eq_false_iff_ne.mpr (by omega)
  go_upto_if 32 with (first
    | ((with_reducible refine wpList_load_mid rfl 24 (.tmp 3) rfl g3 0 ?hx (a.cells) _ ?hc Try.underlying24 rfl ?hi ?_); (case hx => rfl); (case hc => exact (HF3.out.get 0 rfl).whole); (case hi => exact i24 HA.out.wf))
    | (go_at_call 10; refine (Right15_calls a HA.out.wf _).mono ?_; rintro e w4 ⟨rfl, hb⟩; rw [HRG.out]; have HF4 := Aside0.mk (HF3.out.keep hb); clear HF3 hb)
    | (go_at_call 11; refine (Users15_calls us A c _ (Kd.C_below HR.out HF4.out.bel) HC.out).mono ?_; rintro e w5 ⟨rfl, hb⟩; rw [HUG.out]; have HF5 := Aside0.mk (HF4.out.keep hb); have hc0 : w5.cell? ⟨g3, 0, none⟩ = some (.int .i64 a.st) := Au.at0 (HF5.out.get 0 rfl); clear HF4 hb))
  clear hc0
  by_cases hst : a.st = 1
  · skip
    have f1 : (a.st != 1) = false := bne_eq_false_iff_eq.mpr hst
    have HST := Aside0.mk hst
    obtain ⟨i, hi⟩ : ∃ i, k % us.length = i := ⟨_, rfl⟩
    have hlt : i < us.length := by rw [← hi]; exact Nat.mod_lt _ (by omega)
    have hrem : Int.tmod (k : Int) (us.length : Int) = (i : Int) := by rw [Int.tmod_eq_emod_of_nonneg (by omega)]; omega
    have hltI : (i : Int) < (us.length : Int) := by omega
    obtain ⟨ad, rfl, hx0, hx1⟩ := at_T54 (Kd.C_below HR.out HF5.out.bel) (i : Int) (by omega) hltI
    rw [Int.toNat_natCast] at hx0 hx1
    have hat := at_U hlt
    obtain ⟨u, hu⟩ : ∃ u, rd_T54 us (i : Int) = u := ⟨_, rfl⟩
    rw [hu] at hx0 hx1 hat
    clear hu
    have hup := (of_decide_eq_true HUG.out).1
    have hso := sec_of hup.1 hat
    have huo := hup.2 u (List.mem_of_getElem? hat)
    obtain ⟨s, z⟩ := u
    have HSO := Aside0.mk hso
    have HSZ0 := Aside0.mk (show 1 ≤ s.size ∧ s.size ≤ 16 from ⟨huo.1, huo.2.1⟩)
    have HSZ1 := Aside0.mk (show z.size ≤ 4000 by have := huo.2.2.2; show z.size ≤ 4000; simp only at this; omega)
    clear hat hup hso huo hst hi
    obtain ⟨d, hd⟩ : ∃ d, digS a z = d := ⟨_, rfl⟩
    have HD := Aside0.mk hd
    have HDL := Aside0.mk (show d.length = 16 from hd ▸ digS_length _ _)
    clear hd
    obtain ⟨q, hq⟩ : ∃ q, [16] ++ d = q := ⟨_, rfl⟩
    obtain ⟨q2, hq2⟩ : ∃ q2, q ++ nums s = q2 := ⟨_, rfl⟩
    have HQ := Aside0.mk hq
    have HQ2 := Aside0.mk hq2
    have HQL := Aside0.mk (show q.length = 17 by rw [← hq, List.length_append, HDL.out]; rfl)
    have hqq : [16] ++ d ++ nums s = q2 := by rw [hq, hq2]
    have hB : ansB 2 q2 = true := by rw [← hqq, read_B 2 s HDL.out]; exact decide_eq_true ⟨rfl, HSZ0.out.1, HSZ0.out.2⟩
    have hT : ansN 2 q2 = s ∧ ansV 2 q2 = d := by rw [← hqq]; exact read_T 2 s HDL.out (by rw [hqq]; exact hB)
    have hjc : judC a 2 a.id q2 = true := by unfold judC; rw [hB, decide_eq_true HST.out, decide_eq_true rfl]; rfl
    have hjg : judG a us 2 q2 = true := by unfold judG; rw [hT.1, hT.2, HSO.out.1, HSO.out.2, HD.out, decide_eq_true rfl]; rfl
    have HJ1 := Aside0.mk (show judN a 2 a.id q2 = s by unfold judN; rw [hjc, if_pos rfl]; exact hT.1)
    have HJ2 := Aside0.mk (show (judC a 2 a.id q2 && judG a us 2 q2) = true by rw [hjc, hjg]; rfl)
    have HJ3 := Aside0.mk hjc
    have HEQ := Aside0.mk (show EqR 22 (.agg (ints d).toArray) (.agg (ints d).toArray) true by have h := eqR_ints HDL.out HDL.out; rw [decide_eq_true rfl] at h; exact h)
    have HNIL := Aside0.mk (show (ints no16).length = (ints d).length by rw [ints_length, ints_length, HDL.out]; rfl)
    clear hq hq2 hqq hB hT hjc hjg
    go_upto_region 5 with (first
      | ((with_reducible refine gate_dst (N := 8) rfl ?_); refine box_event ?hg (N := 8) ?hd (cs := #[.string ⟨#[]⟩, .string ⟨#[]⟩]) (t := 54) ?hr ?_; (case hd => rfl); (case hg => rfl); (case hr => first | (go_simp; done) | (go_simp; rfl)); intro g8 hg w6 hbox hb; have HF6 := Aside0.mk (show Fam w [(g8, 54, [.string ⟨#[]⟩, .string ⟨#[]⟩]), (g3, 24, a.cells)] w6 from HF5.out.box hg hbox hb); clear hbox hb hg HF5)
      | ((with_reducible refine wpList_store_mid rfl 54 (.tmp 8) (.tmp 41) rfl g8 0 ([.string s, .string z]).toArray ?hx ?hy ?h5 ?h6 ?h7 ?_); (case hx => rfl); (case hy => rfl); (case h5 => exact (HF6.out.get 0 rfl).there (by rw [List.size_toArray, Nat.zero_add]; exact Nat.le_of_eq (Eq.symm (rfl)))); (case h6 => exact by kernel_rfl); (case h7 => exact by simp [Value.oneCell']); have HF7 := Aside0.mk (HF6.out.over 0 rfl ([.string s, .string z]) (rfl)); clear HF6))
    clear hx0 hx1
    have HF8 := Aside0.mk (show Fam w [(g8, 54, [.string s, .string z]), (g3, 24, a.cells)] _ from HF7.out)
    clear HF7
    generalize World.setCells _ _ _ _ = w7 at HF8 ⊢
    have hz1 : w7.cell? ⟨g8, 1, none⟩ = some (.string z) := (HF8.out.get 0 rfl).at_ rfl
    have hid : w7.cell? ⟨g3, 3, none⟩ = some (.int .u8 a.id) := Au.at3 (HF8.out.get 1 rfl)
    go_upto_region 6 with (first
      | ((with_reducible refine wpList_load_mid rfl 22 (.tmp 46) rfl g3 4 ?hx (ints a.val) _ ?hc Try.underlying22 rfl ?hi ?_); (case hx => rfl); (case hc => exact Au.atVal (HF8.out.get 1 rfl)); (case hi => exact i22 HA.out.wf.val))
      | (go_at_call 21; refine (Digest_calls a.id z a.val HA.out.wf.val HSZ1.out _).mono ?_; rintro e w8 ⟨rfl, hb⟩; rw [show digL (a.id :: (nums z ++ a.val)) = d from HD.out]; have HF9 := Aside0.mk (HF8.out.keep hb); clear HF8 hb hz1 hid)
      | ((with_reducible refine gate_dst (N := 9) rfl ?_); refine box_event ?hg (N := 9) ?hd (cs := (ints no16).toArray) (t := 22) ?hr ?_; (case hd => rfl); (case hg => rfl); (case hr => first | (go_simp; done) | (go_simp; rfl)); intro g9 hg w9 hbox hb; have HF10 := Aside0.mk (show Fam w [(g9, 22, ints no16), (g8, 54, [.string s, .string z]), (g3, 24, a.cells)] w9 from HF9.out.box hg hbox hb); clear hbox hb hg HF9)
      | ((with_reducible refine wpList_store_mid rfl 22 (.tmp 9) (.tmp 48) rfl g9 0 (ints d).toArray ?hx ?hy ?h5 ?h6 ?h7 ?_); (case hx => rfl); (case hy => rfl); (case h5 => exact (HF10.out.get 0 rfl).there (by rw [List.size_toArray, Nat.zero_add]; exact Nat.le_of_eq (Eq.symm (HNIL.out)))); (case h6 => exact i22 HDL.out); (case h7 => exact ints_one _); have HF11 := Aside0.mk (HF10.out.over 0 rfl (ints d) (HNIL.out)); clear HF10))
    have HF12 := Aside0.mk (show Fam w [(g9, 22, ints d), (g8, 54, [.string s, .string z]), (g3, 24, a.cells)] _ from HF11.out)
    clear HF11
    generalize World.setCells _ _ _ _ = w10 at HF12 ⊢
    go_upto_region 7 with (first
      | ((with_reducible refine gate_dst (N := 49) rfl ?_); refine Kd.event_run (v := .slice (some ⟨w10.heap.size, 0, none⟩) 1 1) (w1 := w10.alloc (.cells (ints [16]).toArray 5)) rfl ?hr ?_; (case hr => first | (go_simp; done) | (go_simp; rfl)); have HF13 := Aside0.mk (HF12.out.alloc (.cells (ints [16]).toArray 5)); have HSS := Aside0.mk (Blk.new (w := w10) (t := 5) (cs := ints [16])); clear HF12)
      | ((with_reducible refine gate_dst (N := 51) rfl ?_); obtain ⟨g5, sp1, w11, hrun, hF, _⟩ := app_grow (g := w10.heap.size) (a := ⟨g9, 0, none⟩) (cap := 1) (l := [16]) (m := d) (sp := []) (c := 16) (ty := 26) HF13.out (by rw [List.append_nil]; exact HSS.out) (fun j u hj => by rw [Addr.add_mid, Nat.zero_add]; exact (HF13.out.get 0 rfl).at_ hj) (by rw [HDL.out]; decide) (by rw [HDL.out]; decide); rw [HQ.out, HDL.out] at hrun; rw [HQ.out] at hF; refine Kd.event_run (v := .slice (some ⟨g5, 0, none⟩) q.length (q.length + sp1.length)) (w1 := w11) rfl (app_event rfl rfl rfl ?hh) ?_; (case hh => exact hrun); have HF20 := Aside0.mk hF; clear hrun hF HF13 HSS))
    refine start_ (n := 18) (S := fun w' => Blk w' g3 24 a.cells ∧ Blk w' g8 54 [.string s, .string z]) (ds := []) #[false, false, false, false, false, false, false, false, false, false, false, false, false, false, false, false, false, false] (by kernel_rfl) rfl rfl ⟨(HF20.out.get 3 rfl).drew, (HF20.out.get 2 rfl).drew⟩ (fun hHeld => ?_)
    refine with_tabW lawGood.tab7 lawGood.bits7 (fun HT_ HW_ => ?_)
    have HF21 := Aside0.mk HF20.out.drew
    clear HF20
    generalize World.drew _ = w11 at HF21 hHeld ⊢
    refine take_ (i := 0) (N := some 53) (v := .agg a.cells.toArray) (a' := ?_) #[true, false, false, false, false, false, false, false, false, false, false, false, false, false, false, false, false, false] rfl rfl (take_ofW HT_.out HW_.out (by kernel_rfl)) (fun _ _ _ h => h) (yieldsIf_load_mid (by rfl) 24 (.tmp 3) rfl g3 0 rfl _ _ (fun w' h => h.1.whole) Try.underlying24 rfl (i24 HA.out.wf)) hHeld ?_ ?_
    rotate_left
    · simp only [Act.put, sT, s0, s1]
      rfl
    refine pure_ (i := 1) (N := some 54) (v := ?_) (a' := ?_) #[true, true, false, false, false, false, false, false, false, false, false, false, false, false, false, false, false, false] rfl rfl (any_of HT_.out (by kernel_rfl)) (fun _ _ _ h => h) (Or.inl ⟨by rfl, ?_⟩) ?_ ?_
    rotate_left
    · intro w'
      go_simp
      with_reducible rfl
    rotate_left
    · simp only [Act.put, sT, s0, s1, i64_w, i32_w]
      rfl
    refine pure_ (i := 2) (N := some 55) (v := ?_) (a' := ?_) #[true, true, true, false, false, false, false, false, false, false, false, false, false, false, false, false, false, false] rfl rfl (any_of HT_.out (by kernel_rfl)) (fun _ _ _ h => h) (Or.inl ⟨by rfl, ?_⟩) ?_ ?_
    rotate_left
    · intro w'
      go_simp
      with_reducible rfl
    rotate_left
    · simp only [Act.put, sT, s0, s1, i64_w, i32_w]
      rfl
    refine take_ (i := 3) (N := some 56) (v := ?_) (a' := ?_) #[true, true, true, true, false, false, false, false, false, false, false, false, false, false, false, false, false, false] rfl rfl (take_ofW HT_.out HW_.out (by kernel_rfl)) (fun _ _ _ h => h) (Or.inl ⟨by rfl, ?_⟩) hHeld ?_ ?_
    rotate_left
    · intro w' h
      have hc_ := Au.at3 h.1
      go_simp
      with_reducible rfl
    rotate_left
    · simp only [Act.put, sT, s0, s1]
      rfl
    refine pure_ (i := 4) (N := some 57) (v := ?_) (a' := ?_) #[true, true, true, true, true, false, false, false, false, false, false, false, false, false, false, false, false, false] rfl rfl (any_of HT_.out (by kernel_rfl)) (fun _ _ _ h => h) (Or.inl ⟨by rfl, ?_⟩) ?_ ?_
    rotate_left
    · intro w'
      go_simp
      with_reducible rfl
    rotate_left
    · simp only [Act.put, sT, s0, s1, i64_w, i32_w]
      rfl
    refine pure_ (i := 5) (N := some 58) (v := ?_) (a' := ?_) #[true, true, true, true, true, true, false, false, false, false, false, false, false, false, false, false, false, false] rfl rfl (any_of HT_.out (by kernel_rfl)) (fun _ _ _ h => h) (Or.inl ⟨by rfl, ?_⟩) ?_ ?_
    rotate_left
    · intro w'
      go_simp
      with_reducible rfl
    rotate_left
    · simp only [Act.put, sT, s0, s1, i64_w, i32_w]
      rfl
    refine take_ (i := 6) (N := some 59) (v := ?_) (a' := ?_) #[true, true, true, true, true, true, true, false, false, false, false, false, false, false, false, false, false, false] rfl rfl (take_ofW HT_.out HW_.out (by kernel_rfl)) (fun _ _ _ h => h) (Or.inl ⟨by rfl, ?_⟩) hHeld ?_ ?_
    rotate_left
    · intro w' h
      have hc_ := h.2.at_ (i := 0) rfl
      go_simp
      with_reducible rfl
    rotate_left
    · simp only [Act.put, sT, s0, s1]
      rfl
    obtain ⟨c60, w12, hrun, k60, hC60, hb⟩ := str_run w11 s (by have := HSZ0.out; omega)
    have HC60 := Aside0.mk hC60
    clear k60 hC60
    refine one_ (i := 7) (N := some 60) #[true, true, true, true, true, true, true, true, false, false, false, false, false, false, false, false, false, false] rfl rfl (one_of HT_.out (by kernel_rfl)) (by decide) (fun K hK => ?_)
    refine value_ (by rfl) rfl (conv_event (x := .tmp 59) rfl rfl hrun) ?_
    have HF22 := Aside0.mk (HF21.out.keep hb)
    clear hrun hb HF21
    refine hK.out _ _ (⟨(HF22.out.get 3 rfl), (HF22.out.get 2 rfl)⟩) (fun hHeld => ?_)
    clear hK K
    refine norm_ (a' := ?_) ?_ ?_
    rotate_left
    · show Act.put _ (some 60) _ = _
      simp only [Act.put, sT, s0, s1, i64_w, i32_w]
      rfl
    obtain ⟨A61, c61, sp2, w13, hrun, hc61, hC61, hsp2, hF, _⟩ := app_keep (i := 0) (g := g5) (a := ⟨w11.heap.size, 0, none⟩) (l := q) (m := nums s) (sp := sp1) (c := c60) (ty := 26) HF22.out rfl (cells_C HC60.out) (by rw [HQL.out, nums_length]; have := HSZ0.out; omega)
    have HF23 := Aside0.mk (show Fam w [(g5, 5, ints q ++ sp2), (g9, 22, ints d), (g8, 54, [.string s, .string z]), (g3, 24, a.cells)] _ from hF)
    rw [HQ2.out, nums_length] at hrun
    rw [HQ2.out] at hc61 hC61
    have HC61 := Aside0.mk hC61
    have HK61 := Aside0.mk hc61
    clear hC61 hc61 hsp2 hF HF22 HC60
    refine one_ (i := 8) (N := some 61) #[true, true, true, true, true, true, true, true, true, false, false, false, false, false, false, false, false, false] rfl rfl (one_of HT_.out (by kernel_rfl)) (by decide) (fun K hK => ?_)
    refine value_ (v := .slice A61 q2.length c61) (w1 := w13) (by rfl) rfl (app_event rfl rfl rfl ?hh) ?_
    case hh => exact hrun
    clear hrun
    refine hK.out _ _ ⟨(HF23.out.get 3 rfl), (HF23.out.get 2 rfl)⟩ (fun hHeld => ?_)
    clear hK K
    refine norm_ (a' := ?_) ?_ ?_
    rotate_left
    · show Act.put _ (some 61) _ = _
      simp only [Act.put, sT, s0, s1, i64_w, i32_w]
      rfl
    refine pure_ (i := 9) (N := some 62) (v := ?_) (a' := ?_) #[true, true, true, true, true, true, true, true, true, true, false, false, false, false, false, false, false, false] rfl rfl (any_of HT_.out (by kernel_rfl)) (fun _ _ _ h => h) (Or.inl ⟨by rfl, ?_⟩) ?_ ?_
    rotate_left
    · intro w'
      go_simp
      with_reducible rfl
    rotate_left
    · simp only [Act.put, sT, s0, s1, i64_w, i32_w]
      rfl
    refine one_ (i := 10) (N := some 63) #[true, true, true, true, true, true, true, true, true, true, true, false, false, false, false, false, false, false] rfl rfl (one_of HT_.out (by kernel_rfl)) (by decide) (fun K hK => ?_)
    refine goes_ Try.func12 (by kernel_rfl) rfl #[.agg a.cells.toArray, .slice (some ad) us.length c, .agg (pk 2 a.id (.slice A61 q2.length c61)).toArray] (by rfl) rfl rfl (by (try simp only [List.map_toArray, List.map_cons, List.map_nil]); first | done | rfl) ?_
    refine (Judge_calls a HA.out.wf us (some ad) c 2 a.id A61 c61 q2 HS.out _ (Kd.C_below HR.out HF23.out.bel) HC.out HC61.out HK61.out).mono ?_
    rintro e w14 ⟨rfl, hb⟩
    rw [HJ1.out, HJ2.out, HJ3.out]
    refine ⟨_, rfl, ?_⟩
    have HF24 := Aside0.mk (HF23.out.keep hb)
    clear HF23 hb HC61 HK61
    refine hK.out _ _ ⟨(HF24.out.get 3 rfl), (HF24.out.get 2 rfl)⟩ (fun hHeld => ?_)
    clear hK K
    refine norm_ (a' := ?_) ?_ ?_
    rotate_left
    · show Act.put _ (some 63) _ = _
      simp only [Act.put, sT, s0, s1, i64_w, i32_w]
      rfl
    refine pure_ (i := 11) (N := some 52) (v := ?_) (a' := ?_) #[true, true, true, true, true, true, true, true, true, true, true, true, false, false, false, false, false, false] rfl rfl (any_of HT_.out (by kernel_rfl)) (fun _ _ _ h => h) (Or.inl ⟨by rfl, ?_⟩) ?_ ?_
    rotate_left
    · intro w'
      go_simp
      with_reducible rfl
    rotate_left
    · simp only [Act.put, sT, s0, s1, i64_w, i32_w]
      rfl
    refine pure_ (i := 12) (N := some 64) (v := ?_) (a' := ?_) #[true, true, true, true, true, true, true, true, true, true, true, true, true, false, false, false, false, false] rfl rfl (any_of HT_.out (by kernel_rfl)) (fun _ _ _ h => h) (Or.inl ⟨by rfl, ?_⟩) ?_ ?_
    rotate_left
    · intro w'
      go_simp
      with_reducible rfl
    rotate_left
    · simp only [Act.put, sT, s0, s1, i64_w, i32_w]
      rfl
    refine pure_ (i := 13) (N := some 65) (v := ?_) (a' := ?_) #[true, true, true, true, true, true, true, true, true, true, true, true, true, true, false, false, false, false] rfl rfl (any_of HT_.out (by kernel_rfl)) (fun _ _ _ h => h) (Or.inl ⟨by rfl, ?_⟩) ?_ ?_
    rotate_left
    · intro w'
      go_simp
      with_reducible rfl
    rotate_left
    · simp only [Act.put, sT, s0, s1, i64_w, i32_w]
      rfl
    refine pure_ (i := 14) (N := some 66) (v := ?_) (a' := ?_) #[true, true, true, true, true, true, true, true, true, true, true, true, true, true, true, false, false, false] rfl rfl (any_of HT_.out (by kernel_rfl)) (fun _ _ _ h => h) (Or.inl ⟨by rfl, ?_⟩) ?_ ?_
    rotate_left
    · intro w'
      go_simp
      with_reducible rfl
    rotate_left
    · simp only [Act.put, sT, s0, s1, i64_w, i32_w]
      rfl
    refine pure_ (i := 15) (N := some 11) (v := ?_) (a' := ?_) #[true, true, true, true, true, true, true, true, true, true, true, true, true, true, true, true, false, false] rfl rfl (any_of HT_.out (by kernel_rfl)) (fun _ _ _ h => h) (Or.inl ⟨by rfl, ?_⟩) ?_ ?_
    rotate_left
    · intro w'
      go_simp
      with_reducible rfl
    rotate_left
    · simp only [Act.put, sT, s0, s1, i64_w, i32_w]
      rfl
    refine pure_ (i := 16) (N := some 12) (v := ?_) (a' := ?_) #[true, true, true, true, true, true, true, true, true, true, true, true, true, true, true, true, true, false] rfl rfl (any_of HT_.out (by kernel_rfl)) (fun _ _ _ h => h) (Or.inl ⟨by rfl, ?_⟩) ?_ ?_
    rotate_left
    · intro w'
      go_simp
      with_reducible rfl
    rotate_left
    · simp only [Act.put, sT, s0, s1, i64_w, i32_w]
      rfl
    refine pure_ (i := 17) (N := some 13) (v := ?_) (a' := ?_) #[true, true, true, true, true, true, true, true, true, true, true, true, true, true, true, true, true, true] rfl rfl (any_of HT_.out (by kernel_rfl)) (fun _ _ _ h => h) (Or.inl ⟨by rfl, ?_⟩) ?_ ?_
    rotate_left
    · intro w'
      go_simp
      with_reducible rfl
    rotate_left
    · simp only [Act.put, sT, s0, s1, i64_w, i32_w]
      rfl
    refine done_ (done_of HT_.out (by kernel_rfl)) ?_
    clear hHeld
    go_upto_region 8 with (fail)
    refine start_ (n := 25) (S := fun w' => Blk w' g3 24 a.cells ∧ Blk w' g8 54 [.string s, .string z] ∧ Blk w' g9 22 (ints d)) (ds := []) #[false, false, false, false, false, false, false, false, false, false, false, false, false, false, false, false, false, false, false, false, false, false, false, false, false] (by kernel_rfl) rfl rfl ⟨(HF24.out.get 3 rfl).drew, (HF24.out.get 2 rfl).drew, (HF24.out.get 1 rfl).drew⟩ (fun hHeld => ?_)
    refine with_tabW lawGood.tab8 lawGood.bits8 (fun HT_ HW_ => ?_)
    have HF25 := Aside0.mk HF24.out.drew
    clear HF24
    generalize World.drew _ = w15 at HF25 hHeld ⊢
    refine pure_ (i := 0) (N := some 67) (v := ?_) (a' := ?_) #[true, false, false, false, false, false, false, false, false, false, false, false, false, false, false, false, false, false, false, false, false, false, false, false, false] rfl rfl (any_of HT_.out (by kernel_rfl)) (fun _ _ _ h => h) (Or.inl ⟨by rfl, ?_⟩) ?_ ?_
    rotate_left
    · intro w'
      go_simp
      with_reducible rfl
    rotate_left
    · simp only [Act.put, sT, s0, s1, i64_w, i32_w]
      rfl
    refine pure_ (i := 1) (N := some 68) (v := ?_) (a' := ?_) #[true, true, false, false, false, false, false, false, false, false, false, false, false, false, false, false, false, false, false, false, false, false, false, false, false] rfl rfl (any_of HT_.out (by kernel_rfl)) (fun _ _ _ h => h) (Or.inl ⟨by rfl, ?_⟩) ?_ ?_
    rotate_left
    · intro w'
      go_simp
      with_reducible rfl
    rotate_left
    · simp only [Act.put, sT, s0, s1, i64_w, i32_w]
      rfl
    refine pure_ (i := 2) (N := some 69) (v := ?_) (a' := ?_) #[true, true, true, false, false, false, false, false, false, false, false, false, false, false, false, false, false, false, false, false, false, false, false, false, false] rfl rfl (any_of HT_.out (by kernel_rfl)) (fun _ _ _ h => h) (Or.inl ⟨by rfl, ?_⟩) ?_ ?_
    rotate_left
    · intro w'
      go_simp
      with_reducible rfl
    rotate_left
    · simp only [Act.put, sT, s0, s1, i64_w, i32_w]
      rfl
    refine pure_ (i := 3) (N := some 70) (v := ?_) (a' := ?_) #[true, true, true, true, false, false, false, false, false, false, false, false, false, false, false, false, false, false, false, false, false, false, false, false, false] rfl rfl (any_of HT_.out (by kernel_rfl)) (fun _ _ _ h => h) (Or.inl ⟨by rfl, ?_⟩) ?_ ?_
    rotate_left
    · intro w'
      go_simp
      with_reducible rfl
    rotate_left
    · simp only [Act.put, sT, s0, s1, i64_w, i32_w]
      rfl
    refine take_ (i := 4) (N := some 71) (v := ?_) (a' := ?_) #[true, true, true, true, true, false, false, false, false, false, false, false, false, false, false, false, false, false, false, false, false, false, false, false, false] rfl rfl (take_ofW HT_.out HW_.out (by kernel_rfl)) (fun _ _ _ h => h) (Or.inl ⟨by rfl, ?_⟩) hHeld ?_ ?_
    rotate_left
    · intro w' h
      have hc_ := h.2.1.at_ (i := 0) rfl
      go_simp
      with_reducible rfl
    rotate_left
    · simp only [Act.put, sT, s0, s1]
      rfl
    refine pure_ (i := 5) (N := some 72) (v := ?_) (a' := ?_) #[true, true, true, true, true, true, false, false, false, false, false, false, false, false, false, false, false, false, false, false, false, false, false, false, false] rfl rfl (any_of HT_.out (by kernel_rfl)) (fun _ _ _ h => h) (Or.inl ⟨by rfl, ?_⟩) ?_ ?_
    rotate_left
    · intro w'
      go_simp
      with_reducible rfl
    rotate_left
    · simp only [Act.put, sT, s0, s1, i64_w, i32_w]
      rfl
    refine pure_ (i := 6) (N := some 73) (v := ?_) (a' := ?_) #[true, true, true, true, true, true, true, false, false, false, false, false, false, false, false, false, false, false, false, false, false, false, false, false, false] rfl rfl (any_of HT_.out (by kernel_rfl)) (fun _ _ _ h => h) (Or.inl ⟨by rfl, ?_⟩) ?_ ?_
    rotate_left
    · intro w'
      go_simp
      with_reducible rfl
    rotate_left
    · simp only [Act.put, sT, s0, s1, i64_w, i32_w]
      rfl
    refine pure_ (i := 7) (N := some 74) (v := ?_) (a' := ?_) #[true, true, true, true, true, true, true, true, false, false, false, false, false, false, false, false, false, false, false, false, false, false, false, false, false] rfl rfl (any_of HT_.out (by kernel_rfl)) (fun _ _ _ h => h) (Or.inl ⟨by rfl, ?_⟩) ?_ ?_
    rotate_left
    · intro w'
      go_simp
      with_reducible rfl
    rotate_left
    · simp only [Act.put, sT, s0, s1, i64_w, i32_w]
      rfl
    refine pure_ (i := 8) (N := some 75) (v := ?_) (a' := ?_) #[true, true, true, true, true, true, true, true, true, false, false, false, false, false, false, false, false, false, false, false, false, false, false, false, false] rfl rfl (any_of HT_.out (by kernel_rfl)) (fun _ _ _ h => h) (Or.inl ⟨by rfl, ?_⟩) ?_ ?_
    rotate_left
    · intro w'
      go_simp
      with_reducible rfl
    rotate_left
    · simp only [Act.put, sT, s0, s1, i64_w, i32_w]
      rfl
    refine pure_ (i := 9) (N := some 76) (v := ?_) (a' := ?_) #[true, true, true, true, true, true, true, true, true, true, false, false, false, false, false, false, false, false, false, false, false, false, false, false, false] rfl rfl (any_of HT_.out (by kernel_rfl)) (fun _ _ _ h => h) (Or.inl ⟨by rfl, ?_⟩) ?_ ?_
    rotate_left
    · intro w'
      go_simp
      with_reducible rfl
    rotate_left
    · simp only [Act.put, sT, s0, s1, i64_w, i32_w]
      rfl
    refine pure_ (i := 10) (N := some 77) (v := ?_) (a' := ?_) #[true, true, true, true, true, true, true, true, true, true, true, false, false, false, false, false, false, false, false, false, false, false, false, false, false] rfl rfl (any_of HT_.out (by kernel_rfl)) (fun _ _ _ h => h) (Or.inl ⟨by rfl, ?_⟩) ?_ ?_
    rotate_left
    · intro w'
      go_simp
      with_reducible rfl
    rotate_left
    · simp only [Act.put, sT, s0, s1, i64_w, i32_w]
      rfl
    refine pure_ (i := 11) (N := some 78) (v := ?_) (a' := ?_) #[true, true, true, true, true, true, true, true, true, true, true, true, false, false, false, false, false, false, false, false, false, false, false, false, false] rfl rfl (any_of HT_.out (by kernel_rfl)) (fun _ _ _ h => h) (Or.inl ⟨by rfl, ?_⟩) ?_ ?_
    rotate_left
    · intro w'
      go_simp
      with_reducible rfl
    rotate_left
    · simp only [Act.put, sT, s0, s1, i64_w, i32_w]
      rfl
    refine pure_ (i := 12) (N := some 79) (v := ?_) (a' := ?_) #[true, true, true, true, true, true, true, true, true, true, true, true, true, false, false, false, false, false, false, false, false, false, false, false, false] rfl rfl (any_of HT_.out (by kernel_rfl)) (fun _ _ _ h => h) (Or.inl ⟨by rfl, ?_⟩) ?_ ?_
    rotate_left
    · intro w'
      go_simp
      with_reducible rfl
    rotate_left
    · simp only [Act.put, sT, s0, s1, i64_w, i32_w]
      rfl
    refine pure_ (i := 13) (N := some 80) (v := ?_) (a' := ?_) #[true, true, true, true, true, true, true, true, true, true, true, true, true, true, false, false, false, false, false, false, false, false, false, false, false] rfl rfl (any_of HT_.out (by kernel_rfl)) (fun _ _ _ h => h) (Or.inl ⟨by rfl, ?_⟩) ?_ ?_
    rotate_left
    · intro w'
      go_simp
      with_reducible rfl
    rotate_left
    · simp only [Act.put, sT, s0, s1, i64_w, i32_w]
      rfl
    refine take_ (i := 14) (N := some 81) (v := .agg (ints d).toArray) (a' := ?_) #[true, true, true, true, true, true, true, true, true, true, true, true, true, true, true, false, false, false, false, false, false, false, false, false, false] rfl rfl (take_ofW HT_.out HW_.out (by kernel_rfl)) (fun _ _ _ h => h) (yieldsIf_load_mid (by rfl) 22 (.tmp 9) rfl g9 0 rfl _ _ (fun w' h => h.2.2.whole) Try.underlying22 rfl (i22 HDL.out)) hHeld ?_ ?_
    rotate_left
    · simp only [Act.put, sT, s0, s1]
      rfl
    refine pure_ (i := 15) (N := some 82) (v := ?_) (a' := ?_) #[true, true, true, true, true, true, true, true, true, true, true, true, true, true, true, true, false, false, false, false, false, false, false, false, false] rfl rfl (any_of HT_.out (by kernel_rfl)) (fun _ _ _ h => h) (Or.inl ⟨by rfl, ?_⟩) ?_ ?_
    rotate_left
    · intro w'
      go_simp
      with_reducible rfl
    rotate_left
    · simp only [Act.put, sT, s0, s1, i64_w, i32_w]
      rfl
    refine take_ (i := 16) (N := some 83) (v := ?_) (a' := ?_) #[true, true, true, true, true, true, true, true, true, true, true, true, true, true, true, true, true, false, false, false, false, false, false, false, false] rfl rfl (take_ofW HT_.out HW_.out (by kernel_rfl)) (fun _ _ _ h => h) (Or.inl ⟨by rfl, ?_⟩) hHeld ?_ ?_
    rotate_left
    · intro w' h
      have hc_ := Au.at3 h.1
      go_simp
      with_reducible rfl
    rotate_left
    · simp only [Act.put, sT, s0, s1]
      rfl
    refine pure_ (i := 17) (N := some 84) (v := ?_) (a' := ?_) #[true, true, true, true, true, true, true, true, true, true, true, true, true, true, true, true, true, true, false, false, false, false, false, false, false] rfl rfl (any_of HT_.out (by kernel_rfl)) (fun _ _ _ h => h) (Or.inl ⟨by rfl, ?_⟩) ?_ ?_
    rotate_left
    · intro w'
      go_simp
      with_reducible rfl
    rotate_left
    · simp only [Act.put, sT, s0, s1, i64_w, i32_w]
      rfl
    refine take_ (i := 18) (N := some 85) (v := ?_) (a' := ?_) #[true, true, true, true, true, true, true, true, true, true, true, true, true, true, true, true, true, true, true, false, false, false, false, false, false] rfl rfl (take_ofW HT_.out HW_.out (by kernel_rfl)) (fun _ _ _ h => h) (Or.inl ⟨by rfl, ?_⟩) hHeld ?_ ?_
    rotate_left
    · intro w' h
      have hc_ := h.2.1.at_ (i := 1) rfl
      go_simp
      with_reducible rfl
    rotate_left
    · simp only [Act.put, sT, s0, s1]
      rfl
    refine pure_ (i := 19) (N := some 86) (v := ?_) (a' := ?_) #[true, true, true, true, true, true, true, true, true, true, true, true, true, true, true, true, true, true, true, true, false, false, false, false, false] rfl rfl (any_of HT_.out (by kernel_rfl)) (fun _ _ _ h => h) (Or.inl ⟨by rfl, ?_⟩) ?_ ?_
    rotate_left
    · intro w'
      go_simp
      with_reducible rfl
    rotate_left
    · simp only [Act.put, sT, s0, s1, i64_w, i32_w]
      rfl
    refine take_ (i := 20) (N := some 87) (v := .agg (ints a.val).toArray) (a' := ?_) #[true, true, true, true, true, true, true, true, true, true, true, true, true, true, true, true, true, true, true, true, true, false, false, false, false] rfl rfl (take_ofW HT_.out HW_.out (by kernel_rfl)) (fun _ _ _ h => h) (yieldsIf_load_mid (by rfl) 22 (.tmp 86) rfl g3 4 rfl _ _ (fun w' h => Au.atVal h.1) Try.underlying22 rfl (i22 HA.out.wf.val)) hHeld ?_ ?_
    rotate_left
    · simp only [Act.put, sT, s0, s1]
      rfl
    refine one_ (i := 21) (N := some 88) #[true, true, true, true, true, true, true, true, true, true, true, true, true, true, true, true, true, true, true, true, true, true, false, false, false] rfl rfl (one_of HT_.out (by kernel_rfl)) (by decide) (fun K hK => ?_)
    refine goes_ Try.func22 (by kernel_rfl) rfl #[.int .u8 a.id, .string z, .agg (ints a.val).toArray] (by rfl) rfl rfl (by (try simp only [List.map_toArray, List.map_cons, List.map_nil]); first | done | rfl) ?_
    refine (Digest15_calls a.id HA.out.id z a.val HA.out.wf.val HA.out.val HSZ1.out _).mono ?_
    rintro e w16 ⟨rfl, hb⟩
    rw [show digL (a.id :: (nums z ++ a.val)) = d from HD.out]
    refine ⟨_, rfl, ?_⟩
    have HF26 := Aside0.mk (HF25.out.keep hb)
    clear HF25 hb
    refine hK.out _ _ ⟨(HF26.out.get 3 rfl), (HF26.out.get 2 rfl), (HF26.out.get 1 rfl)⟩ (fun hHeld => ?_)
    clear hK K
    refine norm_ (a' := ?_) ?_ ?_
    rotate_left
    · show Act.put _ (some 88) _ = _
      simp only [Act.put, sT, s0, s1, i64_w, i32_w]
      rfl
    refine pure_ (i := 22) (N := some 89) (v := .bool true) (a' := ?_) #[true, true, true, true, true, true, true, true, true, true, true, true, true, true, true, true, true, true, true, true, true, true, true, false, false] rfl rfl (any_of HT_.out (by kernel_rfl)) (fun _ _ _ h => h) (Or.inl ⟨by rfl, ?_⟩) ?_ ?_
    · intro w'
      exact eql_yields rfl rfl rfl HEQ.out
    rotate_left
    · simp only [Act.put, sT, s0, s1]
      rfl
    refine pure_ (i := 23) (N := some 90) (v := ?_) (a' := ?_) #[true, true, true, true, true, true, true, true, true, true, true, true, true, true, true, true, true, true, true, true, true, true, true, true, false] rfl rfl (any_of HT_.out (by kernel_rfl)) (fun _ _ _ h => h) (Or.inl ⟨by rfl, ?_⟩) ?_ ?_
    rotate_left
    · intro w'
      go_simp
      with_reducible rfl
    rotate_left
    · simp only [Act.put, sT, s0, s1, i64_w, i32_w]
      rfl
    refine pure_ (i := 24) (N := some 6) (v := ?_) (a' := ?_) #[true, true, true, true, true, true, true, true, true, true, true, true, true, true, true, true, true, true, true, true, true, true, true, true, true] rfl rfl (any_of HT_.out (by kernel_rfl)) (fun _ _ _ h => h) (Or.inl ⟨by rfl, ?_⟩) ?_ ?_
    rotate_left
    · intro w'
      go_simp
      with_reducible rfl
    rotate_left
    · simp only [Act.put, sT, s0, s1, i64_w, i32_w]
      rfl
    refine done_ (done_of HT_.out (by kernel_rfl)) ?_
    clear hHeld
    go_wp2
    go_ret
    exact ⟨rfl, HF26.out.bel⟩
  · have f1 : (a.st != 1) = true := bne_iff_ne.mpr hst
    clear hst
    go_wp2
    go_ret
    exact ⟨rfl, HF5.out.bel⟩
end Go.Proofs.Ytpbkdphilcodmaa.Q
