/- portreevelaw15.ChapProves: its walk. -/
import Derived.Test.YtpbkdphilcodmaaShown
namespace Go.Proofs.Ytpbkdphilcodmaa.Q
open Go Go.RowKit Go.Proofs.YtpbkdphilcodmaaW.PrintWords Go.Proofs.YtpbkdphilcodmaaW.PrintLast Go.Proofs.YtpbkdphilcodmaaW.PrintMore
open Go.Proofs.YtpbkdphilcodmaaV Go.Proofs.Ytpbkdphilcodmaa.Pure
set_option linter.unusedVariables false
set_option linter.unusedSimpArgs false
theorem endA_wf {a : Au} (ha : a.wf) (n : ByteArray) {v : List Int} (hv : v.length = 16) (g : Bool) : (endA a n v g).wf := by
  cases g
  · exact ⟨ha.val, rfl⟩
  · exact ⟨ha.val, hv⟩
theorem endA_rgt {a : Au} (h : rgt a = true) (n : ByteArray) (v : List Int) (g : Bool) : rgt (endA a n v g) = true := by
  have h1 := of_decide_eq_true h
  cases g
  · exact decide_eq_true ⟨h1.1, h1.2.1, Or.inr ⟨Or.inr (Or.inr rfl), rfl⟩⟩
  · exact decide_eq_true ⟨h1.1, h1.2.1, Or.inr ⟨Or.inr (Or.inl rfl), rfl⟩⟩
theorem prv_good (a : Au) (us : List S54) (code : Int) (l : List Int) : prv (endA a (ansN code l) (ansV code l) (judG a us code l)) us = judG a us code l := by
  cases hg : judG a us code l with
  | false => rfl
  | true =>
    unfold judG at hg
    exact hg
theorem prv_bad (a : Au) (us : List S54) (n : ByteArray) (v : List Int) : prv (endA a n v false) us = false := rfl
theorem judC_spec {a : Au} {code id : Int} {l : List Int} (h : judC a code id l = true) : ansB code l = true ∧ a.st = 1 ∧ id = a.id := by
  unfold judC at h
  rw [Bool.and_eq_true, Bool.and_eq_true] at h
  exact ⟨h.1, of_decide_eq_true h.2.1, of_decide_eq_true h.2.2⟩
set_option maxHeartbeats 16000000 in
set_option maxRecDepth 100000 in
theorem Proves_calls (a : Au) (ha : a.wf) (us : List S54) (A : Option Addr) (c : Nat) (code id : Int) (Ad : Option Addr) (cd : Nat) (l : List Int) (w : World)
    (hr : Kd.C k54 w A us.length us) (hc : us.length ≤ c) (hrd : Kd.C (Kd.int .u8) w Ad l.length l) (hcd : l.length ≤ cd) :
    Calls Try.prog 3 #[.agg a.cells.toArray, .slice A us.length c, .agg (pk code id (.slice Ad l.length cd)).toArray] w fun e w' => e = .returned (.bool true) ∧ Below w.heap.size w w' := by
  have HA := Aside0.mk ha
  have HR := Aside0.mk hr
  have HC := Aside0.mk hc
  have HRD := Aside0.mk hrd
  have HCD := Aside0.mk hcd
  have HV := Aside0.mk (ansV_length code l)
  clear ha hr hc hrd hcd
  obtain ⟨cs, hcs⟩ : ∃ cs, cs = a.cells.toArray := ⟨_, rfl⟩
  rw [← hcs]
  have HCS := Aside0.mk hcs
  obtain ⟨n0, hn0⟩ : ∃ n0, ansN code l = n0 := ⟨_, rfl⟩
  obtain ⟨v0, hv0⟩ : ∃ v0, ansV code l = v0 := ⟨_, rfl⟩
  obtain ⟨b0, hb0⟩ : ∃ b0, ansB code l = b0 := ⟨_, rfl⟩
  obtain ⟨jc, hjc⟩ : ∃ jc, judC a code id l = jc := ⟨_, rfl⟩
  obtain ⟨jg, hjg⟩ : ∃ jg, judG a us code l = jg := ⟨_, rfl⟩
  obtain ⟨rg, hrg⟩ : ∃ rg, rgt a = rg := ⟨_, rfl⟩
  obtain ⟨nn, hnn⟩ : ∃ nn, judN a code id l = nn := ⟨_, rfl⟩
  have HNN := Aside0.mk hnn
  clear hnn
  obtain ⟨ug, hug⟩ : ∃ ug, usr us = ug := ⟨_, rfl⟩
  have HN0 := Aside0.mk hn0
  have HV0 := Aside0.mk hv0
  have HB0 := Aside0.mk hb0
  have HJC := Aside0.mk hjc
  have HJG := Aside0.mk hjg
  have HRG := Aside0.mk hrg
  have HUG := Aside0.mk hug
  rw [hv0] at HV
  clear hn0 hv0 hb0 hcs hjc hjg hrg hug
  go_enter Try.func3, Try.ntmps3
  go_upto_region 2 with (first
    | ((with_reducible refine gate_dst (N := 3) rfl ?_); refine box_event ?hg (N := 3) ?hd (cs := cs) (t := 24) ?hr ?_; (case hd => rfl); (case hg => rfl); (case hr => first | (go_simp; done) | (go_simp; rfl)); intro g3 hg w1 hbox hb; rw [HCS.out] at hbox; have HF1 := Aside0.mk (show Fam w [(g3, 24, a.cells)] w1 from (Fam.start (Below.refl _ _)).box hg hbox hb); clear hbox hb hg)
    | ((with_reducible refine gate_dst (N := 5) rfl ?_); refine box_event ?hg (N := 5) ?hd (cs := (pk code id (.slice Ad l.length cd)).toArray) (t := 28) ?hr ?_; (case hd => rfl); (case hg => rfl); (case hr => first | (go_simp; done) | (go_simp; rfl)); intro g5 hg w2 hbox hb; have HF2 := Aside0.mk (show Fam w [(g5, 28, pk code id (.slice Ad l.length cd)), (g3, 24, a.cells)] w2 from HF1.out.box hg hbox hb); clear hbox hb hg HF1)
    | (go_at_call 9; refine (shown_calls _).mono ?_; rintro e w3 ⟨rfl, hb⟩; have HF3 := Aside0.mk (HF2.out.keep hb); clear HF2 hb))
  have hp2 : w3.cell? ⟨g5, 2, none⟩ = some (.slice Ad l.length cd) := (HF3.out.get 0 rfl).at_ rfl
  cases rg with
  | false =>
    go_wp2_with (first
      | ((with_reducible refine wpList_load_mid rfl 24 (.tmp 3) rfl g3 0 ?hx (a.cells) _ ?hc Try.underlying24 rfl ?hi ?_); (case hx => rfl); (case hc => exact (HF3.out.get 1 rfl).whole); (case hi => exact i24 HA.out))
      | (go_at_call 10; refine (Right15_calls a HA.out _).mono ?_; rintro e w4 ⟨rfl, hb⟩; rw [HRG.out]; have HF4 := Aside0.mk (HF3.out.keep hb); clear HF3 hb hp2))
    go_ret
    exact ⟨rfl, HF4.out.bel⟩
  | true =>
  cases ug with
  | false =>
    go_wp2_with (first
      | ((with_reducible refine wpList_load_mid rfl 24 (.tmp 3) rfl g3 0 ?hx (a.cells) _ ?hc Try.underlying24 rfl ?hi ?_); (case hx => rfl); (case hc => exact (HF3.out.get 1 rfl).whole); (case hi => exact i24 HA.out))
      | (go_at_call 10; refine (Right15_calls a HA.out _).mono ?_; rintro e w4 ⟨rfl, hb⟩; rw [HRG.out]; have HF4 := Aside0.mk (HF3.out.keep hb); clear HF3 hb hp2)
      | (go_at_call 11; refine (Users15_calls us A c _ (Kd.C_below HR.out HF4.out.bel) HC.out).mono ?_; rintro e w5 ⟨rfl, hb⟩; rw [HUG.out]; have HF5 := Aside0.mk (HF4.out.keep hb); clear HF4 hb))
    go_ret
    exact ⟨rfl, HF5.out.bel⟩
  | true =>
  have HS := Aside0.mk (secS_short HUG.out)
  have hgo : True := trivial
  go_upto_if 32 with (first
    | ((with_reducible refine wpList_load_mid rfl 24 (.tmp 3) rfl g3 0 ?hx (a.cells) _ ?hc Try.underlying24 rfl ?hi ?_); (case hx => rfl); (case hc => exact (HF3.out.get 1 rfl).whole); (case hi => exact i24 HA.out))
    | (go_at_call 10; refine (Right15_calls a HA.out _).mono ?_; rintro e w4 ⟨rfl, hb⟩; rw [HRG.out]; have HF4 := Aside0.mk (HF3.out.keep hb); clear HF3 hb hp2)
    | (go_at_call 11; refine (Users15_calls us A c _ (Kd.C_below HR.out HF4.out.bel) HC.out).mono ?_; rintro e w5 ⟨rfl, hb⟩; rw [HUG.out]; have HF5 := Aside0.mk (HF4.out.keep hb); have hq2 : w5.cell? ⟨g5, 2, none⟩ = some (.slice Ad l.length cd) := (HF5.out.get 0 rfl).at_ rfl; clear HF4 hb))
  clear hq2
  by_cases h3 : (100 : Int) < (l.length : Int)
  · go_wp2
    go_ret
    exact ⟨rfl, HF5.out.bel⟩
  have h3' : ¬ (100 : Int) < (l.length : Int) := h3
  go_upto_region 6 with (first
    | ((with_reducible refine wpList_load_mid rfl 24 (.tmp 3) rfl g3 0 ?hx (a.cells) _ ?hc Try.underlying24 rfl ?hi ?_); (case hx => rfl); (case hc => exact (HF5.out.get 1 rfl).whole); (case hi => exact i24 HA.out))
    | ((with_reducible refine wpList_load_mid rfl 28 (.tmp 5) rfl g5 0 ?hx (pk code id (.slice Ad l.length cd)) _ ?hc Try.underlying28 rfl ?hi ?_); (case hx => rfl); (case hc => exact (HF5.out.get 0 rfl).whole); (case hi => exact by kernel_rfl))
    | ((with_reducible refine wpList_load_mid rfl 28 (.tmp 5) rfl g5 0 ?hx (pk code id (.slice Ad l.length cd)) _ ?hc Try.underlying28 rfl ?hi ?_); (case hx => rfl); (case hc => exact (HF6.out.get 0 rfl).whole); (case hi => exact by kernel_rfl))
    | (go_at_call 12; refine (Judge_calls a HA.out us A c code id Ad cd l HS.out _ (Kd.C_below HR.out HF5.out.bel) HC.out (Kd.C_below HRD.out HF5.out.bel) HCD.out).mono ?_; rintro e w6 ⟨rfl, hb⟩; rw [HNN.out, HJC.out, HJG.out]; have HF6 := Aside0.mk (HF5.out.keep hb); clear HF5 hb)
    | (go_at_call 13; refine (Answer_calls code id Ad cd l _ (Kd.C_below HRD.out HF6.out.bel) HCD.out).mono ?_; rintro e w7 ⟨rfl, hb⟩; rw [HN0.out, HV0.out, HB0.out]; have HF7 := Aside0.mk (HF6.out.keep hb); clear HF6 hb)
    | ((with_reducible refine gate_dst (N := 12) rfl ?_); refine box_event ?hg (N := 12) ?hd (cs := (ints no16).toArray) (t := 22) ?hr ?_; (case hd => rfl); (case hg => rfl); (case hr => first | (go_simp; done) | (go_simp; rfl)); intro g12 hg w8 hbox hb; have HF8 := Aside0.mk (show Fam w [(g12, 22, ints no16), (g5, 28, pk code id (.slice Ad l.length cd)), (g3, 24, a.cells)] w8 from HF7.out.box hg hbox hb); clear hbox hb hg HF7)
    | ((with_reducible refine wpList_store_mid rfl 22 (.tmp 12) (.tmp 46) rfl g12 0 (ints v0).toArray ?hx ?hy ?h5 ?h6 ?h7 ?_); (case hx => rfl); (case hy => rfl); (case h5 => exact (HF8.out.get 0 rfl).there (by rw [List.size_toArray, Nat.zero_add]; exact Nat.le_of_eq (Eq.symm (v16 HV.out)))); (case h6 => exact i22 HV.out); (case h7 => exact ints_one _); have HF9 := Aside0.mk (HF8.out.over 0 rfl (ints v0) (v16 HV.out)); clear HF8))
  have HF10 := Aside0.mk (show Fam w [(g12, 22, ints v0), (g5, 28, pk code id (.slice Ad l.length cd)), (g3, 24, a.cells)] _ from HF9.out)
  clear HF9 h3 h3' hgo
  generalize World.setCells _ _ _ _ = w9 at HF10 ⊢
  have hc0 := Au.at0 (HF10.out.get 2 rfl)
  have hc3 := Au.at3 (HF10.out.get 2 rfl)
  have hp1 : w9.cell? ⟨g5, 1, none⟩ = some (.int .u8 id) := (HF10.out.get 1 rfl).at_ rfl
  cases jc with
  | false =>
    obtain rfl : nn = ⟨#[]⟩ := by rw [← HNN.out]; unfold judN; rw [HJC.out]; rfl
    rw [Bool.false_and]
    cases b0 with
    | false =>
      go_wp2
      go_ret
      exact ⟨rfl, HF10.out.bel⟩
    | true =>
      have h0 : ¬ (a.st = 1 ∧ id = a.id) := fun h => by
        have := HJC.out
        unfold judC at this
        rw [HB0.out, decide_eq_true h.1, decide_eq_true h.2] at this
        cases this
      by_cases h1 : a.st = 1
      · have f1 : (a.st != 1) = false := bne_eq_false_iff_eq.mpr h1
        have f2 : (id != a.id) = true := bne_iff_ne.mpr (fun h => h0 ⟨h1, h⟩)
        clear h0 h1
        go_wp2
        go_ret
        exact ⟨rfl, HF10.out.bel⟩
      · have f1 : (a.st != 1) = true := bne_iff_ne.mpr h1
        clear h0 h1
        go_wp2
        go_ret
        exact ⟨rfl, HF10.out.bel⟩
  | true =>
  obtain ⟨hb, hst, hid⟩ := judC_spec HJC.out
  obtain rfl : b0 = true := HB0.out.symm.trans hb
  obtain rfl : nn = n0 := by rw [← HNN.out, ← HN0.out]; unfold judN; rw [HJC.out]; rfl
  rw [Bool.true_and]
  obtain rfl := hid
  clear hb hst
  obtain ⟨b1, hb1⟩ : ∃ b1, endA a nn v0 jg = b1 := ⟨_, rfl⟩
  obtain ⟨c1, hc1⟩ : ∃ c1, endA a nn v0 false = c1 := ⟨_, rfl⟩
  obtain ⟨e1, he1⟩ : ∃ e1 : Int, (if jg = true then 3 else 4) = e1 := ⟨_, rfl⟩
  have HBE := Aside0.mk hb1
  have HCE := Aside0.mk hc1
  have HE1 := Aside0.mk he1
  have HBW := Aside0.mk (show b1.wf by rw [← hb1]; exact endA_wf HA.out _ HV.out _)
  have HCW := Aside0.mk (show c1.wf by rw [← hc1]; exact endA_wf HA.out _ HV.out _)
  have HBR := Aside0.mk (show rgt b1 = true by rw [← hb1]; exact endA_rgt HRG.out _ _ _)
  have HCR := Aside0.mk (show rgt c1 = true by rw [← hc1]; exact endA_rgt HRG.out _ _ _)
  have HBP := Aside0.mk (show prv b1 us = jg by rw [← hb1, ← HN0.out, ← HV0.out, ← HJG.out]; exact prv_good a us code l)
  have HCP := Aside0.mk (show prv c1 us = false by rw [← hc1]; rfl)
  have HCWHO := Aside0.mk (show c1.who = ⟨#[]⟩ by rw [← hc1]; rfl)
  have HBID := Aside0.mk (show b1.id = a.id by rw [← hb1]; cases jg <;> rfl)
  have HBWHO := Aside0.mk (show jg = true → b1.who = nn by rw [← hb1]; rintro rfl; rfl)
  clear hb1 hc1 he1 hc0 hc3 hp1
  go_upto_region 9 with (first
    | ((with_reducible refine wpList_load_mid rfl 24 (.tmp 3) rfl g3 0 ?hx (a.cells) _ ?hc Try.underlying24 rfl ?hi ?_); (case hx => rfl); (case hc => exact (HF10.out.get 2 rfl).whole); (case hi => exact i24 HA.out))
    | ((with_reducible refine wpList_load_mid rfl 22 (.tmp 12) rfl g12 0 ?hx (ints v0) _ ?hc Try.underlying22 rfl ?hi ?_); (case hx => rfl); (case hc => exact (HF10.out.get 0 rfl).whole); (case hi => exact i22 HV.out))
    | (go_at_call 14; refine (End_calls a HA.out nn v0 HV.out jg _).mono ?_; rintro e w10 ⟨rfl, hb⟩; rw [HBE.out, HE1.out]; have HF11 := Aside0.mk (HF10.out.keep hb); clear hb HF10)
    | ((with_reducible refine gate_dst (N := 14) rfl ?_); refine box_event ?hg (N := 14) ?hd (cs := Au.zero.cells.toArray) (t := 24) ?hr ?_; (case hd => rfl); (case hg => rfl); (case hr => first | (go_simp; done) | (go_simp; rfl)); intro g14 hg w11 hbox hb; have HF12 := Aside0.mk (show Fam w [(g14, 24, Au.zero.cells), (g12, 22, ints v0), (g5, 28, pk code a.id (.slice Ad l.length cd)), (g3, 24, a.cells)] w11 from HF11.out.box hg hbox hb); clear hbox hb hg HF11)
    | ((with_reducible refine gate_dst (N := 15) rfl ?_); refine box_event ?hg (N := 15) ?hd (cs := zP.toArray) (t := 28) ?hr ?_; (case hd => rfl); (case hg => rfl); (case hr => first | (go_simp; done) | (go_simp; rfl)); intro g15 hg w12 hbox hb; have HF13 := Aside0.mk (show Fam w [(g15, 28, zP), (g14, 24, Au.zero.cells), (g12, 22, ints v0), (g5, 28, pk code a.id (.slice Ad l.length cd)), (g3, 24, a.cells)] w12 from HF12.out.box hg hbox hb); clear hbox hb hg HF12)
    | ((with_reducible refine wpList_store_mid rfl 24 (.tmp 14) (.tmp 81) rfl g14 0 (b1.cells).toArray ?hx ?hy ?h5 ?h6 ?h7 ?_); (case hx => rfl); (case hy => rfl); (case h5 => exact (HF13.out.get 1 rfl).there (by rw [List.size_toArray, Nat.zero_add]; exact Nat.le_of_eq (Eq.symm (zlen HBW.out)))); (case h6 => exact i24 HBW.out); (case h7 => exact Au.one _); have HF14 := Aside0.mk (HF13.out.over 1 rfl (b1.cells) (zlen HBW.out)); clear HF13)
    | ((with_reducible refine wpList_store_mid rfl 28 (.tmp 15) (.tmp 82) rfl g15 0 (pk e1 a.id (.slice none 0 0)).toArray ?hx ?hy ?h5 ?h6 ?h7 ?_); (case hx => rfl); (case hy => rfl); (case h5 => exact (HF14.out.get 0 rfl).there (by rw [List.size_toArray, Nat.zero_add]; exact Nat.le_of_eq (Eq.symm (rfl)))); (case h6 => exact by kernel_rfl); (case h7 => exact by simp [pk, Value.oneCell']); have HF15 := Aside0.mk (HF14.out.over 0 rfl (pk e1 a.id (.slice none 0 0)) (rfl)); clear HF14))
  have HF16 := Aside0.mk (show Fam w [(g15, 28, pk e1 a.id (.slice none 0 0)), (g14, 24, b1.cells), (g12, 22, ints v0), (g5, 28, pk code a.id (.slice Ad l.length cd)), (g3, 24, a.cells)] _ from HF15.out)
  clear HF15
  generalize World.setCells _ _ _ _ = w13 at HF16 ⊢
  go_upto_region 10 with (first
    | ((with_reducible refine wpList_load_mid rfl 24 (.tmp 3) rfl g3 0 ?hx (a.cells) _ ?hc Try.underlying24 rfl ?hi ?_); (case hx => rfl); (case hc => exact (HF16.out.get 4 rfl).whole); (case hi => exact i24 HA.out))
    | ((with_reducible refine wpList_load_mid rfl 22 (.tmp 12) rfl g12 0 ?hx (ints v0) _ ?hc Try.underlying22 rfl ?hi ?_); (case hx => rfl); (case hc => exact (HF16.out.get 2 rfl).whole); (case hi => exact i22 HV.out))
    | (go_at_call 14; refine (End_calls a HA.out nn v0 HV.out false _).mono ?_; rintro e w14 ⟨rfl, hb⟩; rw [HCE.out, show pk (if (false : Bool) = true then 3 else 4) a.id (.slice none 0 0) = pk 4 a.id (.slice none 0 0) from rfl]; have HF17 := Aside0.mk (HF16.out.keep hb); clear hb HF16)
    | ((with_reducible refine gate_dst (N := 16) rfl ?_); refine box_event ?hg (N := 16) ?hd (cs := Au.zero.cells.toArray) (t := 24) ?hr ?_; (case hd => rfl); (case hg => rfl); (case hr => first | (go_simp; done) | (go_simp; rfl)); intro g16 hg w15 hbox hb; have HF18 := Aside0.mk (show Fam w [(g16, 24, Au.zero.cells), (g15, 28, pk e1 a.id (.slice none 0 0)), (g14, 24, b1.cells), (g12, 22, ints v0), (g5, 28, pk code a.id (.slice Ad l.length cd)), (g3, 24, a.cells)] w15 from HF17.out.box hg hbox hb); clear hbox hb hg HF17)
    | ((with_reducible refine gate_dst (N := 17) rfl ?_); refine box_event ?hg (N := 17) ?hd (cs := zP.toArray) (t := 28) ?hr ?_; (case hd => rfl); (case hg => rfl); (case hr => first | (go_simp; done) | (go_simp; rfl)); intro g17 hg w16 hbox hb; have HF19 := Aside0.mk (show Fam w [(g17, 28, zP), (g16, 24, Au.zero.cells), (g15, 28, pk e1 a.id (.slice none 0 0)), (g14, 24, b1.cells), (g12, 22, ints v0), (g5, 28, pk code a.id (.slice Ad l.length cd)), (g3, 24, a.cells)] w16 from HF18.out.box hg hbox hb); clear hbox hb hg HF18)
    | ((with_reducible refine wpList_store_mid rfl 24 (.tmp 16) (.tmp 88) rfl g16 0 (c1.cells).toArray ?hx ?hy ?h5 ?h6 ?h7 ?_); (case hx => rfl); (case hy => rfl); (case h5 => exact (HF19.out.get 1 rfl).there (by rw [List.size_toArray, Nat.zero_add]; exact Nat.le_of_eq (Eq.symm (zlen HCW.out)))); (case h6 => exact i24 HCW.out); (case h7 => exact Au.one _); have HF20 := Aside0.mk (HF19.out.over 1 rfl (c1.cells) (zlen HCW.out)); clear HF19)
    | ((with_reducible refine wpList_store_mid rfl 28 (.tmp 17) (.tmp 89) rfl g17 0 (pk 4 a.id (.slice none 0 0)).toArray ?hx ?hy ?h5 ?h6 ?h7 ?_); (case hx => rfl); (case hy => rfl); (case h5 => exact (HF20.out.get 0 rfl).there (by rw [List.size_toArray, Nat.zero_add]; exact Nat.le_of_eq (Eq.symm (rfl)))); (case h6 => exact by kernel_rfl); (case h7 => exact by simp [pk, Value.oneCell']); have HF21 := Aside0.mk (HF20.out.over 0 rfl (pk 4 a.id (.slice none 0 0)) (rfl)); clear HF20))
  have HF22 := Aside0.mk (show Fam w [(g17, 28, pk 4 a.id (.slice none 0 0)), (g16, 24, c1.cells), (g15, 28, pk e1 a.id (.slice none 0 0)), (g14, 24, b1.cells), (g12, 22, ints v0), (g5, 28, pk code a.id (.slice Ad l.length cd)), (g3, 24, a.cells)] _ from HF21.out)
  clear HF21
  generalize World.setCells _ _ _ _ = w17 at HF22 ⊢
  cases jg with
  | false =>
    · skip
      go_upto_region 12 with (first
        | ((with_reducible refine gate_dst (N := 93) rfl ?_); refine gate_guard (by rfl) ?_; refine wpList_load_mid rfl 24 (.tmp 14) rfl g14 0 ?hx (b1.cells) _ ?hc Try.underlying24 rfl ?hi ?_; (case hx => rfl); (case hc => exact (HF22.out.get 3 rfl).whole); (case hi => exact i24 HBW.out))
        | (go_at_call 15; refine (Proved_calls b1 HBW.out us A c HS.out _ (Kd.C_below HR.out HF22.out.bel) HC.out).mono ?_; rintro e w18 ⟨rfl, hb⟩; rw [HBP.out]; have HF23 := Aside0.mk (HF22.out.keep hb); clear hb HF22)
        | ((with_reducible refine gate_dst (N := 100) rfl ?_); refine gate_guard (by rfl) ?_; refine wpList_load_mid rfl 24 (.tmp 16) rfl g16 0 ?hx (c1.cells) _ ?hc Try.underlying24 rfl ?hi ?_; (case hx => rfl); (case hc => exact (HF23.out.get 1 rfl).whole); (case hi => exact i24 HCW.out))
        | (go_at_call 15; refine (Proved_calls c1 HCW.out us A c HS.out _ (Kd.C_below HR.out HF23.out.bel) HC.out).mono ?_; rintro e w19 ⟨rfl, hb⟩; rw [HCP.out]; have HF24 := Aside0.mk (HF23.out.keep hb); clear hb HF23; have hw20 : w19.cell? ⟨g16, 20, none⟩ = some (.string ⟨#[]⟩) := by have h := Au.at20 (HF24.out.get 1 rfl) HCW.out; rw [HCWHO.out] at h; exact h)
        | ((with_reducible refine gate_dst (N := 110) rfl ?_); refine gate_guard (by rfl) ?_; refine wpList_load_mid rfl 24 (.tmp 14) rfl g14 0 ?hx (b1.cells) _ ?hc Try.underlying24 rfl ?hi ?_; (case hx => rfl); (case hc => exact (HF24.out.get 3 rfl).whole); (case hi => exact i24 HBW.out))
        | (have hq_ := HF24; clear hq_; go_at_call 10; refine (Right15_calls b1 HBW.out _).mono ?_; rintro e w20 ⟨rfl, hb⟩; rw [HBR.out]; have HF25 := Aside0.mk (HF24.out.keep hb); clear hb HF24 hw20)
        | ((with_reducible refine gate_dst (N := 115) rfl ?_); refine gate_guard (by rfl) ?_; refine wpList_load_mid rfl 24 (.tmp 16) rfl g16 0 ?hx (c1.cells) _ ?hc Try.underlying24 rfl ?hi ?_; (case hx => rfl); (case hc => exact (HF25.out.get 1 rfl).whole); (case hi => exact i24 HCW.out))
        | (have hq_ := HF25; clear hq_; go_at_call 10; refine (Right15_calls c1 HCW.out _).mono ?_; rintro e w21 ⟨rfl, hb⟩; rw [HCR.out]; have HF26 := Aside0.mk (HF25.out.keep hb); clear hb HF25))
      go_wp2
      go_ret
      exact ⟨rfl, HF26.out.bel⟩
  | true =>
    · skip
      go_upto_region 12 with (first
        | ((with_reducible refine gate_dst (N := 93) rfl ?_); refine gate_guard (by rfl) ?_; refine wpList_load_mid rfl 24 (.tmp 14) rfl g14 0 ?hx (b1.cells) _ ?hc Try.underlying24 rfl ?hi ?_; (case hx => rfl); (case hc => exact (HF22.out.get 3 rfl).whole); (case hi => exact i24 HBW.out))
        | (go_at_call 15; refine (Proved_calls b1 HBW.out us A c HS.out _ (Kd.C_below HR.out HF22.out.bel) HC.out).mono ?_; rintro e w18 ⟨rfl, hb⟩; rw [HBP.out]; have HF23 := Aside0.mk (HF22.out.keep hb); clear hb HF22)
        | ((with_reducible refine gate_dst (N := 100) rfl ?_); refine gate_guard (by rfl) ?_; refine wpList_load_mid rfl 24 (.tmp 16) rfl g16 0 ?hx (c1.cells) _ ?hc Try.underlying24 rfl ?hi ?_; (case hx => rfl); (case hc => exact (HF23.out.get 1 rfl).whole); (case hi => exact i24 HCW.out))
        | (go_at_call 15; refine (Proved_calls c1 HCW.out us A c HS.out _ (Kd.C_below HR.out HF23.out.bel) HC.out).mono ?_; rintro e w19 ⟨rfl, hb⟩; rw [HCP.out]; have HF24 := Aside0.mk (HF23.out.keep hb); clear hb HF23; have hw20 : w19.cell? ⟨g16, 20, none⟩ = some (.string ⟨#[]⟩) := by have h := Au.at20 (HF24.out.get 1 rfl) HCW.out; rw [HCWHO.out] at h; exact h)
        | ((with_reducible refine gate_dst (N := 110) rfl ?_); refine gate_guard (by rfl) ?_; refine wpList_load_mid rfl 24 (.tmp 14) rfl g14 0 ?hx (b1.cells) _ ?hc Try.underlying24 rfl ?hi ?_; (case hx => rfl); (case hc => exact (HF24.out.get 3 rfl).whole); (case hi => exact i24 HBW.out))
        | (have hq_ := HF24; clear hq_; go_at_call 10; refine (Right15_calls b1 HBW.out _).mono ?_; rintro e w20 ⟨rfl, hb⟩; rw [HBR.out]; have HF25 := Aside0.mk (HF24.out.keep hb); clear hb HF24 hw20)
        | ((with_reducible refine gate_dst (N := 115) rfl ?_); refine gate_guard (by rfl) ?_; refine wpList_load_mid rfl 24 (.tmp 16) rfl g16 0 ?hx (c1.cells) _ ?hc Try.underlying24 rfl ?hi ?_; (case hx => rfl); (case hc => exact (HF25.out.get 1 rfl).whole); (case hi => exact i24 HCW.out))
        | (have hq_ := HF25; clear hq_; go_at_call 10; refine (Right15_calls c1 HCW.out _).mono ?_; rintro e w21 ⟨rfl, hb⟩; rw [HCR.out]; have HF26 := Aside0.mk (HF25.out.keep hb); clear hb HF25))
      have hwb : w21.cell? ⟨g14, 20, none⟩ = some (.string nn) := by have h := Au.at20 (HF26.out.get 3 rfl) HBW.out; rw [HBWHO.out (by first | trivial | rfl)] at h; exact h
      have hib : w21.cell? ⟨g14, 3, none⟩ = some (.int .u8 a.id) := by have h := Au.at3 (HF26.out.get 3 rfl); rw [HBID.out] at h; exact h
      have hpb : w21.cell? ⟨g5, 1, none⟩ = some (.int .u8 a.id) := (HF26.out.get 5 rfl).at_ rfl
      go_wp2
      go_ret
      exact ⟨rfl, HF26.out.bel⟩
end Go.Proofs.Ytpbkdphilcodmaa.Q
