/- portreevelaw15.ChapOnce: its walk. -/
import Derived.Test.YtpbkdphilcodmaaShown
import Derived.Test.YtpbkdphilcodmaaReaders
namespace Go.Proofs.Ytpbkdphilcodmaa.Q
open Go Go.RowKit Go.Proofs.YtpbkdphilcodmaaW.PrintWords Go.Proofs.YtpbkdphilcodmaaW.PrintLast Go.Proofs.YtpbkdphilcodmaaW.PrintMore
open Go.Proofs.YtpbkdphilcodmaaV Go.Proofs.Ytpbkdphilcodmaa.Pure
set_option linter.unusedVariables false
set_option linter.unusedSimpArgs false
theorem once_wf {a : Au} (ha : a.wf) (n : ByteArray) {v : List Int} (hv : v.length = 16) (g : Bool) : (endA a n v g).wf := by
  cases g
  · exact ⟨ha.val, rfl⟩
  · exact ⟨ha.val, hv⟩
theorem once_spec {a : Au} {code id : Int} {l : List Int} (h : judC a code id l = true) : id = a.id := by
  unfold judC at h
  rw [Bool.and_eq_true, Bool.and_eq_true] at h
  exact of_decide_eq_true h.2.2
theorem askI_ne (x : Int) : x ≠ askI x := by
  intro h
  unfold askI at h
  have h1 : IntKind.u8.wrap (x + 1) = (x + 1) % 256 := by
    simp [IntKind.wrap, IntKind.signed, IntKind.bits]
  rw [h1] at h
  omega
theorem once_end (a : Au) (n : ByteArray) (v : List Int) (g : Bool) (code id : Int) (l : List Int) : judC (endA a n v g) code id l = false := by
  unfold judC
  cases g
  · rw [decide_eq_false (show ¬ (endA a n v false).st = 1 from (by decide : ¬ (3 : Int) = 1)), Bool.false_and, Bool.and_false]
  · rw [decide_eq_false (show ¬ (endA a n v true).st = 1 from (by decide : ¬ (2 : Int) = 1)), Bool.false_and, Bool.and_false]
theorem once_late (a : Au) (v : List Int) (code : Int) (l : List Int) : judC (begA a v) code a.id l = false := by
  unfold judC
  rw [decide_eq_false (show ¬ a.id = (begA a v).id from askI_ne a.id), Bool.and_false, Bool.and_false]
section
variable {a : Au} {u d : Value} {code id : Int} {v : List Int} {gd : Bool} {w : World} {g : Nat}
theorem once_0 (h : Blk w g 49 (onceL a u d code id v gd)) : w.rangeAt g 0 a.cells := Blk.range (pre := []) (post := u :: (pk code id d ++ (ints v ++ [.bool gd]))) (by unfold onceL at h; rw [List.nil_append]; exact h) rfl
theorem once_37 (ha : a.wf) (h : Blk w g 49 (onceL a u d code id v gd)) : w.cell? ⟨g, 37, none⟩ = some u := by
  have h1 := Blk.range (pre := a.cells) (old := [u]) (post := pk code id d ++ (ints v ++ [.bool gd])) (by unfold onceL at h; rw [List.append_assoc]; exact h) (Au.length ha)
  exact h1 0 u rfl
theorem once_38 (ha : a.wf) (h : Blk w g 49 (onceL a u d code id v gd)) : w.rangeAt g 38 (pk code id d) :=
  Blk.range (pre := a.cells ++ [u]) (post := ints v ++ [.bool gd]) (by unfold onceL at h; rw [List.append_assoc, List.append_assoc]; exact h) (by rw [List.length_append, Au.length ha]; rfl)
theorem once_41 (ha : a.wf) (h : Blk w g 49 (onceL a u d code id v gd)) : w.rangeAt g 41 (ints v) :=
  Blk.range (pre := a.cells ++ ([u] ++ pk code id d)) (post := [.bool gd]) (by unfold onceL at h; rw [List.append_assoc, List.append_assoc, List.append_assoc]; exact h) (by rw [List.length_append, Au.length ha]; rfl)
theorem once_57 (ha : a.wf) (hv : v.length = 16) (h : Blk w g 49 (onceL a u d code id v gd)) : w.cell? ⟨g, 57, none⟩ = some (.bool gd) := by
  have h1 := Blk.range (pre := a.cells ++ ([u] ++ (pk code id d ++ ints v))) (old := [.bool gd]) (post := []) (by unfold onceL at h; simp only [List.append_assoc, List.append_nil]; exact h) (o := 57) (by rw [List.length_append, Au.length ha, List.length_append, List.length_append, ints_length, hv]; rfl)
  exact h1 0 _ rfl
end
set_option maxHeartbeats 16000000 in
set_option maxRecDepth 100000 in
theorem Once_calls (a : Au) (ha : a.wf) (us : List S54) (A : Option Addr) (c : Nat) (code id : Int) (Ad : Option Addr) (cd : Nat) (l : List Int) (v : List Int) (hv : v.length = 16) (gd : Bool) (w : World)
    (hr : Kd.C k54 w A us.length us) (hc : us.length ≤ c) (hrd : Kd.C (Kd.int .u8) w Ad l.length l) (hcd : l.length ≤ cd) :
    Calls Try.prog 6 #[.agg (onceL a (.slice A us.length c) (.slice Ad l.length cd) code id v gd).toArray] w fun e w' => e = .returned (.bool true) ∧ Below w.heap.size w w' := by
  have HA := Aside0.mk ha
  have HR := Aside0.mk hr
  have HC := Aside0.mk hc
  have HRD := Aside0.mk hrd
  have HCD := Aside0.mk hcd
  have HV := Aside0.mk hv
  clear ha hr hc hrd hcd hv
  obtain ⟨cs, hcs⟩ : ∃ cs, cs = (onceL a (.slice A us.length c) (.slice Ad l.length cd) code id v gd).toArray := ⟨_, rfl⟩
  rw [← hcs]
  have HCS := Aside0.mk hcs
  obtain ⟨jc, hjc⟩ : ∃ jc, judC a code id l = jc := ⟨_, rfl⟩
  obtain ⟨jg, hjg⟩ : ∃ jg, judG a us code l = jg := ⟨_, rfl⟩
  obtain ⟨nn, hnn⟩ : ∃ nn, judN a code id l = nn := ⟨_, rfl⟩
  obtain ⟨rg, hrg⟩ : ∃ rg, rgt a = rg := ⟨_, rfl⟩
  obtain ⟨ug, hug⟩ : ∃ ug, usr us = ug := ⟨_, rfl⟩
  have HJC := Aside0.mk hjc
  have HJG := Aside0.mk hjg
  have HNN := Aside0.mk hnn
  have HRG := Aside0.mk hrg
  have HUG := Aside0.mk hug
  clear hcs hjc hjg hnn hrg hug
  go_enter Try.func6, Try.ntmps6
  go_upto_region 2 with (first
    | ((with_reducible refine gate_dst (N := 1) rfl ?_); refine box_event ?hg (N := 1) ?hd (cs := cs) (t := 49) ?hr ?_; (case hd => rfl); (case hg => rfl); (case hr => first | (go_simp; done) | (go_simp; rfl)); intro g1 hg w1 hbox hb; rw [HCS.out] at hbox; have HF1 := Aside0.mk (show Fam w [(g1, 49, onceL a (.slice A us.length c) (.slice Ad l.length cd) code id v gd)] w1 from (Fam.start (Below.refl _ _)).box hg hbox hb); clear hbox hb hg)
    | ((with_reducible refine wpList_load_mid rfl 24 (.tmp 22) rfl g1 0 ?hx (a.cells) _ ?hc Try.underlying24 rfl ?hi ?_); (case hx => rfl); (case hc => exact once_0 (HF1.out.get 0 rfl)); (case hi => exact i24 HA.out))
    | ((with_reducible refine gate_dst (N := 3) rfl ?_); refine box_event ?hg (N := 3) ?hd (cs := Au.zero.cells.toArray) (t := 24) ?hr ?_; (case hd => rfl); (case hg => rfl); (case hr => first | (go_simp; done) | (go_simp; rfl)); intro g3 hg w2 hbox hb; have HF2 := Aside0.mk (show Fam w [(g3, 24, Au.zero.cells), (g1, 49, onceL a (.slice A us.length c) (.slice Ad l.length cd) code id v gd)] w2 from HF1.out.box hg hbox hb); clear hbox hb hg HF1)
    | ((with_reducible refine wpList_store_mid rfl 24 (.tmp 3) (.tmp 23) rfl g3 0 (a.cells).toArray ?hx ?hy ?h5 ?h6 ?h7 ?_); (case hx => rfl); (case hy => rfl); (case h5 => exact (HF2.out.get 0 rfl).there (by rw [List.size_toArray, Nat.zero_add]; exact Nat.le_of_eq (Eq.symm (zlen HA.out)))); (case h6 => exact i24 HA.out); (case h7 => exact Au.one _); have HF3 := Aside0.mk (HF2.out.over 0 rfl (a.cells) (zlen HA.out)); clear HF2))
  have HF4 := Aside0.mk (show Fam w [(g3, 24, a.cells), (g1, 49, onceL a (.slice A us.length c) (.slice Ad l.length cd) code id v gd)] _ from HF3.out)
  clear HF3
  generalize World.setCells _ _ _ _ = w3 at HF4 ⊢
  have hu := once_37 HA.out (HF4.out.get 1 rfl)
  go_upto_region 4 with (first
    | ((with_reducible refine wpList_load_mid rfl 28 (.tmp 26) rfl g1 38 ?hx (pk code id (.slice Ad l.length cd)) _ ?hc Try.underlying28 rfl ?hi ?_); (case hx => rfl); (case hc => exact once_38 HA.out (HF4.out.get 1 rfl)); (case hi => exact by kernel_rfl))
    | ((with_reducible refine gate_dst (N := 5) rfl ?_); refine box_event ?hg (N := 5) ?hd (cs := zP.toArray) (t := 28) ?hr ?_; (case hd => rfl); (case hg => rfl); (case hr => first | (go_simp; done) | (go_simp; rfl)); intro g5 hg w4 hbox hb; have HF5 := Aside0.mk (show Fam w [(g5, 28, zP), (g3, 24, a.cells), (g1, 49, onceL a (.slice A us.length c) (.slice Ad l.length cd) code id v gd)] w4 from HF4.out.box hg hbox hb); clear hbox hb hg HF4)
    | ((with_reducible refine wpList_store_mid rfl 28 (.tmp 5) (.tmp 27) rfl g5 0 (pk code id (.slice Ad l.length cd)).toArray ?hx ?hy ?h5 ?h6 ?h7 ?_); (case hx => rfl); (case hy => rfl); (case h5 => exact (HF5.out.get 0 rfl).there (by rw [List.size_toArray, Nat.zero_add]; exact Nat.le_of_eq (Eq.symm (rfl)))); (case h6 => exact by kernel_rfl); (case h7 => exact by simp [pk, Value.oneCell']); have HF6 := Aside0.mk (HF5.out.over 0 rfl (pk code id (.slice Ad l.length cd)) (rfl)); clear HF5))
  clear hu
  have HF7 := Aside0.mk (show Fam w [(g5, 28, pk code id (.slice Ad l.length cd)), (g3, 24, a.cells), (g1, 49, onceL a (.slice A us.length c) (.slice Ad l.length cd) code id v gd)] _ from HF6.out)
  clear HF6
  generalize World.setCells _ _ _ _ = w5 at HF7 ⊢
  go_upto_region 5 with (first
    | ((with_reducible refine wpList_load_mid rfl 22 (.tmp 28) rfl g1 41 ?hx (ints v) _ ?hc Try.underlying22 rfl ?hi ?_); (case hx => rfl); (case hc => exact once_41 HA.out (HF7.out.get 2 rfl)); (case hi => exact i22 HV.out))
    | ((with_reducible refine gate_dst (N := 6) rfl ?_); refine box_event ?hg (N := 6) ?hd (cs := (ints no16).toArray) (t := 22) ?hr ?_; (case hd => rfl); (case hg => rfl); (case hr => first | (go_simp; done) | (go_simp; rfl)); intro g6 hg w6 hbox hb; have HF8 := Aside0.mk (show Fam w [(g6, 22, ints no16), (g5, 28, pk code id (.slice Ad l.length cd)), (g3, 24, a.cells), (g1, 49, onceL a (.slice A us.length c) (.slice Ad l.length cd) code id v gd)] w6 from HF7.out.box hg hbox hb); clear hbox hb hg HF7)
    | ((with_reducible refine wpList_store_mid rfl 22 (.tmp 6) (.tmp 29) rfl g6 0 (ints v).toArray ?hx ?hy ?h5 ?h6 ?h7 ?_); (case hx => rfl); (case hy => rfl); (case h5 => exact (HF8.out.get 0 rfl).there (by rw [List.size_toArray, Nat.zero_add]; exact Nat.le_of_eq (Eq.symm (v16 HV.out)))); (case h6 => exact i22 HV.out); (case h7 => exact ints_one _); have HF9 := Aside0.mk (HF8.out.over 0 rfl (ints v) (v16 HV.out)); clear HF8))
  have HF10 := Aside0.mk (show Fam w [(g6, 22, ints v), (g5, 28, pk code id (.slice Ad l.length cd)), (g3, 24, a.cells), (g1, 49, onceL a (.slice A us.length c) (.slice Ad l.length cd) code id v gd)] _ from HF9.out)
  clear HF9
  generalize World.setCells _ _ _ _ = w7 at HF10 ⊢
  have hgd := once_57 HA.out HV.out (HF10.out.get 3 rfl)
  go_upto_region 7 with (first
    | (go_at_call 9; refine (shown_calls _).mono ?_; rintro e w8 ⟨rfl, hb⟩; have HF11 := Aside0.mk (HF10.out.keep hb); clear HF10 hb hgd))
  have hp2 : w8.cell? ⟨g5, 2, none⟩ = some (.slice Ad l.length cd) := (HF11.out.get 1 rfl).at_ rfl
  cases rg with
  | false =>
    go_wp2_with (first
      | ((with_reducible refine wpList_load_mid rfl 24 (.tmp 3) rfl g3 0 ?hx (a.cells) _ ?hc Try.underlying24 rfl ?hi ?_); (case hx => rfl); (case hc => exact (HF11.out.get 2 rfl).whole); (case hi => exact i24 HA.out))
      | (go_at_call 10; refine (Right15_calls a HA.out _).mono ?_; rintro e w9 ⟨rfl, hb⟩; rw [HRG.out]; have HF12 := Aside0.mk (HF11.out.keep hb); clear HF11 hb hp2))
    go_ret
    exact ⟨rfl, HF12.out.bel⟩
  | true =>
  cases ug with
  | false =>
    go_wp2_with (first
      | ((with_reducible refine wpList_load_mid rfl 24 (.tmp 3) rfl g3 0 ?hx (a.cells) _ ?hc Try.underlying24 rfl ?hi ?_); (case hx => rfl); (case hc => exact (HF11.out.get 2 rfl).whole); (case hi => exact i24 HA.out))
      | (go_at_call 10; refine (Right15_calls a HA.out _).mono ?_; rintro e w9 ⟨rfl, hb⟩; rw [HRG.out]; have HF12 := Aside0.mk (HF11.out.keep hb); clear HF11 hb hp2)
      | (go_at_call 11; refine (Users15_calls us A c _ (Kd.C_below HR.out HF12.out.bel) HC.out).mono ?_; rintro e w10 ⟨rfl, hb⟩; rw [HUG.out]; have HF13 := Aside0.mk (HF12.out.keep hb); clear HF12 hb))
    go_ret
    exact ⟨rfl, HF13.out.bel⟩
  | true =>
  have HS := Aside0.mk (secS_short HUG.out)
  go_upto_if 46 with (first
    | ((with_reducible refine wpList_load_mid rfl 24 (.tmp 3) rfl g3 0 ?hx (a.cells) _ ?hc Try.underlying24 rfl ?hi ?_); (case hx => rfl); (case hc => exact (HF11.out.get 2 rfl).whole); (case hi => exact i24 HA.out))
    | (go_at_call 10; refine (Right15_calls a HA.out _).mono ?_; rintro e w9 ⟨rfl, hb⟩; rw [HRG.out]; have HF12 := Aside0.mk (HF11.out.keep hb); clear HF11 hb hp2)
    | (go_at_call 11; refine (Users15_calls us A c _ (Kd.C_below HR.out HF12.out.bel) HC.out).mono ?_; rintro e w10 ⟨rfl, hb⟩; rw [HUG.out]; have HF13 := Aside0.mk (HF12.out.keep hb); have hq2 : w10.cell? ⟨g5, 2, none⟩ = some (.slice Ad l.length cd) := (HF13.out.get 1 rfl).at_ rfl; clear HF12 hb))
  clear hq2
  by_cases h3 : (100 : Int) < (l.length : Int)
  · go_wp2
    go_ret
    exact ⟨rfl, HF13.out.bel⟩
  have h3' : ¬ (100 : Int) < (l.length : Int) := h3
  go_upto_region 10 with (first
    | ((with_reducible refine wpList_load_mid rfl 24 (.tmp 3) rfl g3 0 ?hx (a.cells) _ ?hc Try.underlying24 rfl ?hi ?_); (case hx => rfl); (case hc => exact (HF13.out.get 2 rfl).whole); (case hi => exact i24 HA.out))
    | ((with_reducible refine wpList_load_mid rfl 28 (.tmp 5) rfl g5 0 ?hx (pk code id (.slice Ad l.length cd)) _ ?hc Try.underlying28 rfl ?hi ?_); (case hx => rfl); (case hc => exact (HF13.out.get 1 rfl).whole); (case hi => exact by kernel_rfl))
    | (go_at_call 12; refine (Judge_calls a HA.out us A c code id Ad cd l HS.out _ (Kd.C_below HR.out HF13.out.bel) HC.out (Kd.C_below HRD.out HF13.out.bel) HCD.out).mono ?_; rintro e w11 ⟨rfl, hb⟩; rw [HNN.out, HJC.out, HJG.out]; have HF14 := Aside0.mk (HF13.out.keep hb); clear HF13 hb))
  clear h3 h3'
  cases jc with
  | false =>
    go_wp2
    go_ret
    exact ⟨rfl, HF14.out.bel⟩
  | true =>
  have hid := once_spec HJC.out
  obtain rfl := hid
  rw [Bool.true_and]
  obtain ⟨b1, hb1⟩ : ∃ b1, endA a nn v gd = b1 := ⟨_, rfl⟩
  obtain ⟨c1, hc1⟩ : ∃ c1, begA a v = c1 := ⟨_, rfl⟩
  obtain ⟨e1, he1⟩ : ∃ e1 : Int, (if gd = true then 3 else 4) = e1 := ⟨_, rfl⟩
  have HBE := Aside0.mk hb1
  have HCE := Aside0.mk hc1
  have HE1 := Aside0.mk he1
  have HBW := Aside0.mk (show b1.wf by rw [← hb1]; exact once_wf HA.out _ HV.out _)
  have HCW := Aside0.mk (show c1.wf by rw [← hc1]; exact askA_wf (wf0 _) HV.out)
  have HBJ := Aside0.mk (show judC b1 code a.id l = false by rw [← hb1]; exact once_end ..)
  have HCJ := Aside0.mk (show judC c1 code a.id l = false by rw [← hc1]; exact once_late ..)
  have HCI := Aside0.mk (show c1.id = askI a.id by rw [← hc1]; rfl)
  clear hb1 hc1 he1
  go_upto_region 13 with (first
    | ((with_reducible refine wpList_load_mid rfl 24 (.tmp 3) rfl g3 0 ?hx (a.cells) _ ?hc Try.underlying24 rfl ?hi ?_); (case hx => rfl); (case hc => exact (HF14.out.get 2 rfl).whole); (case hi => exact i24 HA.out))
    | ((with_reducible refine wpList_load_mid rfl 22 (.tmp 6) rfl g6 0 ?hx (ints v) _ ?hc Try.underlying22 rfl ?hi ?_); (case hx => rfl); (case hc => exact (HF14.out.get 0 rfl).whole); (case hi => exact i22 HV.out))
    | (go_at_call 14; refine (End_calls a HA.out nn v HV.out gd _).mono ?_; rintro e w12 ⟨rfl, hb⟩; rw [HBE.out, HE1.out]; have HF15 := Aside0.mk (HF14.out.keep hb); clear hb HF14)
    | ((with_reducible refine gate_dst (N := 12) rfl ?_); refine box_event ?hg (N := 12) ?hd (cs := Au.zero.cells.toArray) (t := 24) ?hr ?_; (case hd => rfl); (case hg => rfl); (case hr => first | (go_simp; done) | (go_simp; rfl)); intro g12 hg w13 hbox hb; have HF16 := Aside0.mk (show Fam w [(g12, 24, Au.zero.cells), (g6, 22, ints v), (g5, 28, pk code a.id (.slice Ad l.length cd)), (g3, 24, a.cells), (g1, 49, onceL a (.slice A us.length c) (.slice Ad l.length cd) code a.id v gd)] w13 from HF15.out.box hg hbox hb); clear hbox hb hg HF15)
    | ((with_reducible refine gate_dst (N := 13) rfl ?_); refine box_event ?hg (N := 13) ?hd (cs := zP.toArray) (t := 28) ?hr ?_; (case hd => rfl); (case hg => rfl); (case hr => first | (go_simp; done) | (go_simp; rfl)); intro g13 hg w14 hbox hb; have HF17 := Aside0.mk (show Fam w [(g13, 28, zP), (g12, 24, Au.zero.cells), (g6, 22, ints v), (g5, 28, pk code a.id (.slice Ad l.length cd)), (g3, 24, a.cells), (g1, 49, onceL a (.slice A us.length c) (.slice Ad l.length cd) code a.id v gd)] w14 from HF16.out.box hg hbox hb); clear hbox hb hg HF16)
    | ((with_reducible refine wpList_store_mid rfl 24 (.tmp 12) (.tmp 65) rfl g12 0 (b1.cells).toArray ?hx ?hy ?h5 ?h6 ?h7 ?_); (case hx => rfl); (case hy => rfl); (case h5 => exact (HF17.out.get 1 rfl).there (by rw [List.size_toArray, Nat.zero_add]; exact Nat.le_of_eq (Eq.symm (zlen HBW.out)))); (case h6 => exact i24 HBW.out); (case h7 => exact Au.one _); have HF18 := Aside0.mk (HF17.out.over 1 rfl (b1.cells) (zlen HBW.out)); clear HF17)
    | ((with_reducible refine wpList_store_mid rfl 28 (.tmp 13) (.tmp 66) rfl g13 0 (pk e1 a.id (.slice none 0 0)).toArray ?hx ?hy ?h5 ?h6 ?h7 ?_); (case hx => rfl); (case hy => rfl); (case h5 => exact (HF18.out.get 0 rfl).there (by rw [List.size_toArray, Nat.zero_add]; exact Nat.le_of_eq (Eq.symm (rfl)))); (case h6 => exact by kernel_rfl); (case h7 => exact by simp [pk, Value.oneCell']); have HF19 := Aside0.mk (HF18.out.over 0 rfl (pk e1 a.id (.slice none 0 0)) (rfl)); clear HF18))
  have HF20 := Aside0.mk (show Fam w [(g13, 28, pk e1 a.id (.slice none 0 0)), (g12, 24, b1.cells), (g6, 22, ints v), (g5, 28, pk code a.id (.slice Ad l.length cd)), (g3, 24, a.cells), (g1, 49, onceL a (.slice A us.length c) (.slice Ad l.length cd) code a.id v gd)] _ from HF19.out)
  clear HF19
  generalize World.setCells _ _ _ _ = w15 at HF20 ⊢
  go_upto_region 15 with (first
    | ((with_reducible refine wpList_load_mid rfl 24 (.tmp 12) rfl g12 0 ?hx (b1.cells) _ ?hc Try.underlying24 rfl ?hi ?_); (case hx => rfl); (case hc => exact (HF20.out.get 1 rfl).whole); (case hi => exact i24 HBW.out))
    | ((with_reducible refine wpList_load_mid rfl 28 (.tmp 5) rfl g5 0 ?hx (pk code a.id (.slice Ad l.length cd)) _ ?hc Try.underlying28 rfl ?hi ?_); (case hx => rfl); (case hc => exact (HF20.out.get 3 rfl).whole); (case hi => exact by kernel_rfl))
    | (have hq_ := HF20; clear hq_; go_at_call 12; refine (Judge_calls b1 HBW.out us A c code a.id Ad cd l HS.out _ (Kd.C_below HR.out HF20.out.bel) HC.out (Kd.C_below HRD.out HF20.out.bel) HCD.out).mono ?_; rintro e w16 ⟨rfl, hb⟩; rw [HBJ.out, Bool.false_and]; have HF21 := Aside0.mk (HF20.out.keep hb); clear HF20 hb)
    | ((with_reducible refine wpList_load_mid rfl 24 (.tmp 3) rfl g3 0 ?hx (a.cells) _ ?hc Try.underlying24 rfl ?hi ?_); (case hx => rfl); (case hc => exact (HF21.out.get 4 rfl).whole); (case hi => exact i24 HA.out))
    | ((with_reducible refine wpList_load_mid rfl 22 (.tmp 6) rfl g6 0 ?hx (ints v) _ ?hc Try.underlying22 rfl ?hi ?_); (case hx => rfl); (case hc => exact (HF21.out.get 2 rfl).whole); (case hi => exact i22 HV.out))
    | (go_at_call 16; refine (Begin_calls a HA.out v HV.out _).mono ?_; rintro e w17 ⟨Aq, cq, rfl, hb⟩; rw [HCE.out]; have HF22 := Aside0.mk (HF21.out.keep hb); clear hb HF21)
    | ((with_reducible refine gate_dst (N := 17) rfl ?_); refine box_event ?hg (N := 17) ?hd (cs := Au.zero.cells.toArray) (t := 24) ?hr ?_; (case hd => rfl); (case hg => rfl); (case hr => first | (go_simp; done) | (go_simp; rfl)); intro g17 hg w18 hbox hb; have HF23 := Aside0.mk (show Fam w [(g17, 24, Au.zero.cells), (g13, 28, pk e1 a.id (.slice none 0 0)), (g12, 24, b1.cells), (g6, 22, ints v), (g5, 28, pk code a.id (.slice Ad l.length cd)), (g3, 24, a.cells), (g1, 49, onceL a (.slice A us.length c) (.slice Ad l.length cd) code a.id v gd)] w18 from HF22.out.box hg hbox hb); clear hbox hb hg HF22)
    | ((with_reducible refine gate_dst (N := 18) rfl ?_); refine box_event ?hg (N := 18) ?hd (cs := zP.toArray) (t := 28) ?hr ?_; (case hd => rfl); (case hg => rfl); (case hr => first | (go_simp; done) | (go_simp; rfl)); intro g18 hg w19 hbox hb; have HF24 := Aside0.mk (show Fam w [(g18, 28, zP), (g17, 24, Au.zero.cells), (g13, 28, pk e1 a.id (.slice none 0 0)), (g12, 24, b1.cells), (g6, 22, ints v), (g5, 28, pk code a.id (.slice Ad l.length cd)), (g3, 24, a.cells), (g1, 49, onceL a (.slice A us.length c) (.slice Ad l.length cd) code a.id v gd)] w19 from HF23.out.box hg hbox hb); clear hbox hb hg HF23)
    | ((with_reducible refine wpList_store_mid rfl 24 (.tmp 17) (.tmp 79) rfl g17 0 (c1.cells).toArray ?hx ?hy ?h5 ?h6 ?h7 ?_); (case hx => rfl); (case hy => rfl); (case h5 => exact (HF24.out.get 1 rfl).there (by rw [List.size_toArray, Nat.zero_add]; exact Nat.le_of_eq (Eq.symm (zlen HCW.out)))); (case h6 => exact i24 HCW.out); (case h7 => exact Au.one _); have HF25 := Aside0.mk (HF24.out.over 1 rfl (c1.cells) (zlen HCW.out)); clear HF24)
    | ((with_reducible refine wpList_store_mid rfl 28 (.tmp 18) (.tmp 80) rfl g18 0 (pk 1 (askI a.id) (.slice Aq 26 cq)).toArray ?hx ?hy ?h5 ?h6 ?h7 ?_); (case hx => rfl); (case hy => rfl); (case h5 => exact (HF25.out.get 0 rfl).there (by rw [List.size_toArray, Nat.zero_add]; exact Nat.le_of_eq (Eq.symm (rfl)))); (case h6 => exact by kernel_rfl); (case h7 => exact by simp [pk, Value.oneCell']); have HF26 := Aside0.mk (HF25.out.over 0 rfl (pk 1 (askI a.id) (.slice Aq 26 cq)) (rfl)); clear HF25))
  have HF27 := Aside0.mk (show Fam w [(g18, 28, pk 1 (askI a.id) (.slice Aq 26 cq)), (g17, 24, c1.cells), (g13, 28, pk e1 a.id (.slice none 0 0)), (g12, 24, b1.cells), (g6, 22, ints v), (g5, 28, pk code a.id (.slice Ad l.length cd)), (g3, 24, a.cells), (g1, 49, onceL a (.slice A us.length c) (.slice Ad l.length cd) code a.id v gd)] _ from HF26.out)
  clear HF26
  generalize World.setCells _ _ _ _ = w20 at HF27 ⊢
  go_upto_region 16 with (first
    | ((with_reducible refine wpList_load_mid rfl 24 (.tmp 17) rfl g17 0 ?hx (c1.cells) _ ?hc Try.underlying24 rfl ?hi ?_); (case hx => rfl); (case hc => exact (HF27.out.get 1 rfl).whole); (case hi => exact i24 HCW.out))
    | ((with_reducible refine wpList_load_mid rfl 28 (.tmp 5) rfl g5 0 ?hx (pk code a.id (.slice Ad l.length cd)) _ ?hc Try.underlying28 rfl ?hi ?_); (case hx => rfl); (case hc => exact (HF27.out.get 5 rfl).whole); (case hi => exact by kernel_rfl))
    | (have hq_ := HF27; clear hq_; go_at_call 12; refine (Judge_calls c1 HCW.out us A c code a.id Ad cd l HS.out _ (Kd.C_below HR.out HF27.out.bel) HC.out (Kd.C_below HRD.out HF27.out.bel) HCD.out).mono ?_; rintro e w21 ⟨rfl, hb⟩; rw [HCJ.out, Bool.false_and]; have HF28 := Aside0.mk (HF27.out.keep hb); clear HF27 hb))
  have hci : w21.cell? ⟨g17, 3, none⟩ = some (.int .u8 (askI a.id)) := by have h := Au.at3 (HF28.out.get 1 rfl); rw [HCI.out] at h; exact h
  have hpi : w21.cell? ⟨g5, 1, none⟩ = some (.int .u8 a.id) := (HF28.out.get 5 rfl).at_ rfl
  have hne : (askI a.id != a.id) = true := bne_iff_ne.mpr (askI_ne a.id).symm
  go_wp2
  go_ret
  exact ⟨rfl, HF28.out.bel⟩
end Go.Proofs.Ytpbkdphilcodmaa.Q
