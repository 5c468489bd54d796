/- portreevelaw15.shown: the document's example. -/
import Derived.Test.YtpbkdphilcodmaaChC
namespace Go.Proofs.Ytpbkdphilcodmaa.Q
open Go Go.RowKit Go.Proofs.YtpbkdphilcodmaaW.PrintWords Go.Proofs.YtpbkdphilcodmaaW.PrintLast Go.Proofs.YtpbkdphilcodmaaW.PrintMore
open Go.Proofs.YtpbkdphilcodmaaV Go.Proofs.Ytpbkdphilcodmaa.Pure
set_option linter.unusedVariables false
set_option linter.unusedSimpArgs false
def uB : ByteArray := ⟨#[117]⟩
def sB : ByteArray := ⟨#[115]⟩
def shU : List S54 := [⟨uB, sB⟩]
def shC : List Value := [.string ⟨#[117]⟩, .string ⟨#[115]⟩]
def v7 : List Int := [7, 0, 0, 0, 0, 0, 0, 0, 0, 0, 0, 0, 0, 0, 0, 0]
def shA : Au := begA Au.zero v7
theorem shA_wf : shA.wf := askA_wf (wf0 _) rfl
theorem digS_length (a : Au) (s : ByteArray) : (digS a s).length = 16 := md5_Sum.outs_length _ _
theorem sh_ix : ixU uB shU = some 0 := by rw [shU, ixU, if_pos rfl]
theorem sh_secB : secB uB shU = true := by unfold secB; rw [sh_ix]; rfl
theorem sh_secS : secS uB shU = sB := by unfold secS; rw [sh_ix]; rfl
theorem shU_usr : usr shU = true := by
  unfold usr usrP
  exact decide_eq_true ⟨⟨by simp [shU], fun u hu => by
    obtain rfl : u = ⟨uB, sB⟩ := by simpa [shU] using hu
    decide⟩, by decide⟩
theorem shU_short (n : ByteArray) : (secS n shU).size ≤ 4000 := secS_short shU_usr n
theorem sh_tickS : tickS shA = false := by decide +kernel
theorem sh_tickA : tickA shA no16 = lowA shA := by
  unfold tickA
  rw [if_pos (show shA.st = 1 from rfl), if_pos (show 0 < wrap64 (shA.lf - 1) by decide +kernel)]
theorem sh_lf : (lowA shA).lf = 3 := by decide +kernel
theorem sh_prv {d : List Int} (hd : digS shA sB = d) : prv (endA shA uB d true) shU = true := by
  unfold prv
  rw [decide_eq_true (show (endA shA uB d true).st = 2 from rfl), show (endA shA uB d true).who = uB from rfl, sh_secB, sh_secS, show digS (endA shA uB d true) sB = digS shA sB from rfl, hd, decide_eq_true (show (endA shA uB d true).prf = d from rfl)]
  rfl
theorem sh_rgt : rgt shA = true := by decide +kernel
theorem sh_strB : strB [117] = uB := rfl
theorem sh_ans (code : Int) {d : List Int} (hd : d.length = 16) (hc : code = 2) : ansB code ([16] ++ d ++ [117]) = true ∧ ansN code ([16] ++ d ++ [117]) = uB ∧ ansV code ([16] ++ d ++ [117]) = d := by
  obtain ⟨x0, x1, x2, x3, x4, x5, x6, x7, x8, x9, x10, x11, x12, x13, x14, x15, rfl⟩ := list16 hd
  have h : ansB code ([16] ++ [x0, x1, x2, x3, x4, x5, x6, x7, x8, x9, x10, x11, x12, x13, x14, x15] ++ [117]) = true := decide_eq_true ⟨hc, by simp, by simp, rfl⟩
  exact ⟨h, by unfold ansN; rw [h]; rfl, by unfold ansV; rw [h]; rfl⟩
set_option maxHeartbeats 8000000 in
set_option maxRecDepth 100000 in
theorem shown_calls (w : World) : Calls Try.prog 9 #[] w fun e w' => e = .returned (.bool true) ∧ Below w.heap.size w w' := by
  obtain ⟨d, hd⟩ : ∃ d, digS shA sB = d := ⟨_, rfl⟩
  have HD := Aside0.mk hd
  have HDL := Aside0.mk (show d.length = 16 from hd ▸ digS_length _ _)
  clear hd
  go_enter Try.func9, Try.ntmps9
  go_upto_region 2 with (first
    | ((with_reducible refine gate_dst (N := 20) rfl ?_); refine Kd.event_run (v := .slice (some ⟨w.heap.size, 0, none⟩) 1 1) (w1 := w.alloc (.cells shC.toArray 54)) rfl ?hr ?_; (case hr => first | (go_simp; done) | (go_simp; rfl))))
  have HF1 := Aside0.mk (show Fam w [(w.heap.size, 54, shC)] _ from (Fam.start (Below.refl w.heap.size w)).box rfl Blk.new (pA (Below.refl _ _) _))
  generalize hgu : w.heap.size = gu at HF1 ⊢
  have HGU := Aside0.mk hgu
  clear hgu
  generalize w.alloc (.cells shC.toArray 54) = w1 at HF1 ⊢
  go_upto_region 3 with (first
    | ((with_reducible refine gate_dst (N := 22) rfl ?_); refine Kd.event_run (v := .agg Au.zero.cells.toArray) (w1 := w1) rfl ?hr ?_; (case hr => first | (go_simp; done) | (go_simp; rfl)))
    | ((with_reducible refine gate_dst (N := 23) rfl ?_); refine Kd.event_run (v := .agg (ints v7).toArray) (w1 := w1) rfl ?hr ?_; (case hr => first | (go_simp; done) | (go_simp; rfl)))
    | (go_at_call 16; refine (Begin_calls Au.zero ⟨rfl, rfl⟩ v7 rfl _).mono ?_; rintro e w2 ⟨Ap, cp, rfl, hb⟩; have HF2 := Aside0.mk (HF1.out.keep hb); clear HF1 hb; rw [show begA Au.zero v7 = shA from rfl, show askI Au.zero.id = 1 from rfl])
    | ((with_reducible refine gate_dst (N := 2) rfl ?_); refine box_event ?hg (N := 2) ?hd (cs := Au.zero.cells.toArray) (t := 24) ?hr ?_; (case hd => rfl); (case hg => rfl); (case hr => first | (go_simp; done) | (go_simp; rfl)); intro g2 hg w3 hbox hb; have HF3 := Aside0.mk (show Fam w [(g2, 24, Au.zero.cells), (gu, 54, shC)] w3 from HF2.out.box hg hbox hb); clear hbox hb hg HF2)
    | ((with_reducible refine gate_dst (N := 3) rfl ?_); refine box_event ?hg (N := 3) ?hd (cs := zP.toArray) (t := 28) ?hr ?_; (case hd => rfl); (case hg => rfl); (case hr => first | (go_simp; done) | (go_simp; rfl)); intro g3 hg w4 hbox hb; have HF4 := Aside0.mk (show Fam w [(g3, 28, zP), (g2, 24, Au.zero.cells), (gu, 54, shC)] w4 from HF3.out.box hg hbox hb); clear hbox hb hg HF3)
    | ((with_reducible refine wpList_store_mid rfl 24 (.tmp 2) (.tmp 25) rfl g2 0 (shA.cells).toArray ?hx ?hy ?h5 ?h6 ?h7 ?_); (case hx => rfl); (case hy => rfl); (case h5 => exact (HF4.out.get 1 rfl).there (by rw [List.size_toArray, Nat.zero_add]; exact Nat.le_of_eq (Eq.symm (zlen shA_wf)))); (case h6 => exact i24 shA_wf); (case h7 => exact Au.one _); have HF5 := Aside0.mk (HF4.out.over 1 rfl (shA.cells) (zlen shA_wf)); clear HF4)
    | ((with_reducible refine wpList_store_mid rfl 28 (.tmp 3) (.tmp 26) rfl g3 0 (pk 1 1 (.slice Ap 26 cp)).toArray ?hx ?hy ?h5 ?h6 ?h7 ?_); (case hx => rfl); (case hy => rfl); (case h5 => exact (HF5.out.get 0 rfl).there (by rw [List.size_toArray, Nat.zero_add]; exact Nat.le_of_eq (Eq.symm (rfl)))); (case h6 => exact by kernel_rfl); (case h7 => exact by simp [pk, Value.oneCell']); have HF6 := Aside0.mk (HF5.out.over 0 rfl (pk 1 1 (.slice Ap 26 cp)) (rfl)); clear HF5))
  have HF7 := Aside0.mk (show Fam w [(g3, 28, pk 1 1 (.slice Ap 26 cp)), (g2, 24, shA.cells), (gu, 54, shC)] _ from HF6.out)
  clear HF6
  generalize World.setCells _ _ _ _ = w5 at HF7 ⊢
  have hc3 : w5.cell? ⟨g2, 3, none⟩ = some (.int .u8 1) := Au.at3 (HF7.out.get 1 rfl)
  have hnil : (ints no16).length = (ints d).length := by rw [ints_length, ints_length, HDL.out]; rfl
  have HNIL := Aside0.mk hnil
  clear hnil
  go_upto_region 4 with (first
    | ((with_reducible refine wpList_load_mid rfl 22 (.tmp 29) rfl g2 4 ?hx (ints v7) _ ?hc Try.underlying22 rfl ?hi ?_); (case hx => rfl); (case hc => exact Au.atVal (HF7.out.get 1 rfl)); (case hi => exact by kernel_rfl))
    | (go_at_call 21; refine (Digest_calls 1 sB v7 rfl (by decide) _).mono ?_; rintro e w6 ⟨rfl, hb⟩; rw [show digL (1 :: (nums sB ++ v7)) = d from HD.out]; have HF8 := Aside0.mk (HF7.out.keep hb); clear HF7 hb hc3)
    | ((with_reducible refine gate_dst (N := 4) rfl ?_); refine box_event ?hg (N := 4) ?hd (cs := (ints no16).toArray) (t := 22) ?hr ?_; (case hd => rfl); (case hg => rfl); (case hr => first | (go_simp; done) | (go_simp; rfl)); intro g4 hg w7 hbox hb; have HF9 := Aside0.mk (show Fam w [(g4, 22, ints no16), (g3, 28, pk 1 1 (.slice Ap 26 cp)), (g2, 24, shA.cells), (gu, 54, shC)] w7 from HF8.out.box hg hbox hb); clear hbox hb hg HF8)
    | ((with_reducible refine wpList_store_mid rfl 22 (.tmp 4) (.tmp 31) rfl g4 0 (ints d).toArray ?hx ?hy ?h5 ?h6 ?h7 ?_); (case hx => rfl); (case hy => rfl); (case h5 => exact (HF9.out.get 0 rfl).there (by rw [List.size_toArray, Nat.zero_add]; exact Nat.le_of_eq (Eq.symm (HNIL.out)))); (case h6 => exact i22 HDL.out); (case h7 => exact ints_one _); have HF10 := Aside0.mk (HF9.out.over 0 rfl (ints d) (HNIL.out)); clear HF9))
  have HF11 := Aside0.mk (show Fam w [(g4, 22, ints d), (g3, 28, pk 1 1 (.slice Ap 26 cp)), (g2, 24, shA.cells), (gu, 54, shC)] _ from HF10.out)
  clear HF10
  generalize World.setCells _ _ _ _ = w8 at HF11 ⊢
  obtain ⟨q, hq⟩ : ∃ q, [16] ++ d = q := ⟨_, rfl⟩
  obtain ⟨q2, hq2⟩ : ∃ q2, q ++ [117] = q2 := ⟨_, rfl⟩
  have HQ2 := Aside0.mk hq2
  have HQL := Aside0.mk (show q.length = 17 by rw [← hq, List.length_append, HDL.out]; rfl)
  have hq3 : [16] ++ d ++ [117] = q2 := by rw [hq, hq2]
  have HQ := Aside0.mk hq
  have ha := sh_ans 2 HDL.out rfl
  rw [hq3] at ha
  have HAN := Aside0.mk ha
  have hjc : judC shA 2 1 q2 = true := by unfold judC; rw [ha.1]; rfl
  have hjg : judG shA shU 2 q2 = true := by unfold judG; rw [ha.2.1, ha.2.2, sh_secB, sh_secS, HD.out, decide_eq_true rfl]; rfl
  have HJ1 := Aside0.mk (show judN shA 2 1 q2 = uB by unfold judN; rw [hjc, if_pos rfl]; exact ha.2.1)
  have HJ2 := Aside0.mk (show (judC shA 2 1 q2 && judG shA shU 2 q2) = true by rw [hjc, hjg]; rfl)
  have HJ3 := Aside0.mk hjc
  clear hq hq2 hq3 ha hjc hjg
  go_upto_region 5 with (first
    | ((with_reducible refine gate_dst (N := 32) rfl ?_); refine Kd.event_run (v := .slice (some ⟨w8.heap.size, 0, none⟩) 1 1) (w1 := w8.alloc (.cells (ints [16]).toArray 5)) rfl ?hr ?_; (case hr => first | (go_simp; done) | (go_simp; rfl)); have HF12 := Aside0.mk (HF11.out.alloc (.cells (ints [16]).toArray 5)); have HS := Aside0.mk (Blk.new (w := w8) (t := 5) (cs := ints [16])); clear HF11)
    | ((with_reducible refine gate_dst (N := 34) rfl ?_); obtain ⟨g5, sp, w10, hrun, hF, _⟩ := app_grow (g := w8.heap.size) (a := ⟨g4, 0, none⟩) (cap := 1) (l := [16]) (m := d) (sp := []) (c := 16) (ty := 26) HF12.out (by rw [List.append_nil]; exact HS.out) (fun j u hj => by rw [Addr.add_mid, Nat.zero_add]; exact (HF12.out.get 0 rfl).at_ hj) (by rw [HDL.out]; decide) (by rw [HDL.out]; decide); rw [HQ.out, HDL.out] at hrun; rw [HQ.out] at hF; refine Kd.event_run (v := .slice (some ⟨g5, 0, none⟩) q.length (q.length + sp.length)) (w1 := w10) rfl (app_event rfl rfl rfl hrun) ?_; have HF13 := Aside0.mk hF; clear hrun hF HF12 HS))
  refine start_ (n := 14) (S := fun w' => Blk w' g2 24 shA.cells) (ds := []) #[false, false, false, false, false, false, false, false, false, false, false, false, false, false] (by kernel_rfl) rfl rfl (HF13.out.get 3 rfl).drew (fun hHeld => ?_)
  have HF14 := Aside0.mk HF13.out.drew
  clear HF13
  generalize World.drew _ = w11 at HF14 hHeld ⊢
  refine take_ (i := 0) (N := some 36) (v := .agg shA.cells.toArray) (a' := ?_) #[true, false, false, false, false, false, false, false, false, false, false, false, false, false] rfl rfl (by kernel_rfl) (fun _ _ _ h => h) (yieldsIf_load_mid (by rfl) 24 (.tmp 2) rfl g2 0 rfl _ _ (fun w' h => h.whole) Try.underlying24 rfl (i24 shA_wf)) hHeld ?_ ?_
  rotate_left
  · simp only [Act.put, sT, s0, s1]
    rfl
  refine pure_ (i := 1) (N := some 37) (v := ?_) (a' := ?_) #[true, true, false, false, false, false, false, false, false, false, false, false, false, false] rfl rfl (by kernel_rfl) (fun _ _ _ h => h) (Or.inl ⟨by rfl, ?_⟩) ?_ ?_
  rotate_left
  · intro w'
    go_simp
    with_reducible rfl
  rotate_left
  · simp only [Act.put, sT, s0, s1, i64_w, i32_w]
    rfl
  refine pure_ (i := 2) (N := some 38) (v := ?_) (a' := ?_) #[true, true, true, false, false, false, false, false, false, false, false, false, false, false] rfl rfl (by kernel_rfl) (fun _ _ _ h => h) (Or.inl ⟨by rfl, ?_⟩) ?_ ?_
  rotate_left
  · intro w'
    go_simp
    with_reducible rfl
  rotate_left
  · simp only [Act.put, sT, s0, s1, i64_w, i32_w]
    rfl
  refine one_ (i := 3) (N := some 39) #[true, true, true, true, false, false, false, false, false, false, false, false, false, false] rfl rfl (by kernel_rfl) (by decide) (fun K hK => ?_)
  refine value_ (by rfl) rfl (show (execOp _ _).run Try.prog _ = .ok (.value (.slice (some ⟨w11.heap.size, 0, none⟩) 1 1)) (w11.alloc (.cells (ints [117]).toArray 5)) by first | (go_simp; done) | (go_simp; rfl)) ?_
  have HF15 := Aside0.mk (HF14.out.alloc (.cells (ints [117]).toArray 5))
  have HU := Aside0.mk (Blk.new (w := w11) (t := 5) (cs := ints [117]))
  clear HF14
  generalize hgx : w11.heap.size = gx at HU ⊢
  clear hgx
  generalize w11.alloc _ = w12 at HF15 HU ⊢
  refine hK.out _ _ (HF15.out.get 3 rfl) (fun hHeld => ?_)
  clear hK K
  refine norm_ (a' := ?_) ?_ ?_
  rotate_left
  · show Act.put _ (some 39) _ = _
    simp only [Act.put, sT, s0, s1, i64_w, i32_w]
    rfl
  obtain ⟨A2, c2, sp2, w13, hrun, hc2, hC2, hsp2, hF, _⟩ := app_keep (i := 0) (g := g5) (a := ⟨gx, 0, none⟩) (l := q) (m := [117]) (sp := sp) (c := 1) (ty := 26) HF15.out rfl (fun j u hj => by rw [Addr.add_mid, Nat.zero_add]; exact HU.out.at_ hj) (by rw [HQL.out]; decide)
  have HF16 := Aside0.mk (show Fam w [(g5, 5, ints q ++ sp2), (g4, 22, ints d), (g3, 28, pk 1 1 (.slice Ap 26 cp)), (g2, 24, shA.cells), (gu, 54, shC)] _ from hF)
  have HSP2 := Aside0.mk hsp2
  rw [HQ2.out] at hrun hc2 hC2
  have HC2 := Aside0.mk hC2
  have HK2 := Aside0.mk hc2
  skip
  refine one_ (i := 4) (N := some 40) #[true, true, true, true, true, false, false, false, false, false, false, false, false, false] rfl rfl (by kernel_rfl) (by decide) (fun K hK => ?_)
  refine value_ (by rfl) rfl (app_event rfl rfl rfl hrun) ?_
  clear hrun hF hsp2 hC2 hc2 HF15 HU
  refine hK.out _ _ (HF16.out.get 3 rfl) (fun hHeld => ?_)
  clear hK K
  refine norm_ (a' := ?_) ?_ ?_
  rotate_left
  · show Act.put _ (some 40) _ = _
    simp only [Act.put, sT, s0, s1, i64_w, i32_w]
    rfl
  refine pure_ (i := 5) (N := some 41) (v := ?_) (a' := ?_) #[true, true, true, true, true, true, false, false, false, false, false, false, false, false] rfl rfl (by kernel_rfl) (fun _ _ _ h => h) (Or.inl ⟨by rfl, ?_⟩) ?_ ?_
  rotate_left
  · intro w'
    go_simp
    with_reducible rfl
  rotate_left
  · simp only [Act.put, sT, s0, s1, i64_w, i32_w]
    rfl
  refine one_ (i := 6) (N := some 42) #[true, true, true, true, true, true, true, false, false, false, false, false, false, false] rfl rfl (by kernel_rfl) (by decide) (fun K hK => ?_)
  refine goes_ Try.func12 (by kernel_rfl) rfl #[.agg shA.cells.toArray, .slice (some ⟨gu, 0, none⟩) 1 1, .agg (pk 2 1 (.slice A2 q2.length c2)).toArray] (by rfl) rfl rfl (by (try simp only [List.map_toArray, List.map_cons, List.map_nil]); first | done | rfl) ?_
  refine (Judge_calls shA shA_wf shU (some ⟨gu, 0, none⟩) 1 2 1 A2 c2 q2 shU_short _ (users_C (HF16.out.get 4 rfl)) (Nat.le_refl _) HC2.out HK2.out).mono ?_
  rintro e w14 ⟨rfl, hb⟩
  rw [HJ1.out, HJ2.out, HJ3.out]
  refine ⟨_, rfl, ?_⟩
  have HF17 := Aside0.mk (HF16.out.keep hb)
  clear HF16 hb HC2 HK2
  refine hK.out _ _ (HF17.out.get 3 rfl) (fun hHeld => ?_)
  clear hK K
  refine norm_ (a' := ?_) ?_ ?_
  rotate_left
  · show Act.put _ (some 42) _ = _
    simp only [Act.put, sT, s0, s1, i64_w, i32_w]
    rfl
  refine pure_ (i := 7) (N := some 35) (v := ?_) (a' := ?_) #[true, true, true, true, true, true, true, true, false, false, false, false, false, false] rfl rfl (by kernel_rfl) (fun _ _ _ h => h) (Or.inl ⟨by rfl, ?_⟩) ?_ ?_
  rotate_left
  · intro w'
    go_simp
    with_reducible rfl
  rotate_left
  · simp only [Act.put, sT, s0, s1, i64_w, i32_w]
    rfl
  refine pure_ (i := 8) (N := some 43) (v := ?_) (a' := ?_) #[true, true, true, true, true, true, true, true, true, false, false, false, false, false] rfl rfl (by kernel_rfl) (fun _ _ _ h => h) (Or.inl ⟨by rfl, ?_⟩) ?_ ?_
  rotate_left
  · intro w'
    go_simp
    with_reducible rfl
  rotate_left
  · simp only [Act.put, sT, s0, s1, i64_w, i32_w]
    rfl
  refine pure_ (i := 9) (N := some 44) (v := ?_) (a' := ?_) #[true, true, true, true, true, true, true, true, true, true, false, false, false, false] rfl rfl (by kernel_rfl) (fun _ _ _ h => h) (Or.inl ⟨by rfl, ?_⟩) ?_ ?_
  rotate_left
  · intro w'
    go_simp
    with_reducible rfl
  rotate_left
  · simp only [Act.put, sT, s0, s1, i64_w, i32_w]
    rfl
  refine pure_ (i := 10) (N := some 45) (v := ?_) (a' := ?_) #[true, true, true, true, true, true, true, true, true, true, true, false, false, false] rfl rfl (by kernel_rfl) (fun _ _ _ h => h) (Or.inl ⟨by rfl, ?_⟩) ?_ ?_
  rotate_left
  · intro w'
    go_simp
    with_reducible rfl
  rotate_left
  · simp only [Act.put, sT, s0, s1, i64_w, i32_w]
    rfl
  refine pure_ (i := 11) (N := some 6) (v := ?_) (a' := ?_) #[true, true, true, true, true, true, true, true, true, true, true, true, false, false] rfl rfl (by kernel_rfl) (fun _ _ _ h => h) (Or.inl ⟨by rfl, ?_⟩) ?_ ?_
  rotate_left
  · intro w'
    go_simp
    with_reducible rfl
  rotate_left
  · simp only [Act.put, sT, s0, s1, i64_w, i32_w]
    rfl
  refine pure_ (i := 12) (N := some 7) (v := ?_) (a' := ?_) #[true, true, true, true, true, true, true, true, true, true, true, true, true, false] rfl rfl (by kernel_rfl) (fun _ _ _ h => h) (Or.inl ⟨by rfl, ?_⟩) ?_ ?_
  rotate_left
  · intro w'
    go_simp
    with_reducible rfl
  rotate_left
  · simp only [Act.put, sT, s0, s1, i64_w, i32_w]
    rfl
  refine pure_ (i := 13) (N := some 8) (v := ?_) (a' := ?_) #[true, true, true, true, true, true, true, true, true, true, true, true, true, true] rfl rfl (by kernel_rfl) (fun _ _ _ h => h) (Or.inl ⟨by rfl, ?_⟩) ?_ ?_
  rotate_left
  · intro w'
    go_simp
    with_reducible rfl
  rotate_left
  · simp only [Act.put, sT, s0, s1, i64_w, i32_w]
    rfl
  refine done_ (by kernel_rfl) ?_
  clear hHeld
  go_upto_region 7 with (first
    | ((with_reducible refine wpList_load_mid rfl 24 (.tmp 2) rfl g2 0 ?hx (shA.cells) _ ?hc Try.underlying24 rfl ?hi ?_); (case hx => rfl); (case hc => exact (HF17.out.get 3 rfl).whole); (case hi => exact i24 shA_wf))
    | ((with_reducible refine wpList_load_mid rfl 22 (.tmp 4) rfl g4 0 ?hx (ints d) _ ?hc Try.underlying22 rfl ?hi ?_); (case hx => rfl); (case hc => exact (HF17.out.get 1 rfl).whole); (case hi => exact i22 HDL.out))
    | (go_at_call 14; refine (End_calls shA shA_wf uB d HDL.out true _).mono ?_; rintro e w15 ⟨rfl, hb⟩; rw [show pk (if (true : Bool) = true then 3 else 4) shA.id (.slice none 0 0) = pk 3 1 (.slice none 0 0) from rfl]; obtain ⟨b1, hb1⟩ : ∃ b1, endA shA uB d true = b1 := ⟨_, rfl⟩; rw [hb1]; have HB1 := Aside0.mk hb1; have HPR := Aside0.mk (show prv b1 shU = true by rw [← hb1]; exact sh_prv HD.out); have HBW := Aside0.mk (show b1.wf by rw [← hb1]; exact ⟨rfl, HDL.out⟩); have HF18 := Aside0.mk (HF17.out.keep hb); clear hb hb1 HF17)
    | ((with_reducible refine gate_dst (N := 9) rfl ?_); refine box_event ?hg (N := 9) ?hd (cs := Au.zero.cells.toArray) (t := 24) ?hr ?_; (case hd => rfl); (case hg => rfl); (case hr => first | (go_simp; done) | (go_simp; rfl)); intro g9 hg w16 hbox hb; have HF19 := Aside0.mk (show Fam w [(g9, 24, Au.zero.cells), (g5, 5, ints q ++ sp2), (g4, 22, ints d), (g3, 28, pk 1 1 (.slice Ap 26 cp)), (g2, 24, shA.cells), (gu, 54, shC)] w16 from HF18.out.box hg hbox hb); clear hbox hb hg HF18)
    | ((with_reducible refine gate_dst (N := 10) rfl ?_); refine box_event ?hg (N := 10) ?hd (cs := zP.toArray) (t := 28) ?hr ?_; (case hd => rfl); (case hg => rfl); (case hr => first | (go_simp; done) | (go_simp; rfl)); intro g10 hg w17 hbox hb; have HF20 := Aside0.mk (show Fam w [(g10, 28, zP), (g9, 24, Au.zero.cells), (g5, 5, ints q ++ sp2), (g4, 22, ints d), (g3, 28, pk 1 1 (.slice Ap 26 cp)), (g2, 24, shA.cells), (gu, 54, shC)] w17 from HF19.out.box hg hbox hb); clear hbox hb hg HF19)
    | ((with_reducible refine wpList_store_mid rfl 24 (.tmp 9) (.tmp 52) rfl g9 0 (b1.cells).toArray ?hx ?hy ?h5 ?h6 ?h7 ?_); (case hx => rfl); (case hy => rfl); (case h5 => exact (HF20.out.get 1 rfl).there (by rw [List.size_toArray, Nat.zero_add]; exact Nat.le_of_eq (Eq.symm (zlen HBW.out)))); (case h6 => exact i24 HBW.out); (case h7 => exact Au.one _); have HF21 := Aside0.mk (HF20.out.over 1 rfl (b1.cells) (zlen HBW.out)); clear HF20)
    | ((with_reducible refine wpList_store_mid rfl 28 (.tmp 10) (.tmp 53) rfl g10 0 (pk 3 1 (.slice none 0 0)).toArray ?hx ?hy ?h5 ?h6 ?h7 ?_); (case hx => rfl); (case hy => rfl); (case h5 => exact (HF21.out.get 0 rfl).there (by rw [List.size_toArray, Nat.zero_add]; exact Nat.le_of_eq (Eq.symm (rfl)))); (case h6 => exact by kernel_rfl); (case h7 => exact by simp [pk, Value.oneCell']); have HF22 := Aside0.mk (HF21.out.over 0 rfl (pk 3 1 (.slice none 0 0)) (rfl)); clear HF21))
  have HF23 := Aside0.mk (show Fam w [(g10, 28, pk 3 1 (.slice none 0 0)), (g9, 24, b1.cells), (g5, 5, ints q ++ sp2), (g4, 22, ints d), (g3, 28, pk 1 1 (.slice Ap 26 cp)), (g2, 24, shA.cells), (gu, 54, shC)] _ from HF22.out)
  clear HF22
  generalize World.setCells _ _ _ _ = w18 at HF23 ⊢
  go_upto_region 8 with (first
    | ((with_reducible refine wpList_load_mid rfl 24 (.tmp 2) rfl g2 0 ?hx (shA.cells) _ ?hc Try.underlying24 rfl ?hi ?_); (case hx => rfl); (case hc => exact (HF23.out.get 5 rfl).whole); (case hi => exact i24 shA_wf))
    | ((with_reducible refine gate_dst (N := 56) rfl ?_); refine Kd.event_run (v := .agg (ints no16).toArray) (w1 := w18) rfl ?hr ?_; (case hr => first | (go_simp; done) | (go_simp; rfl)))
    | (go_at_call 17; refine (Tick_calls shA shA_wf no16 rfl _).mono ?_; rintro e w19 ⟨u, rfl, hb, hs⟩; obtain rfl : u = .slice none 0 0 := (by unfold sentP at hs; rw [sh_tickS] at hs; exact hs); obtain ⟨c1, hc1⟩ : ∃ c1, lowA shA = c1 := ⟨_, rfl⟩; rw [sh_tickA, hc1]; have HCW := Aside0.mk (show c1.wf by rw [← hc1]; exact ⟨rfl, rfl⟩); have HCL := Aside0.mk (show c1.lf = 3 by rw [← hc1]; exact sh_lf); have HF24 := Aside0.mk (HF23.out.keep hb); clear hb hs hc1 HF23)
    | ((with_reducible refine gate_dst (N := 11) rfl ?_); refine box_event ?hg (N := 11) ?hd (cs := Au.zero.cells.toArray) (t := 24) ?hr ?_; (case hd => rfl); (case hg => rfl); (case hr => first | (go_simp; done) | (go_simp; rfl)); intro g11 hg w20 hbox hb; have HF25 := Aside0.mk (show Fam w [(g11, 24, Au.zero.cells), (g10, 28, pk 3 1 (.slice none 0 0)), (g9, 24, b1.cells), (g5, 5, ints q ++ sp2), (g4, 22, ints d), (g3, 28, pk 1 1 (.slice Ap 26 cp)), (g2, 24, shA.cells), (gu, 54, shC)] w20 from HF24.out.box hg hbox hb); clear hbox hb hg HF24)
    | ((with_reducible refine wpList_store_mid rfl 24 (.tmp 11) (.tmp 58) rfl g11 0 (c1.cells).toArray ?hx ?hy ?h5 ?h6 ?h7 ?_); (case hx => rfl); (case hy => rfl); (case h5 => exact (HF25.out.get 0 rfl).there (by rw [List.size_toArray, Nat.zero_add]; exact Nat.le_of_eq (Eq.symm (zlen HCW.out)))); (case h6 => exact i24 HCW.out); (case h7 => exact Au.one _); have HF26 := Aside0.mk (HF25.out.over 0 rfl (c1.cells) (zlen HCW.out)); clear HF25))
  have HF27 := Aside0.mk (show Fam w [(g11, 24, c1.cells), (g10, 28, pk 3 1 (.slice none 0 0)), (g9, 24, b1.cells), (g5, 5, ints q ++ sp2), (g4, 22, ints d), (g3, 28, pk 1 1 (.slice Ap 26 cp)), (g2, 24, shA.cells), (gu, 54, shC)] _ from HF26.out)
  clear HF26
  generalize World.setCells _ _ _ _ = w21 at HF27 ⊢
  go_upto_region 9 with (first
    | (go_at_call 20; refine (Secret_calls shU (some ⟨gu, 0, none⟩) 1 uB _ (users_C (HF27.out.get 7 rfl)) (Nat.le_refl _)).mono ?_; rintro e w22 ⟨rfl, hb⟩; rw [sh_secS, sh_secB]; have HF28 := Aside0.mk (HF27.out.keep hb); clear hb HF27))
  go_upto_region 10 with (first
    | ((with_reducible refine gate_dst (N := 67) rfl ?_); refine Kd.event_run (v := .slice (some ⟨w22.heap.size, 0, none⟩) 1 1) (w1 := w22.alloc (.cells (ints [117]).toArray 5)) rfl ?hr ?_; (case hr => first | (go_simp; done) | (go_simp; rfl)); have HF29 := Aside0.mk (HF28.out.alloc (.cells (ints [117]).toArray 5)); have HU := Aside0.mk (Blk.new (w := w22) (t := 5) (cs := ints [117])); clear HF28)
    | ((with_reducible refine gate_dst (N := 68) rfl ?_); obtain ⟨A3, c3, sp3, w23, hrun, hc3, hC3, hsp3, hF, _⟩ := app_keep (i := 3) (g := g5) (a := ⟨w22.heap.size, 0, none⟩) (l := q) (m := [117]) (sp := sp2) (c := 1) (ty := 26) HF29.out rfl (fun j u hj => by rw [Addr.add_mid, Nat.zero_add]; exact HU.out.at_ hj) (by rw [HQL.out]; decide); rw [HSP2.out] at hrun; rw [HQ2.out] at hrun hc3 hC3; refine Kd.event_run (v := .slice A3 q2.length c3) (w1 := w23) rfl (app_event rfl rfl rfl hrun) ?_; have HF30 := Aside0.mk (show Fam w [(g11, 24, c1.cells), (g10, 28, pk 3 1 (.slice none 0 0)), (g9, 24, b1.cells), (g5, 5, ints q ++ sp3), (g4, 22, ints d), (g3, 28, pk 1 1 (.slice Ap 26 cp)), (g2, 24, shA.cells), (gu, 54, shC)] w23 from hF); have HC3 := Aside0.mk hC3; have HK3 := Aside0.mk hc3; clear hrun hF hsp3 hC3 hc3 HF29 HU)
    | (go_at_call 13; refine (Answer_calls 2 0 A3 c3 q2 _ HC3.out HK3.out).mono ?_; rintro e w24 ⟨rfl, hb⟩; rw [HAN.out.1, HAN.out.2.1, HAN.out.2.2]; have HF31 := Aside0.mk (HF30.out.keep hb); clear hb HF30 HC3 HK3)
    | ((with_reducible refine gate_dst (N := 16) rfl ?_); refine box_event ?hg (N := 16) ?hd (cs := (ints no16).toArray) (t := 22) ?hr ?_; (case hd => rfl); (case hg => rfl); (case hr => first | (go_simp; done) | (go_simp; rfl)); intro g16 hg w25 hbox hb; have HF32 := Aside0.mk (show Fam w [(g16, 22, ints no16), (g11, 24, c1.cells), (g10, 28, pk 3 1 (.slice none 0 0)), (g9, 24, b1.cells), (g5, 5, ints q ++ sp3), (g4, 22, ints d), (g3, 28, pk 1 1 (.slice Ap 26 cp)), (g2, 24, shA.cells), (gu, 54, shC)] w25 from HF31.out.box hg hbox hb); clear hbox hb hg HF31)
    | ((with_reducible refine wpList_store_mid rfl 22 (.tmp 16) (.tmp 72) rfl g16 0 (ints d).toArray ?hx ?hy ?h5 ?h6 ?h7 ?_); (case hx => rfl); (case hy => rfl); (case h5 => exact (HF32.out.get 0 rfl).there (by rw [List.size_toArray, Nat.zero_add]; exact Nat.le_of_eq (Eq.symm (HNIL.out)))); (case h6 => exact i22 HDL.out); (case h7 => exact ints_one _); have HF33 := Aside0.mk (HF32.out.over 0 rfl (ints d) (HNIL.out)); clear HF32))
  have HF34 := Aside0.mk (show Fam w [(g16, 22, ints d), (g11, 24, c1.cells), (g10, 28, pk 3 1 (.slice none 0 0)), (g9, 24, b1.cells), (g5, 5, ints q ++ sp3), (g4, 22, ints d), (g3, 28, pk 1 1 (.slice Ap 26 cp)), (g2, 24, shA.cells), (gu, 54, shC)] _ from HF33.out)
  clear HF33
  generalize World.setCells _ _ _ _ = w26 at HF34 ⊢
  have hc0 : w26.cell? ⟨g2, 0, none⟩ = some (.int .i64 1) := Au.at0 (HF34.out.get 7 rfl)
  have hc3 : w26.cell? ⟨g2, 3, none⟩ = some (.int .u8 1) := Au.at3 (HF34.out.get 7 rfl)
  have hp0 : w26.cell? ⟨g3, 0, none⟩ = some (.int .u8 1) := (HF34.out.get 6 rfl).at_ rfl
  have hp2 : w26.cell? ⟨g3, 2, none⟩ = some (.slice Ap 26 cp) := (HF34.out.get 6 rfl).at_ rfl
  have hq0 : w26.cell? ⟨g10, 0, none⟩ = some (.int .u8 3) := (HF34.out.get 2 rfl).at_ rfl
  have hub : (uB.toList == [117]) = true := by decide +kernel
  have hsb : (sB.toList == [115]) = true := by decide +kernel
  go_upto_region 11 with (first
    | ((with_reducible refine gate_dst (N := 104) rfl ?_); refine gate_guard (by rfl) ?_; refine wpList_load_mid rfl 24 (.tmp 9) rfl g9 0 ?hx (b1.cells) _ ?hc Try.underlying24 rfl ?hi ?_; (case hx => rfl); (case hc => exact (HF34.out.get 3 rfl).whole); (case hi => exact i24 HBW.out))
    | (go_at_call 15; refine (Proved_calls b1 HBW.out shU (some ⟨gu, 0, none⟩) 1 shU_short _ (users_C (HF34.out.get 8 rfl)) (Nat.le_refl _)).mono ?_; rintro e w27 ⟨rfl, hb⟩; rw [HPR.out]; have HF35 := Aside0.mk (HF34.out.keep hb); clear hb HF34 hc0 hc3 hp0 hp2 hq0; have hq0 : w27.cell? ⟨g10, 0, none⟩ = some (.int .u8 3) := (HF35.out.get 2 rfl).at_ rfl))
  clear hq0
  have hl2 : w27.cell? ⟨g11, 2, none⟩ = some (.int .i64 3) := by have h := Au.at2 (HF35.out.get 1 rfl); rw [HCL.out] at h; exact h
  have HEQ := Aside0.mk (show EqR 22 (.agg (ints d).toArray) (.agg (ints d).toArray) true by have h := eqR_ints HDL.out HDL.out; rw [decide_eq_true rfl] at h; exact h)
  go_wp2_with (first
    | ((with_reducible refine gate_dst (N := 136) rfl ?_); refine gate_guard (by rfl) ?_; refine wpList_load_mid rfl 22 (.tmp 16) rfl g16 0 ?hx (ints d) _ ?hc Try.underlying22 rfl ?hi ?_; (case hx => rfl); (case hc => exact (HF35.out.get 0 rfl).whole); (case hi => exact i22 HDL.out))
    | ((with_reducible refine gate_dst (N := 137) rfl ?_); refine gate_guard (by rfl) ?_; refine wpList_load_mid rfl 22 (.tmp 4) rfl g4 0 ?hx (ints d) _ ?hc Try.underlying22 rfl ?hi ?_; (case hx => rfl); (case hc => exact (HF35.out.get 5 rfl).whole); (case hi => exact i22 HDL.out))
    | ((with_reducible refine gate_dst (N := 138) rfl ?_); refine gate_guard (by rfl) ?_; refine Kd.event_run (v := .bool true) (w1 := w27) rfl (eql_yields rfl rfl rfl HEQ.out) ?_)
    | ((with_reducible refine gate_dst (N := 144) rfl ?_); refine gate_guard (by rfl) ?_; refine wpList_load_mid rfl 24 (.tmp 2) rfl g2 0 ?hx (shA.cells) _ ?hc Try.underlying24 rfl ?hi ?_; (case hx => rfl); (case hc => exact (HF35.out.get 7 rfl).whole); (case hi => exact i24 shA_wf))
    | (go_at_call 23; refine (Right_calls shA shA_wf _).mono ?_; rintro e w28 ⟨rfl, hb⟩; rw [sh_rgt]; have HF36 := Aside0.mk (HF35.out.keep hb); clear hb HF35 hl2)
    | (go_at_call 19; refine (Users_calls shU (some ⟨gu, 0, none⟩) 1 _ (users_C (HF36.out.get 8 rfl)) (Nat.le_refl _)).mono ?_; rintro e w29 ⟨rfl, hb⟩; rw [shU_usr]; have HF37 := Aside0.mk (HF36.out.keep hb); clear hb HF36))
  go_ret
  exact ⟨rfl, HF37.out.bel⟩
end Go.Proofs.Ytpbkdphilcodmaa.Q
