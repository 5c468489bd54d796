/- portreeveref15.Digest: the document's digest. -/
import Derived.Test.YtpbkdphilcodmaaRead
import Derived.Test.YtpbkdphilcodmaaEq
import Derived.Test.YtpbkdphilcodmaaQx13
namespace Go.Proofs.Ytpbkdphilcodmaa.Q
open Go Go.RowKit Go.Proofs.YtpbkdphilcodmaaW.PrintWords Go.Proofs.YtpbkdphilcodmaaW.PrintLast Go.Proofs.YtpbkdphilcodmaaW.PrintMore
open Go.Proofs.YtpbkdphilcodmaaV Go.Proofs.Ytpbkdphilcodmaa.Pure Go.Proofs.YtpbkdphilcodmaaK
set_option linter.unusedVariables false
set_option linter.unusedSimpArgs false
theorem digL_length (l : List Int) : (digL l).length = 16 := md5_Sum.outs_length _ _
theorem refsum_calls (l : List Int) (hB : B l) (hl : l.length ≤ 8000) (A : Option Addr) (c : Nat) (W : World) (hC : Kd.C (Kd.int .u8) W A l.length l) (hc : l.length ≤ c) :
    Calls Try.prog 29 #[.slice A l.length c] W fun e w' => e = .returned (.agg (ints (digL l)).toArray) ∧ Below W.heap.size W w' := by
  obtain ⟨x0, x1, x2, x3, x4, x5, x6, x7, x8, x9, x10, x11, x12, x13, x14, x15, hx⟩ := list16 (digL_length l)
  have h := refsum_f l 300 hB hl (by omega)
  have hd : dig l = (x0, x1, x2, x3, x4, x5, x6, x7, x8, x9, x10, x11, x12, x13, x14, x15) := by
    show tup16 (digL l) = _
    rw [hx]
    rfl
  rw [hd] at h
  have := portreeveref02_Sum.calls 300 A c l x0 x1 x2 x3 x4 x5 x6 x7 x8 x9 x10 x11 x12 x13 x14 x15 W hC hc h
  rw [hx]
  exact this
set_option maxHeartbeats 8000000 in
set_option maxRecDepth 100000 in
theorem Digest15_calls (id : Int) (hid : 0 ≤ id ∧ id ≤ 255) (sec : ByteArray) (v : List Int) (hv : v.length = 16) (hvB : ∀ x ∈ v, 0 ≤ x ∧ x ≤ 255) (hs : sec.size ≤ 4000) (w : World) :
    Calls Try.prog 22 #[.int .u8 id, .string sec, .agg (ints v).toArray] w fun e w' => e = .returned (.agg (ints (digL (id :: (nums sec ++ v)))).toArray) ∧ Below w.heap.size w w' := by
  have HV := Aside0.mk hv
  have HS := Aside0.mk hs
  have HB := Aside0.mk (show B (id :: (nums sec ++ v)) from fun x hx => by
    rcases List.mem_cons.1 hx with rfl | hx
    · exact hid
    · rcases List.mem_append.1 hx with hx | hx
      · exact nums_B sec x hx
      · exact hvB x hx)
  clear hv hvB hid hs
  obtain ⟨ps, hps⟩ : ∃ ps, ps = (ints v).toArray := ⟨_, rfl⟩
  rw [← hps]
  have HPS := Aside0.mk hps
  clear hps
  go_enter Try.func22, Try.ntmps22
  go_upto_region 1 with (first
    | ((with_reducible refine gate_dst (N := 5) rfl ?_); refine box_event ?hg (N := 5) ?hd (cs := ps) (t := 22) ?hr ?_; (case hd => rfl); (case hg => rfl); (case hr => first | (go_simp; done) | (go_simp; rfl)); intro g5 hg w1 hbox hb; rw [HPS.out] at hbox; have HF1 := Aside0.mk (show Fam w [(g5, 22, ints v)] w1 from (Fam.start (Below.refl _ _)).box hg hbox hb); clear hbox hb hg)
    | ((with_reducible refine gate_dst (N := 6) rfl ?_); refine box_event ?hg (N := 6) ?hd (cs := (ints no16).toArray) (t := 22) ?hr ?_; (case hd => rfl); (case hg => rfl); (case hr => first | (go_simp; done) | (go_simp; rfl)); intro g6 hg w2 hbox hb; have HF2 := Aside0.mk (show Fam w [(g6, 22, ints no16), (g5, 22, ints v)] w2 from HF1.out.box hg hbox hb); clear hbox hb hg HF1))
  obtain ⟨lq, hlq⟩ : ∃ lq, [id] ++ nums sec = lq := ⟨_, rfl⟩
  have HLQ := Aside0.mk hlq
  have HLL := Aside0.mk (show lq.length = 1 + sec.size by rw [← hlq, List.length_append, nums_length]; rfl)
  clear hlq
  go_upto_region 2 with (first
    | ((with_reducible refine gate_dst (N := 10) rfl ?_); refine Kd.event_run (v := .slice (some ⟨w2.heap.size, 0, none⟩) 1 1) (w1 := w2.alloc (.cells (ints [id]).toArray 5)) rfl ?hr ?_; (case hr => first | (go_simp; done) | (go_simp; rfl)); have HF3 := Aside0.mk (show Fam w ((w2.heap.size, 5, ints [id] ++ []) :: [(g6, 22, ints no16), (g5, 22, ints v)]) _ from HF2.out.box rfl Blk.new (pA (Below.refl _ _) _)); clear HF2)
    | ((with_reducible refine gate_dst (N := 12) rfl ?_); obtain ⟨c12, w4, hrun, k12, hC12, hb⟩ := str_run (w2.alloc (.cells (ints [id]).toArray 5)) sec (by have := HS.out; omega); refine Kd.event_run rfl (conv_event (x := .tmp 11) rfl rfl hrun) ?_; have HC12 := Aside0.mk hC12; have HF4 := Aside0.mk (HF3.out.keep hb); clear hrun k12 hC12 hb HF3)
    | ((with_reducible refine gate_dst (N := 13) rfl ?_); obtain ⟨g7, sp0, w5, hrun, hF⟩ := app_step (g := w2.heap.size) (a := ⟨(w2.alloc (.cells (ints [id]).toArray 5)).heap.size, 0, none⟩) (l := [id]) (m := nums sec) (sp := []) (c := c12) (ty := 26) HF4.out (cells_C HC12.out) (by rw [nums_length]; have := HS.out; simp only [List.length_cons, List.length_nil]; omega); rw [HLQ.out, nums_length] at hrun; rw [HLQ.out] at hF; refine Kd.event_run (v := .slice (some ⟨g7, 0, none⟩) lq.length (lq.length + sp0.length)) (w1 := w5) rfl (app_event rfl rfl rfl ?hh) ?_; (case hh => exact hrun); have HF5 := Aside0.mk hF; clear hrun hF HF4 HC12))
  go_wp2
  have HF6 := Aside0.mk (show Fam w ((g7, 5, ints (lq ++ v.take 0) ++ sp0) :: [(g6, 22, ints no16), (g5, 22, ints v)]) w5 by rw [List.take_zero, List.append_nil]; exact HF5.out)
  clear HF5
  go_loopw [7, 8] (fun v7 v8 wr => ∃ (i g : Nat) (sp : List Value), i ≤ 16 ∧ v7 = .slice (some ⟨g, 0, none⟩) (lq ++ v.take i).length ((lq ++ v.take i).length + sp.length) ∧ v8 = .int .i64 i ∧ Aside0 (Fam w ((g, 5, ints (lq ++ v.take i) ++ sp) :: [(g6, 22, ints no16), (g5, 22, ints v)]) wr)) (fun v7 v8 _ => 16 - (intOf v8).toNat)
  case atStart => exact ⟨0, g7, sp0, by omega, by rw [List.take_zero, List.append_nil], rfl, HF6⟩
  case round =>
    obtain ⟨i, g, sp1, hi, rfl, rfl, HF7⟩ := hrel
    clear HF6
    by_cases hlt : i < 16
    · have hlt' : (i : Int) < 16 := by omega
      obtain ⟨x, hx⟩ : ∃ x, v[i]? = some x := ⟨_, List.getElem?_eq_getElem (by rw [HV.out]; exact hlt)⟩
      have hcx : wr.cell? ⟨g5, i, none⟩ = some (.int .u8 x) := (HF7.out.get 2 rfl).at_ (by unfold ints; rw [List.getElem?_map, hx]; rfl)
      have HX := Aside0.mk (show lq ++ v.take i ++ [x] = lq ++ v.take (i + 1) by rw [List.take_add_one, hx, List.append_assoc]; rfl)
      have HLI := Aside0.mk (show (lq ++ v.take i).length ≤ 5000 by rw [List.length_append, List.length_take, HLL.out]; have := HS.out; omega)
      have e1 : wrap64 ((i : Int) + 1) = ((i + 1 : Nat) : Int) := by rw [wrap64_of (by omega)]; omega
      clear hx hi
      obtain ⟨li, hli⟩ : ∃ li, lq ++ v.take i = li := ⟨_, rfl⟩
      rw [hli] at HF7 HX HLI ⊢
      clear hli
      go_wp2_with (first
        | ((with_reducible refine gate_dst (N := 22) rfl ?_); refine Kd.event_run (v := .slice (some ⟨wr.heap.size, 0, none⟩) 1 1) (w1 := wr.alloc (.cells (ints [x]).toArray 5)) rfl ?hr ?_; (case hr => first | (go_simp; done) | (go_simp; rfl)); have HF8 := Aside0.mk (HF7.out.alloc (.cells (ints [x]).toArray 5)); have HU := Aside0.mk (Blk.new (w := wr) (t := 5) (cs := ints [x])); clear HF7 hcx)
        | ((with_reducible refine gate_dst (N := 23) rfl ?_); obtain ⟨g', sp', w7, hrun, hF⟩ := app_step (g := g) (a := ⟨wr.heap.size, 0, none⟩) (l := li) (m := [x]) (sp := sp1) (c := 1) (ty := 26) HF8.out (fun j u hj => by rw [Addr.add_mid, Nat.zero_add]; exact HU.out.at_ hj) (by have := HLI.out; simp only [List.length_cons, List.length_nil]; omega); rw [HX.out] at hrun hF; refine Kd.event_run (v := .slice (some ⟨g', 0, none⟩) (lq ++ v.take (i + 1)).length ((lq ++ v.take (i + 1)).length + sp'.length)) (w1 := w7) rfl (app_event rfl rfl rfl ?hh) ?_; (case hh => exact hrun); have HF9 := Aside0.mk hF; clear hrun hF HF8 HU))
      go_roundw
      case rel => exact ⟨i + 1, g', sp', hlt, by first | rfl | (rw [List.length_append, List.length_take]), by first | (rw [e1]; done) | (rw [e1]; rfl) | go_num, HF9⟩
      case measure => first | (rw [e1]; simp only [intOf, Int.toNat_natCast]; omega) | (simp only [intOf]; omega)
    · obtain rfl : i = 16 := by omega
      clear hlt hi
      have hvt : v.take 16 = v := List.take_of_length_le (by rw [HV.out]; exact Nat.le_refl _)
      rw [hvt] at HF7 ⊢
      clear hvt
      obtain ⟨q, hq⟩ : ∃ q, lq ++ v = q := ⟨_, rfl⟩
      have HQE := Aside0.mk (show id :: (nums sec ++ v) = q by rw [← hq, ← HLQ.out]; rfl)
      have HQL := Aside0.mk (show q.length ≤ 8000 by rw [← hq, List.length_append, HLL.out, HV.out]; have := HS.out; omega)
      rw [hq] at HF7 ⊢
      rw [HQE.out] at HB
      clear hq
      have HN := Aside0.mk (show (ints no16).length = (ints (digL q)).length by rw [ints_length, ints_length, digL_length]; rfl)
      go_wp2_with (first
        | (go_at_call 29; refine (refsum_calls q HB.out HQL.out (some ⟨g, 0, none⟩) (q.length + sp1.length) _ (pre_C (HF7.out.get 0 rfl) (by have := HQL.out; omega)) (Nat.le_add_right _ _)).mono ?_; rintro e w7 ⟨rfl, hb⟩; have HF8 := Aside0.mk (HF7.out.keep hb); clear hb HF7)
        | ((with_reducible refine wpList_store_mid rfl 22 (.tmp 6) (.tmp 25) rfl g6 0 (ints (digL q)).toArray ?hx ?hy ?h5 ?h6 ?h7 ?_); (case hx => rfl); (case hy => rfl); (case h5 => exact (HF8.out.get 1 rfl).there (by rw [List.size_toArray, Nat.zero_add]; exact Nat.le_of_eq (Eq.symm (HN.out)))); (case h6 => exact i22 (digL_length q)); (case h7 => exact ints_one _); have HF9 := Aside0.mk (HF8.out.over 1 rfl (ints (digL q)) (HN.out)); clear HF8))
      refine bodyPost_ret (results_cell_row rfl _ _ g6 22 (ints (digL q)).toArray (0, 0) _ rfl (HF9.out.get 1 rfl) Try.underlying22 rfl (by rw [List.size_toArray, ← HN.out]; kernel_rfl)) rfl ?_
      exact ⟨by rw [HQE.out] <;> rfl, HF9.out.bel⟩
end Go.Proofs.Ytpbkdphilcodmaa.Q
