/- chap.Digest: what a challenge is answered with. -/
import Derived.Test.YtpbkdphilcodmaaChA
import Derived.Test.YtpbkdphilcodmaaConcat
import Derived.Test.YtpbkdphilcodmaaDig

import Derived.Test.YtpbkdphilcodmaaQx5
import Derived.Test.YtpbkdphilcodmaaQx7
namespace Go.Proofs.Ytpbkdphilcodmaa.Q
open Go Go.RowKit Go.Proofs.YtpbkdphilcodmaaW.PrintWords Go.Proofs.YtpbkdphilcodmaaW.PrintLast Go.Proofs.YtpbkdphilcodmaaW.PrintMore
open Go.Proofs.YtpbkdphilcodmaaV Go.Proofs.Ytpbkdphilcodmaa.Pure
set_option linter.unusedVariables false
set_option linter.unusedSimpArgs false
theorem rows3 {W : World} {g : Nat} {t : TypeId} {A0 A1 A2 : Option Addr} {c0 c1 c2 : Nat} {l0 l1 l2 : List Int} (hb : Blk W g t [.slice A0 l0.length c0, .slice A1 l1.length c1, .slice A2 l2.length c2])
    (h0 : Kd.C (Kd.int .u8) W A0 l0.length l0) (h1 : Kd.C (Kd.int .u8) W A1 l1.length l1) (h2 : Kd.C (Kd.int .u8) W A2 l2.length l2) (k0 : l0.length ≤ c0) (k1 : l1.length ≤ c1) (k2 : l2.length ≤ c2) :
    Kd.C (Kd.slice 5 (Kd.int .u8)) W (some ⟨g, 0, none⟩) 3 [l0, l1, l2] := by
  refine ⟨rfl, by decide, fun _ => ⟨_, rfl, fun j p hj => ?_⟩⟩
  have hcell : ∀ (i : Nat) (x : Value), ([.slice A0 l0.length c0, .slice A1 l1.length c1, .slice A2 l2.length c2] : List Value)[i]? = some x → W.cell? ((⟨g, 0, none⟩ : Addr).add (i * 1 + 0)) = some x := fun i x hx => by
    rw [Addr.add_mid, Nat.zero_add, Nat.mul_one, Nat.add_zero]
    exact hb.at_ hx
  have one : ∀ (x : Value) (i : Nat), W.cell? ((⟨g, 0, none⟩ : Addr).add (i * 1 + 0)) = some x → ∀ (q : Nat) (u : Value), [x][q]? = some u → W.cell? ((⟨g, 0, none⟩ : Addr).add (i * 1 + q)) = some u := fun x i hx q u hu => by
    cases q with
    | zero => cases hu; exact hx
    | succ q => simp at hu
  match j, hj with
  | 0, hj => cases hj; exact ⟨[_], rfl, ⟨A0, c0, rfl, k0, h0⟩, one _ 0 (hcell 0 _ rfl)⟩
  | 1, hj => cases hj; exact ⟨[_], rfl, ⟨A1, c1, rfl, k1, h1⟩, one _ 1 (hcell 1 _ rfl)⟩
  | 2, hj => cases hj; exact ⟨[_], rfl, ⟨A2, c2, rfl, k2, h2⟩, one _ 2 (hcell 2 _ rfl)⟩
  | j + 3, hj => simp at hj
theorem blk_C {W : World} {g : Nat} {t : TypeId} {xs : List Int} (h : Blk W g t (ints xs)) (hl : xs.length ≤ 9223372036854775807) : Kd.C (Kd.int .u8) W (some ⟨g, 0, none⟩) xs.length xs := by
  refine Kd.C_of_reads (d := (0 : Int)) (h1 := fun _ => rfl) ⟨rfl, hl, fun _ => ⟨_, rfl, fun i hi => ?_⟩⟩
  rw [Addr.add_mid, Nat.zero_add]
  refine h.at_ ?_
  unfold ints
  rw [List.getElem?_map, List.getElem?_eq_getElem hi, List.getD_eq_getElem?_getD, List.getElem?_eq_getElem hi]
  rfl
/-- A digest, as a list. -/
def digL (l : List Int) : List Int := md5_Sum.outs (md5_Sum.st (pad l) (List.range ((pad l).length / 64))) 16
theorem sum_calls (l : List Int) (hl : l.length ≤ 8000) (A : Option Addr) (c : Nat) (W : World) (hC : Kd.C (Kd.int .u8) W A l.length l) (hc : l.length ≤ c) :
    Calls Try.prog 27 #[.slice A l.length c] W fun e w' => e = .returned (.agg (ints (digL l)).toArray) ∧ Below W.heap.size W w' := by
  have h1 := pad_mod l
  have h2 := pad_length l
  have h3 := zn_lt l.length
  exact callsIn_wide.1 (md5_Sum.sum_in W 100 A c l (pad l) hC hc (pad_f l 100 hl (by omega)) ((pad l).length / 64) (by omega) (by omega) (by omega))
theorem conv_event {o : Oper} {a : Act} {W W' : World} {x : Operand} {s : ByteArray} {v : Value} (ho : o.op = .convert 9 26 x) (hx : a.eval x = .string s) (h : (convert 9 26 (.string s)).run Try.prog W = .ok v W') : (execOp a.eval o).run Try.prog W = .ok (.value v) W' := by
  unfold execOp
  simp only [ho, hx, Sem.run_bind, h, Result.andThen_ok, Sem.run_pure]
set_option maxHeartbeats 4000000 in
set_option maxRecDepth 100000 in
theorem Digest_calls (id : Int) (sec : ByteArray) (v : List Int) (hv : v.length = 16) (hs : sec.size ≤ 4000) (w : World) :
    Calls Try.prog 21 #[.int .u8 id, .string sec, .agg (ints v).toArray] w fun e w' => e = .returned (.agg (ints (digL (id :: (nums sec ++ v)))).toArray) ∧ Below w.heap.size w w' := by
  have HV := Aside0.mk hv
  have HS := Aside0.mk hs
  have HN := Aside0.mk (nums_length sec)
  clear hv hs
  obtain ⟨ps, hps⟩ : ∃ ps, ps = (ints v).toArray := ⟨_, rfl⟩
  rw [← hps]
  have HPS := Aside0.mk hps
  clear hps
  go_enter Try.func21, Try.ntmps21
  go_upto_region 1 with (first
    | ((with_reducible refine gate_dst (N := 5) rfl ?_); refine box_event ?hg (N := 5) ?hd (cs := ps) (t := 22) ?hr ?_; (case hd => rfl); (case hg => rfl); (case hr => first | (go_simp; done) | (go_simp; rfl)); intro g5 hg w1 hbox hb; rw [HPS.out] at hbox; have B5 := Aside0.mk (show Blk w1 g5 22 (ints v) from hbox); have HL := Aside0.mk hb; have L5 := Aside0.mk (show w.heap.size ≤ g5 by rw [hg]; exact Nat.le_refl _); clear hbox hb hg)
    | ((with_reducible refine gate_dst (N := 6) rfl ?_); refine box_event ?hg (N := 6) ?hd (cs := (ints no16).toArray) (t := 22) ?hr ?_; (case hd => rfl); (case hg => rfl); (case hr => first | (go_simp; done) | (go_simp; rfl)); intro g6 hg w2 hbox hb; have B6 := Aside0.mk (show Blk w2 g6 22 (ints no16) from hbox); have B5' := Aside0.mk (B5.out.keep hb); have HL' := Aside0.mk (below_step HL.out hb); have L6 := Aside0.mk (show w.heap.size ≤ g6 by rw [hg]; exact HL.out.size); clear hbox hb hg B5 HL))
  go_wp2_with (first
    | ((with_reducible refine gate_dst (N := 8) rfl ?_); refine Kd.R_lit (Kd.int .u8) w2.heap.size 5 ?hg (N := 8) ?hd (xs := [id]) (inner := [.int .u8 id]) (ok := fun _ => True) (okp := fun _ => True) ?hr ?hp (fun _ hk => hk) trivial (Below.refl _ _) (Nat.le_refl _) (by simp) ?_; (case hd => rfl); (case hg => rfl); (case hr => first | (go_simp; done) | (go_simp; rfl)); (case hp => exact Reps.snoc (Reps.none _ _) rfl rfl); intro v8 w3 ho hb hg hn; clear hg hn; obtain ⟨A8, c8, rfl⟩ := Kd.R_slice ho; have HO := Aside0.mk (Kd.R_reads' ho); have B5 := Aside0.mk (B5'.out.keep hb); have B6' := Aside0.mk (B6.out.keep hb); have HL := Aside0.mk (below_step HL'.out hb); clear ho hb B5' B6 HL')
    | ((with_reducible refine gate_dst (N := 10) rfl ?_); obtain ⟨c10, w4, hrun, k10, hC10, hb⟩ := str_run w3 sec (by have := HS.out; omega); refine Kd.event_run rfl (conv_event (x := .tmp 9) rfl rfl hrun) ?_; have HC10 := Aside0.mk hC10; have HK10 := Aside0.mk k10; have HO1 := Aside0.mk (Kd.C_below HO.out.2.2 hb); have B5' := Aside0.mk (B5.out.keep hb); have B6 := Aside0.mk (B6'.out.keep hb); have HL' := Aside0.mk (below_step HL.out hb); clear hrun hC10 k10 hb B5 B6' HL)
    | ((with_reducible refine gate_dst (N := 12) rfl ?_); refine Kd.event_run (v := .slice (some ⟨w4.heap.size, 0, none⟩) 3 3) (w1 := w4.alloc (.cells #[.slice A8 1 c8, .slice (some ⟨w3.heap.size, 0, none⟩) sec.size c10, .slice (some ⟨g5, 0, none⟩) 16 16] 26)) rfl ?hr ?_; (case hr => first | (go_simp; done) | (go_simp; rfl)); have HW3 := Aside0.mk (rows3 (g := w4.heap.size) (t := 26) (A0 := A8) (A1 := some ⟨w3.heap.size, 0, none⟩) (A2 := some ⟨g5, 0, none⟩) (c0 := c8) (c1 := c10) (c2 := 16) (l0 := [id]) (l1 := nums sec) (l2 := v) (by rw [HN.out, HV.out]; exact Blk.new (w := w4) (t := 26) (cs := [.slice A8 1 c8, .slice (some ⟨w3.heap.size, 0, none⟩) sec.size c10, .slice (some ⟨g5, 0, none⟩) 16 16])) (Kd.C_alloc HO1.out _) (by rw [HN.out]; exact Kd.C_alloc HC10.out _) (Kd.C_alloc (blk_C B5'.out (by have := HV.out; omega)) _) HO.out.2.1 (by rw [HN.out]; exact HK10.out) (by rw [HV.out]; exact Nat.le_refl _)); have B6' := Aside0.mk (B6.out.alloc (.cells #[.slice A8 1 c8, .slice (some ⟨w3.heap.size, 0, none⟩) sec.size c10, .slice (some ⟨g5, 0, none⟩) 16 16] 26)); have HL := Aside0.mk (pA HL'.out (.cells #[.slice A8 1 c8, .slice (some ⟨w3.heap.size, 0, none⟩) sec.size c10, .slice (some ⟨g5, 0, none⟩) 16 16] 26)); clear HC10 HO1 B5' B6 HL')
    | (go_at_call 28; refine (slices_Concat_byte_byte.calls 10 (some ⟨w4.heap.size, 0, none⟩) 3 [[id], nums sec, v] _ _ HW3.out (Nat.le_refl _) (concat3 [id] (nums sec) v (by rw [HN.out, HV.out]; have := HS.out; simp only [List.length_cons, List.length_nil]; omega))).mono ?_; rintro e w6 ⟨v13, rfl, hr, hb⟩; obtain ⟨q, hq⟩ : ∃ q, [id] ++ nums sec ++ v = q := ⟨_, rfl⟩; rw [hq] at hr; have HQ := Aside0.mk hq; clear hq; obtain ⟨A13, c13, rfl⟩ := Kd.R_slice hr; have HO2 := Aside0.mk (Kd.R_reads' hr); have B6 := Aside0.mk (B6'.out.keep hb); have HL' := Aside0.mk (below_step HL.out hb); clear hr hb B6' HL HW3)
    | (go_at_call 27; refine (sum_calls q (by rw [← HQ.out]; simp only [List.length_append, List.length_cons, List.length_nil]; have := HN.out; have := HV.out; have := HS.out; omega) A13 c13 _ HO2.out.2.2 HO2.out.2.1).mono ?_; rintro e w7 ⟨rfl, hb⟩; have B7 := Aside0.mk (B6.out.keep hb); have HL7 := Aside0.mk (below_step HL'.out hb); have HD := Aside0.mk (show (ints no16).length = (ints (digL q)).length by rw [ints_length, ints_length, show (digL q).length = 16 from md5_Sum.outs_length _ _]; rfl); clear hb B6 HL' HO2)
    | ((with_reducible refine wpList_store_mid rfl 22 (.tmp 6) (.tmp 14) rfl g6 0 (ints (digL q)).toArray ?hx ?hy ?h5 ?h6 ?h7 ?_); (case hx => rfl); (case hy => rfl); (case h5 => exact B7.out.there (by rw [List.size_toArray, ← HD.out]; decide)); (case h6 => rw [List.size_toArray, ← HD.out]; kernel_rfl); (case h7 => exact ints_one _); have B8 := Aside0.mk (B7.out.over (new := ints (digL q)) HD.out); have HL8 := Aside0.mk (below_setCells HL7.out L6.out (ints (digL q)) 0); clear B7 HL7))
  refine bodyPost_ret (results_cell_row rfl _ _ g6 22 (ints (digL q)).toArray (0, 0) _ rfl B8.out Try.underlying22 rfl (by rw [List.size_toArray, ← HD.out]; kernel_rfl)) rfl ?_
  exact ⟨by rw [← HQ.out] <;> rfl, HL8.out⟩
end Go.Proofs.Ytpbkdphilcodmaa.Q
