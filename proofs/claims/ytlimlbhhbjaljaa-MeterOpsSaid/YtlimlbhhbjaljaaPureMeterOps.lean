/- The interim and the stop of an open session can be done, while there is room: its lines have the meter's octets then. -/
import Derived.Test.YtlimlbhhbjaljaaSayMeterOps
import Derived.Test.YtlimlbhhbjaljaaOps
namespace Go.Proofs.Ytlimlbhhbjaljaa.Pure
set_option linter.unusedVariables false
open Go Go.RowKit Go.Proofs.Ytlimlbhhbjaljaa.Q Go.Proofs.YtlimlbhhbjaljaaK Go.Proofs.YtlimlbhhbjaljaaW.PrintWords Go.Proofs.YtlimlbhhbjaljaaW.PrintLast Go.Proofs.YtlimlbhhbjaljaaW.PrintMore
theorem ops_j0 (k : Nat) (n x y c a : Int) (O : List S51) (W : List S56) (L : List S68) : portreevelaw17_MeterOps.j0 (k + 1) n x y c true true a O W L = some true := by
  rw [portreevelaw17_MeterOps.j0, if_pos rfl]
theorem MeterOps : portreevelaw17_MeterOps.Pure := by
  intro a O W L n x y c ha hO hW hL hn hx hy hc
  refine ⟨400002, ?_⟩
  unfold portreevelaw17_MeterOps.f
  have hs : portreevelaw17_shown.f 400002 = some true := more_rounds (fun k => portreevelaw17_shown.mono k) shown_true (by omega)
  rw [hs, Option.bind_some]
  obtain ⟨b, hb, _⟩ := right_own 400002 a O W L (by omega) (by omega) (by omega)
  rw [hb, Option.bind_some]
  cases b with
  | false => rw [if_neg (by decide)]; exact ops_j0 _ _ _ _ _ _ _ _ _
  | true =>
    rw [if_pos rfl]
    obtain ⟨hna, hlen, hok⟩ := right_true _ a O W L (by omega) (by omega) hb
    by_cases h0 : n < 0
    · rw [if_pos h0]; exact ops_j0 _ _ _ _ _ _ _ _ _
    · rw [if_neg h0]
      by_cases h1 : n ≥ (O.length : Int)
      · rw [decide_eq_true h1]; exact ops_j0 _ _ _ _ _ _ _ _ _
      · rw [decide_eq_false h1]
        obtain ⟨m, rfl⟩ : ∃ m : Nat, n = (m : Int) := ⟨n.toNat, by omega⟩
        have hm : m < O.length := by omega
        rw [portreevelaw17_MeterOps.j0, if_neg (by decide), if_pos (by omega), if_pos (by omega)]
        have hg := hO.2 O[m] (List.getElem_mem hm)
        rw [← O_lt O m hm] at hg
        unfold g51 at hg
        obtain ⟨_, _, _, _, hi, ho⟩ := hg
        rw [count _ _ _ _ _ hi ho hx hy, Option.bind_some]
        have hib := wf_u64.1 hi
        have hob := wf_u64.1 ho
        have hcb := bounds_u8 hc
        have hu := (top_bd (rd_T51 O (m : Int)).f4 x hib.1 hib.2).1
        have hv := (top_bd (rd_T51 O (m : Int)).f5 y hob.1 hob.2).1
        generalize top (rd_T51 O (m : Int)).f4 x = u at hu ⊢
        generalize top (rd_T51 O (m : Int)).f5 y = v at hv ⊢
        unfold meter_Note.f meter_Stop.f
        simp only [Option.bind_some]
        rw [w64 (by omega) (by omega), apply2 400001 a O W L m hna hlen hm hok u v hu hv (by omega), apply3 400001 a O W L m hna hlen hm hok u v c hcb hu hv (by omega)]
        have hw : wrap64 (((W ++ [(⟨3, (rd_T51 O (m : Int)).f0, u, v, c⟩ : S56)]).length : Int) - 1) = (W.length : Int) := by
          rw [List.length_append, List.length_cons, List.length_nil, w64 (by omega) (by omega)]
          omega
        have hr : rd_T56 (W ++ [(⟨3, (rd_T51 O (m : Int)).f0, u, v, c⟩ : S56)]) (W.length : Int) = ⟨3, (rd_T51 O (m : Int)).f0, u, v, c⟩ := by
          unfold rd_T56
          simp
        have hgone := of_gone 400001 a O (W ++ [(⟨3, (rd_T51 O (m : Int)).f0, u, v, c⟩ : S56)]) L m (by omega) hm hok (by omega)
        by_cases h60 : W.length + O.length = 60
        · rw [if_pos h60]
          simp only [Option.bind_some, if_true]
          rw [hgone, Option.bind_some, if_neg (by decide), hw, if_pos (by omega), if_pos (by rw [List.length_append, List.length_cons, List.length_nil]; omega), hr, if_pos rfl]
          simp only [bne_self_eq_false]
          rw [portreevelaw17_MeterOps.j1, if_neg (by decide), if_neg (by decide), if_pos rfl, w64 (by omega) (by omega)]
          congr 1
          rw [beq_iff_eq]
          omega
        · rw [if_neg h60]
          simp only [Option.bind_some, if_true]
          rw [hgone, Option.bind_some, if_neg (by decide), hw, if_pos (by omega), if_pos (by rw [List.length_append, List.length_cons, List.length_nil]; omega), hr, if_pos rfl]
          simp only [bne_self_eq_false]
          have hset : rd_T51 (O.set m (⟨(rd_T51 O (m : Int)).f0, (rd_T51 O (m : Int)).f1, (rd_T51 O (m : Int)).f2, (rd_T51 O (m : Int)).f3, u, v⟩ : S51)) (m : Int) = ⟨(rd_T51 O (m : Int)).f0, (rd_T51 O (m : Int)).f1, (rd_T51 O (m : Int)).f2, (rd_T51 O (m : Int)).f3, u, v⟩ := by
            rw [O_lt _ m (by rw [List.length_set]; exact hm), List.getElem_set_self]
          rw [portreevelaw17_MeterOps.j1, if_neg (by decide), if_pos rfl, if_pos rfl, if_pos (by omega), if_pos (by rw [List.length_set]; omega), hset, if_pos rfl]
          simp only [beq_self_eq_true]
end Go.Proofs.Ytlimlbhhbjaljaa.Pure
