/- All frames that are taken of bytes, over plain rows. -/
import Derived.Test.YtangahcilefelaaQx0
import Derived.Test.YtangahcilefelaaQx15
import Derived.Test.YtangahcilefelaaQx19
import Derived.Test.YtangahcilefelaaPureKit
import Derived.Test.YtangahcilefelaaCrc
import Derived.Test.YtangahcilefelaaBase3
namespace Go.Proofs.Ytangahcilefelaa.Pure
set_option linter.unusedVariables false
open Go Go.RowKit Go.Proofs.Ytangahcilefelaa.Q Go.Proofs.YtangahcilefelaaK Go.Proofs.YtangahcilefelaaCrc Go.Proofs.YtangahcilefelaaW.PrintWords Go.Proofs.YtangahcilefelaaW.PrintLast Go.Proofs.YtangahcilefelaaW.PrintMore

def Al : List Int → Bool → List Int → List (List Int)
  | _, _, [] => []
  | l, long, c :: t => (if (fd l long c).2.2.2 = true then [(fd l long c).2.2.1] else []) ++ Al (fd l long c).1 (fd l long c).2.1 t
def Sg : List Int → List Int → List (List Int)
  | _, [] => []
  | seg, c :: t => if c = 126 then (match Pl false seg with | some p => if seg.length ≠ 0 ∧ seg.length ≤ 1508 then [p] else [] | none => []) ++ Sg [] t else Sg (seg ++ [c]) t
theorem Al_Sg : ∀ (t seg : List Int), Al (if seg.length ≤ 1508 then seg else []) (decide (1508 < seg.length)) t = Sg seg t
  | [], seg => rfl
  | c :: t, seg => by
    rw [Al, Sg]
    by_cases hc : c = 126
    · have h0 := Al_Sg t []
      rw [if_pos (by simp), show decide (1508 < ([] : List Int).length) = false from rfl] at h0
      rw [if_pos hc]
      by_cases hl : seg.length ≤ 1508
      · rw [if_pos hl, show decide (1508 < seg.length) = false from decide_eq_false (by omega)]
        unfold fd
        rw [if_pos hc]
        cases Pl false seg with
        | none => exact h0
        | some p =>
          by_cases hz : seg.length = 0
          · simp only [hz]; simpa using h0
          · simp only [hz, hl, Bool.false_eq_true, or_self, if_false, ne_eq, not_false_eq_true, and_self, if_true]
            rw [h0]
      · rw [if_neg hl, show decide (1508 < seg.length) = true from decide_eq_true (by omega)]
        unfold fd
        rw [if_pos hc]
        have hnil : Pl false [] = some [] := rfl
        rw [hnil]
        cases Pl false seg with
        | none => simpa using h0
        | some p => simp only [hl, and_false, if_false]; simpa using h0
    · rw [if_neg hc, ← Al_Sg t (seg ++ [c])]
      unfold fd
      rw [if_neg hc]
      by_cases hl : seg.length ≤ 1508
      · rw [if_pos hl, show decide (1508 < seg.length) = false from decide_eq_false (by omega)]
        have hlen : (seg ++ [c]).length = seg.length + 1 := by simp
        by_cases h8 : seg.length = 1508
        · rw [if_pos (show false = true ∨ 1508 ≤ seg.length from .inr (by omega)), if_neg (show ¬ (seg ++ [c]).length ≤ 1508 by omega), show decide (1508 < (seg ++ [c]).length) = true from decide_eq_true (by omega)]
          rfl
        · rw [if_neg (show ¬ (false = true ∨ 1508 ≤ seg.length) from fun h => h.elim (fun h => by simp at h) (by omega)), if_pos (show (seg ++ [c]).length ≤ 1508 by omega), show decide (1508 < (seg ++ [c]).length) = false from decide_eq_false (by omega)]
          rfl
      · have hlen : (seg ++ [c]).length = seg.length + 1 := by simp
        rw [if_neg hl, show decide (1508 < seg.length) = true from decide_eq_true (by omega), if_pos (show true = true ∨ 1508 ≤ ([] : List Int).length from .inl rfl), if_neg (show ¬ (seg ++ [c]).length ≤ 1508 by omega), show decide (1508 < (seg ++ [c]).length) = true from decide_eq_true (by omega)]
        rfl
theorem E_noflag (a : Int) : ∀ {l : List Int}, B l → 126 ∉ E a l
  | [], _ => by simp [E]
  | c :: t, h => by
    have hc := h c (by simp)
    have ht := E_noflag a (l := t) (fun x hx => h x (List.mem_cons_of_mem _ hx))
    rw [E_cons, List.mem_append, not_or]
    refine ⟨?_, ht⟩
    split
    · next he =>
      simp only [List.mem_cons, List.not_mem_nil, or_false, not_or]
      refine ⟨by omega, fun hx => ?_⟩
      unfold esc at he
      simp only [Bool.or_eq_true, beq_iff_eq, Bool.and_eq_true, decide_eq_true_eq] at he
      rcases he with (rfl | rfl) | ⟨h3, _⟩
      · rw [x32_126] at hx; omega
      · rw [x32_125] at hx; omega
      · have := (x32_facts hc).2.2 h3; omega
    · next he =>
      simp only [List.mem_cons, List.not_mem_nil, or_false]
      intro hx
      apply he
      unfold esc
      simp [← hx]
theorem Pl_E (a : Int) : ∀ {l : List Int}, B l → Pl false (E a l) = some l
  | [], _ => rfl
  | c :: t, h => by
    have hc := h c (by simp)
    have ht := Pl_E a (l := t) (fun x hx => h x (List.mem_cons_of_mem _ hx))
    rw [E_cons]
    by_cases he : esc a c = true
    · have hne : x32 c ≠ 126 := by
        intro hx
        have := E_noflag a h
        rw [E_cons, if_pos he] at this
        apply this
        simp [hx]
      rw [if_pos he]
      show Pl false (125 :: x32 c :: E a t) = _
      rw [Pl_cons, if_neg (by omega), if_pos ⟨rfl, rfl⟩, Pl_cons, if_neg hne, if_neg (by simp), ht, if_pos rfl, (x32_facts hc).2.1]
      rfl
    · rw [if_neg he]
      show Pl false (c :: E a t) = _
      have h1 : c ≠ 126 := by rintro rfl; exact he (by simp [esc])
      have h2 : c ≠ 125 := by rintro rfl; exact he (by simp [esc])
      rw [Pl_cons, if_neg h1, if_neg (fun h => h2 h.1), ht]
      rfl
theorem Sg_skip : ∀ (u seg t : List Int), 126 ∉ u → Sg seg (u ++ t) = Sg (seg ++ u) t
  | [], seg, t, _ => by simp
  | c :: u, seg, t, h => by
    rw [List.mem_cons, not_or] at h
    rw [List.cons_append, Sg, if_neg (fun hx => h.1 hx.symm), Sg_skip u (seg ++ [c]) t h.2, List.append_assoc]
    rfl
theorem Sg_flag (t : List Int) : Sg [] (126 :: t) = Sg [] t := by
  rw [Sg, if_pos rfl]
  rfl
theorem Sg_E (a : Int) {l : List Int} (hB : B l) (h0 : 1 ≤ l.length) (h1 : (E a l).length ≤ 1508) (t : List Int) : Sg [] (E a l ++ 126 :: t) = l :: Sg [] t := by
  have := E_length a l
  rw [Sg_skip _ _ _ (E_noflag a hB), List.nil_append, Sg, if_pos rfl, Pl_E a hB]
  dsimp only
  rw [if_pos ⟨by omega, h1⟩]
  rfl
theorem Sg_send (a : Int) {l : List Int} (hB : B l) (h0 : 1 ≤ l.length) (h1 : (E a l).length ≤ 1508) (t : List Int) : Sg [] (send a l ++ t) = l :: Sg [] t := by
  unfold send
  rw [List.append_assoc, List.append_assoc, List.cons_append, List.nil_append, Sg_flag]
  exact Sg_E a hB h0 h1 t
theorem Sg_behind : ∀ (u seg t : List Int), ∃ fs, Sg seg (u ++ 126 :: t) = fs ++ Sg [] t
  | [], seg, t => ⟨_, by rw [List.nil_append, Sg, if_pos rfl]⟩
  | c :: u, seg, t => by
    rw [List.cons_append, Sg]
    split
    · obtain ⟨fs, h⟩ := Sg_behind u [] t
      exact ⟨_, by rw [h, ← List.append_assoc]⟩
    · exact Sg_behind u (seg ++ [c]) t
def Se (a : Int) : List (List Int) → List Int
  | [] => []
  | l :: r => send a l ++ Se a r
def On (a : Int) : List (List Int) → List Int
  | [] => []
  | l :: r => 126 :: E a l ++ On a r
theorem Sg_Se (a : Int) : ∀ r : List (List Int), (∀ l ∈ r, B l ∧ 1 ≤ l.length ∧ l.length ≤ 700) → Sg [] (Se a r) = r
  | [], _ => rfl
  | l :: r, h => by
    have h1 := h l (by simp)
    have := E_length a l
    rw [Se, Sg_send a h1.1 h1.2.1 (by omega), Sg_Se a r (fun x hx => h x (List.mem_cons_of_mem _ hx))]
theorem Se_snoc (a : Int) (l : List Int) : ∀ r : List (List Int), Se a (r ++ [l]) = Se a r ++ send a l
  | [] => by simp [Se]
  | m :: r => by simp only [List.cons_append, Se, Se_snoc a l r, List.append_assoc]
theorem SeOn_length (a : Int) : ∀ r : List (List Int), (∀ l ∈ r, 1 ≤ l.length ∧ l.length ≤ 700) → (Se a r).length ≤ 1402 * r.length ∧ (On a r).length ≤ 1402 * r.length
  | [], _ => by simp [Se, On]
  | l :: r, h => by
    have h1 := h l (by simp)
    have := send_length a l
    have := E_length a l
    have := SeOn_length a r (fun x hx => h x (List.mem_cons_of_mem _ hx))
    simp only [Se, On, List.length_append, List.length_cons]
    omega
theorem Se_B (a : Int) : ∀ r : List (List Int), (∀ l ∈ r, B l) → B (Se a r) ∧ B (On a r)
  | [], _ => ⟨by intro c hc; simp [Se] at hc, by intro c hc; simp [On] at hc⟩
  | l :: r, h => by
    have h1 := send_B a (h l (by simp))
    have h2 := E_B a (h l (by simp))
    have ht := Se_B a r (fun x hx => h x (List.mem_cons_of_mem _ hx))
    constructor
    · intro c hc
      rw [Se, List.mem_append] at hc
      exact hc.elim (h1 c) (ht.1 c)
    · intro c hc
      rw [On, List.cons_append, List.mem_cons, List.mem_append] at hc
      rcases hc with rfl | hc | hc
      · omega
      · exact h2 c hc
      · exact ht.2 c hc
/-- What bytes read as. -/
def rdv (l : List Int) : Int × List Int × Int := if l.length < 2 then (0, [], 2) else if on 65535 (toN l) = 61624 then body (trim (l.take (l.length - 2))) else (0, [], 3)
theorem rdv_put {p : Int} {l : List Int} (a : Bool) (h : 0 ≤ p ∧ p ≤ 65535) (hp : ok p = true) (hB : B l) (hl : l.length ≤ 1500) : rdv (put (plain p l a)) = (p, l, 0) := by
  have hpp := put_length (plain p l a)
  unfold rdv
  rw [if_neg (by omega), if_pos (good_put (plain_B h hB a)), put_take, body_back p l a h hp hl]
theorem take_own (k : Nat) (l : List Int) (long : Bool) (c : Int) (hB : B l) (hl : l.length ≤ 1508) (hk : 1600 ≤ k) :
    frame_Take.f k l long c = some ((fd l long c).1, (fd l long c).2.1, (rdv (fd l long c).2.2.1).1, (rdv (fd l long c).2.2.1).2.1, (fd l long c).2.2.2 && (rdv (fd l long c).2.2.1).2.2 == 0) := by
  unfold frame_Take.f
  have hg := fd_got long c hB
  rw [feed_own _ l long c hB (by omega) (by omega), Option.bind_some, read_own _ _ hg.1 (by omega) (by omega), Option.bind_some]
  change (if (fd l long c).2.2.2 = true then some ((fd l long c).1, (fd l long c).2.1, (rdv (fd l long c).2.2.1).1, (rdv (fd l long c).2.2.1).2.1, (rdv (fd l long c).2.2.1).2.2 == 0) else some ((fd l long c).1, (fd l long c).2.1, (rdv (fd l long c).2.2.1).1, (rdv (fd l long c).2.2.1).2.1, false)) = _
  cases h : (fd l long c).2.2.2 with
  | true => rw [if_pos rfl, Bool.true_and]
  | false => rw [if_neg (by simp), Bool.false_and]
/-- The frames of pieces. -/
def Fs : List (List Int) → List S25
  | [] => []
  | p :: r => (if (rdv p).2.2 = 0 then [⟨(rdv p).1, (rdv p).2.1⟩] else []) ++ Fs r
theorem Fs_append : ∀ a b : List (List Int), Fs (a ++ b) = Fs a ++ Fs b
  | [], b => rfl
  | p :: r, b => by rw [List.cons_append, Fs, Fs, Fs_append r b, List.append_assoc]
theorem taken_l0 (b : List Int) (hb : B b) (hbl : b.length ≤ 1000000) : ∀ (d k i : Nat) (out : List S25) (l : List Int) (long : Bool), i + d = b.length → out.length + d ≤ 1000000 → B l → l.length ≤ 1508 → d + 1620 ≤ k → portreevelaw08_taken.l0 k b out i l long = some (out ++ Fs (Al l long (b.drop i)))
  | 0, k, i, out, l, long, hd, ho, hB, hl, hk => by
    obtain ⟨k, rfl⟩ : ∃ m, k = m + 1 := ⟨k - 1, by omega⟩
    rw [portreevelaw08_taken.l0, if_neg (by omega), List.drop_eq_nil_of_le (by omega), Al, Fs, List.append_nil]
  | d + 1, k, i, out, l, long, hd, ho, hB, hl, hk => by
    obtain ⟨k, rfl⟩ : ∃ m, k = m + 1 := ⟨k - 1, by omega⟩
    have hi : i < b.length := by omega
    have hbi := rdB hb i hi
    have hlen := fd_length l long b[i] hl
    rw [portreevelaw08_taken.l0, if_pos (by omega), if_pos (by omega), rd_lt b i hi, take_own k l long b[i] hB hl (by omega), Option.bind_some, w64 (by omega) (by omega), show ((i : Int) + 1) = ((i + 1 : Nat) : Int) by omega, List.drop_eq_getElem_cons hi, Al, Fs_append]
    cases h : (fd l long b[i]).2.2.2 with
    | true =>
      by_cases h2 : (rdv (fd l long b[i]).2.2.1).2.2 = 0
      · rw [if_pos (by simp [h2]), if_pos (by omega), taken_l0 b hb hbl d k (i + 1) _ _ _ (by omega) (by simp only [List.length_append, List.length_cons, List.length_nil]; omega) (fd_B hB hbi) hlen.1 (by omega), if_pos rfl, Fs, if_pos h2, Fs, List.append_assoc, List.append_nil]
      · rw [if_neg (by simp [h2]), taken_l0 b hb hbl d k (i + 1) _ _ _ (by omega) (by omega) (fd_B hB hbi) hlen.1 (by omega), if_pos rfl, Fs, if_neg h2, Fs, List.append_nil, List.nil_append]
    | false =>
      rw [if_neg (by simp), taken_l0 b hb hbl d k (i + 1) _ _ _ (by omega) (by omega) (fd_B hB hbi) hlen.1 (by omega), if_neg (by simp), Fs, List.nil_append]
theorem taken_own (k : Nat) (b : List Int) (hb : B b) (hl : b.length ≤ 1000000) (hk : b.length + 1620 ≤ k) : portreevelaw08_taken.f k b = some (Fs (Sg [] b)) := by
  unfold portreevelaw08_taken.f
  have := taken_l0 b hb hl b.length k 0 [] [] false (by omega) (by simp; omega) (fun _ hc => by cases hc) (by simp) hk
  rw [show ((0 : Nat) : Int) = 0 from rfl] at this
  rw [this, List.drop_zero, List.nil_append]
  have h2 := Al_Sg b []
  rw [if_pos (by simp), show decide (1508 < ([] : List Int).length) = false from rfl] at h2
  rw [h2]
theorem rd25 (l : List S25) (i : Nat) (h : i < l.length) : rd_T25 l i = l[i] := by
  unfold rd_T25
  rw [Int.toNat_natCast, List.getD_eq_getElem?_getD, List.getElem?_eq_getElem h]
  rfl
theorem Sg_bound : ∀ (t seg : List Int), (∀ x ∈ Sg seg t, x.length ≤ 1508) ∧ (Sg seg t).length ≤ t.length
  | [], seg => by simp [Sg]
  | c :: t, seg => by
    rw [Sg]
    split
    · obtain ⟨h1, h2⟩ := Sg_bound t []
      cases h : Pl false seg with
      | none => exact ⟨h1, by simp only [List.nil_append, List.length_cons]; omega⟩
      | some p =>
        have hp := Pl_length false seg p h
        dsimp only
        split
        · next hc =>
          refine ⟨fun x hx => ?_, by simp only [List.length_append, List.length_cons, List.length_nil]; omega⟩
          rcases List.mem_append.1 hx with hx | hx
          · simp only [List.mem_cons, List.not_mem_nil, or_false] at hx
            rw [hx]; omega
          · exact h1 x hx
        · exact ⟨h1, by simp only [List.nil_append, List.length_cons]; omega⟩
    · obtain ⟨h1, h2⟩ := Sg_bound t (seg ++ [c])
      exact ⟨h1, by simp only [List.length_cons]; omega⟩
theorem Fs_length : ∀ r : List (List Int), (Fs r).length ≤ r.length
  | [] => by simp [Fs]
  | p :: r => by
    have := Fs_length r
    rw [Fs, List.length_append, List.length_cons]
    split <;> simp <;> omega
theorem rdv_facts {l : List Int} (hB : B l) (h : (rdv l).2.2 = 0) : (rdv l).2.1.length ≤ 1500 := by
  unfold rdv at h ⊢
  by_cases h1 : l.length < 2
  · rw [if_pos h1] at h
    simp at h
  · rw [if_neg h1] at h ⊢
    by_cases h2 : on 65535 (toN l) = 61624
    · rw [if_pos h2] at h ⊢
      generalize hb : body (trim (l.take (l.length - 2))) = b at h ⊢
      obtain ⟨q, i, e⟩ := b
      rcases body_facts (trim_B (B_take _ hB)) hb with g | ⟨_, g, _⟩
      · exact g.2.2.2.1
      · simp [g]
    · rw [if_neg h2] at h
      simp at h
theorem Fs_short : ∀ r : List (List Int), (∀ x ∈ r, B x ∧ x.length ≤ 1000000) → ∀ x ∈ Fs r, x.f1.length ≤ 1500
  | [], _, x, hx => by simp [Fs] at hx
  | p :: r, h, x, hx => by
    rw [Fs] at hx
    rcases List.mem_append.1 hx with hx | hx
    · split at hx
      · rw [List.mem_singleton.1 hx]
        exact rdv_facts (h p (by simp)).1 (by assumption)
      · cases hx
    · exact Fs_short r (fun y hy => h y (by simp [hy])) x hx
end Go.Proofs.Ytangahcilefelaa.Pure
