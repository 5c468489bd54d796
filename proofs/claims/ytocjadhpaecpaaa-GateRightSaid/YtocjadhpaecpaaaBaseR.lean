/- What a failure does to a book, over plain rows. -/
import Derived.Test.YtocjadhpaecpaaaQx0
import Derived.Test.YtocjadhpaecpaaaQx6
import Derived.Test.YtocjadhpaecpaaaQx12
import Derived.Test.YtocjadhpaecpaaaQx13
import Derived.Test.YtocjadhpaecpaaaQx14
import Derived.Test.YtocjadhpaecpaaaQx15
import Derived.Test.YtocjadhpaecpaaaQx16
import Derived.Test.YtocjadhpaecpaaaQx17
import Derived.Test.YtocjadhpaecpaaaQx18
import Derived.Test.YtocjadhpaecpaaaQx19
import Derived.Test.YtocjadhpaecpaaaQx23
import Derived.Test.YtocjadhpaecpaaaQx24
import Derived.Test.YtocjadhpaecpaaaQx28
import Derived.Test.YtocjadhpaecpaaaQx31
import Derived.Test.YtocjadhpaecpaaaPureKit
import Derived.Test.YtocjadhpaecpaaaBase2
namespace Go.Proofs.Ytocjadhpaecpaaa.Pure
set_option linter.unusedVariables false
open Go Go.RowKit Go.Proofs.Ytocjadhpaecpaaa.Q Go.Proofs.YtocjadhpaecpaaaK Go.Proofs.YtocjadhpaecpaaaW.PrintWords Go.Proofs.YtocjadhpaecpaaaW.PrintLast Go.Proofs.YtocjadhpaecpaaaW.PrintMore

/-- Where a user first stands. -/
def ix (u : ByteArray) : List S64 → Option Nat
  | [] => none
  | x :: t => if x.f0.toList = u.toList then some 0 else (ix u t).map (· + 1)
def oi (i : Nat) (o : Option Nat) : Int := match o with | none => -1 | some n => ((i + n : Nat) : Int)
theorem ix_lt (u : ByteArray) : ∀ (L : List S64) (n : Nat), ix u L = some n → ∃ h : n < L.length, L[n].f0.toList = u.toList
  | [], n, h => by simp [ix] at h
  | x :: t, n, h => by
    unfold ix at h
    split at h
    · next hx => obtain rfl := Option.some.inj h; exact ⟨by simp, hx⟩
    · rcases hm : ix u t with _ | m
      · rw [hm] at h; simp at h
      · rw [hm] at h
        obtain rfl : m + 1 = n := by simpa using h
        obtain ⟨h1, h2⟩ := ix_lt u t m hm
        exact ⟨by simp only [List.length_cons]; omega, h2⟩
theorem failed4_ix (u : ByteArray) (a : Int) (O : List S76) (W : List S72) (L : List S64) (hL : L.length ≤ 1000) : ∀ (d k i : Nat), i + d = L.length → d < k → portreeveref04_Failed.l0 k u (i : Int) a O W L = some (oi i (ix u (L.drop i)))
  | 0, k, i, hd, hk => by
    obtain ⟨k, rfl⟩ : ∃ m, k = m + 1 := ⟨k - 1, by omega⟩
    rw [portreeveref04_Failed.l0, if_neg (by omega), List.drop_eq_nil_of_le (by omega)]
    rfl
  | d + 1, k, i, hd, hk => by
    obtain ⟨k, rfl⟩ : ∃ m, k = m + 1 := ⟨k - 1, by omega⟩
    have hi : i < L.length := by omega
    rw [portreeveref04_Failed.l0, if_pos (by omega), if_pos (by omega), F_lt L i hi, List.drop_eq_getElem_cons hi, ix]
    by_cases h : L[i].f0.toList = u.toList
    · rw [if_pos h, if_pos h]
      rfl
    · rw [if_neg h, if_neg h, w64 (by omega) (by omega), show ((i : Int) + 1) = ((i + 1 : Nat) : Int) by omega, failed4_ix u a O W L hL d k (i + 1) (by omega) (by omega)]
      congr 1
      rcases ix u (L.drop (i + 1)) with _ | n
      · rfl
      · show (((i + 1 + n : Nat)) : Int) = ((i + (n + 1) : Nat) : Int)
        omega
theorem failed4_own (k : Nat) (u : ByteArray) (a : Int) (O : List S76) (W : List S72) (L : List S64) (hL : L.length ≤ 1000) (hk : 1002 ≤ k) : portreeveref04_Failed.f k a O W L u = some (oi 0 (ix u L)) := by
  have := failed4_ix u a O W L hL L.length k 0 (by omega) (by omega)
  unfold portreeveref04_Failed.f
  simpa using this

/-- A failure, or none any more. -/
def ap (L : List S64) (kd : Int) (u : ByteArray) (t : Int) : List S64 × Int :=
  match ix u L with
  | none => if kd = 5 then (L, 5) else if L.length = 8 then (L, 4) else (L ++ [⟨u, 1, t⟩], 0)
  | some n => if kd = 5 then (L.take n ++ L.drop (n + 1), 0) else if (rd_T64 L (n : Int)).f2 > t then (L, 7) else (L.set n ⟨u, min 255 ((rd_T64 L (n : Int)).f1 + 1), t⟩, 0)
theorem mn_own (a b : Int) : mn a b = min a b := by
  unfold mn
  split <;> omega
theorem apply_own (k : Nat) (a : Int) (O : List S76) (W : List S72) {L : List S64} (kd : Int) (u : ByteArray) (t : Int) (hL : L.length ≤ 1000) (hLL : LL L) (hd : kd = 4 ∨ kd = 5) (h0 : 1 ≤ u.size) (h1 : u.size ≤ 16) (t0 : 0 ≤ t) (t1 : t ≤ 1000000000) (hk : 1010 ≤ k) :
    portreeveref04_Apply.f k a O W L kd 0 0 0 u 0 0 0 t = some (a, O, W, (ap L kd u t).1, (ap L kd u t).2) := by
  obtain ⟨k, rfl⟩ : ∃ m, k = m + 2 := ⟨k - 2, by omega⟩
  have hm : portreeveref04_May.f (k + 2) kd 0 0 0 u 0 0 0 t = some true := by
    unfold portreeveref04_May.f
    rw [name_own, Option.bind_some, if_neg (by omega), if_neg (by omega), if_neg (by omega), if_neg (by omega), if_neg (by omega), decide_eq_true h0, decide_eq_true h1, portreeveref04_May.j0, if_neg (by decide), if_pos (by decide), if_pos t0, if_pos t1, if_pos (by decide)]
    rfl
  have hf : portreeveref04_failed.f k a O W L kd 0 0 0 u 0 0 0 t = some (a, O, W, (ap L kd u t).1, (ap L kd u t).2) := by
    unfold portreeveref04_failed.f ap
    rw [failed4_own k u a O W L hL (by omega), Option.bind_some, Option.bind_some, if_pos (by simp only [List.length_nil]; omega), Option.bind_some]
    rcases hx : ix u L with _ | n
    · by_cases h5 : kd = 5
      · rw [if_pos h5, if_pos (by decide)]
        simp only [if_pos h5]
      · rw [if_neg h5, if_pos (by decide)]
        simp only [if_neg h5]
        by_cases h8 : L.length = 8
        · rw [if_pos (by omega), if_pos h8]
        · rw [if_neg (by omega), if_neg h8, if_pos (by simp only [List.nil_append]; omega), List.nil_append]
    · obtain ⟨hn, _⟩ := ix_lt u L n hx
      have hoi : oi 0 (some n) = (n : Int) := by show ((0 + n : Nat) : Int) = _; omega
      rw [hoi]
      have hr := hLL L[n] (List.getElem_mem hn)
      by_cases h5 : kd = 5
      · rw [if_pos h5, if_neg (by omega), Option.bind_some, if_pos (by omega), if_pos (by omega), Option.bind_some, if_pos (by simp only [List.length_nil, Int.toNat_natCast, List.length_take]; omega), Option.bind_some, w64 (by omega) (by omega), if_pos (by omega), if_pos (by omega), Option.bind_some, if_pos (by simp only [List.length_append, List.length_nil, Int.toNat_natCast, List.length_take, List.length_drop]; omega)]
        simp only [if_pos h5, List.nil_append, Int.toNat_natCast]
        rw [show ((n : Int) + 1).toNat = n + 1 by omega]
      · rw [if_neg h5, if_neg (by omega), if_pos (by omega), if_pos (by omega)]
        simp only [if_neg h5]
        by_cases h7 : (rd_T64 L (n : Int)).f2 > t
        · rw [if_pos h7, if_pos h7]
        · rw [if_neg h7, if_neg h7, if_pos (by simp only [List.nil_append]; omega), List.nil_append, Int.toNat_natCast, mn_own, w64 (by rw [F_lt L n hn]; omega) (by rw [F_lt L n hn]; omega)]
  unfold portreeveref04_Apply.f
  rw [hm, Option.bind_some, if_pos rfl, if_neg (by omega), if_neg (by omega), show (kd == 3) = false from beq_eq_false_iff_ne.2 (by omega), portreeveref04_Apply.j0, if_neg (by decide)]
  rcases hd with rfl | rfl
  · rw [if_pos rfl, portreeveref04_Apply.j1, if_pos (by decide), hf, Option.bind_some]
  · rw [if_neg (by decide), portreeveref04_Apply.j1, if_pos (by decide), hf, Option.bind_some]

theorem split_at (L : List S64) (n : Nat) (h : n < L.length) : L = L.take n ++ L[n] :: L.drop (n + 1) := by
  rw [← List.drop_eq_getElem_cons h, List.take_append_drop]
theorem ap_other (L : List S64) (kd : Int) (u v : ByteArray) (t : Int) (h : u.toList ≠ v.toList) : (ap L kd u t).1.filter (gate_Failed.hit v) = L.filter (gate_Failed.hit v) := by
  have hu : ∀ (x : S64), x.f0.toList = u.toList → gate_Failed.hit v x = false := fun x hx => by
    unfold gate_Failed.hit
    rw [hx]
    exact beq_eq_false_iff_ne.2 h
  unfold ap
  rcases hx : ix u L with _ | n
  · simp only []
    split
    · rfl
    · split
      · rfl
      · show (L ++ [(⟨u, 1, t⟩ : S64)]).filter _ = _
        rw [List.filter_append, List.filter_cons_of_neg (by rw [hu _ rfl]; simp), List.filter_nil, List.append_nil]
  · obtain ⟨hn, hm⟩ := ix_lt u L n hx
    have hs := split_at L n hn
    have hf : L.filter (gate_Failed.hit v) = (L.take n).filter (gate_Failed.hit v) ++ (L.drop (n + 1)).filter (gate_Failed.hit v) := by
      conv => lhs; rw [hs]
      rw [List.filter_append, List.filter_cons_of_neg (by rw [hu _ hm]; simp)]
    simp only []
    split
    · show (L.take n ++ L.drop (n + 1)).filter _ = _
      rw [List.filter_append, hf]
    · split
      · rfl
      · show (L.set n _).filter _ = _
        rw [List.set_eq_take_append_cons_drop, if_pos hn, List.filter_append, List.filter_cons_of_neg (by rw [hu _ rfl]; simp), hf]
theorem ap_LL {L : List S64} (h : LL L) (kd : Int) (u : ByteArray) (t : Int) (t0 : 0 ≤ t) (t1 : t ≤ 1000000000) : LL (ap L kd u t).1 ∧ (ap L kd u t).1.length ≤ L.length + 1 := by
  unfold ap
  rcases hx : ix u L with _ | n
  · simp only []
    split
    · exact ⟨h, by simp only; omega⟩
    · split
      · exact ⟨h, by simp only; omega⟩
      · refine ⟨fun x hx => ?_, by simp only [List.length_append, List.length_singleton]; omega⟩
        simp only [List.mem_append, List.mem_singleton] at hx
        rcases hx with hx | rfl
        · exact h x hx
        · exact ⟨⟨show (1 : Int) ≤ 1 by omega, show (1 : Int) ≤ 255 by omega⟩, t0, t1⟩
  · obtain ⟨hn, hm⟩ := ix_lt u L n hx
    simp only []
    split
    · refine ⟨fun x hx => ?_, by simp only [List.length_append, List.length_take, List.length_drop]; omega⟩
      simp only [List.mem_append] at hx
      rcases hx with hx | hx
      · exact h x (List.mem_of_mem_take hx)
      · exact h x (List.mem_of_mem_drop hx)
    · split
      · exact ⟨h, by simp only; omega⟩
      · refine ⟨fun x hx => ?_, by simp only [List.length_set]; omega⟩
        rcases List.mem_or_eq_of_mem_set hx with hx | rfl
        · exact h x hx
        · have := h L[n] (List.getElem_mem hn)
          show (1 ≤ min 255 ((rd_T64 L (n : Int)).f1 + 1) ∧ min 255 ((rd_T64 L (n : Int)).f1 + 1) ≤ 255) ∧ 0 ≤ t ∧ t ≤ 1000000000
          rw [F_lt L n hn]
          omega
theorem ops_own (k : Nat) (l : List S41) (hl : l.length ≤ 1) (hk : 3 ≤ k) : portreeveref16_Ops.f k l l = some true := by
  obtain ⟨k, rfl⟩ : ∃ m, k = m + 2 := ⟨k - 2, by omega⟩
  unfold portreeveref16_Ops.f
  rw [if_pos rfl, portreeveref16_Ops.l0]
  rcases l with _ | ⟨x, _ | ⟨y, r⟩⟩
  · rw [if_neg (by simp)]
  · rw [if_pos (by simp), if_pos (by omega), if_pos (by simp), if_neg (by simp), w64 (by omega) (by omega), portreeveref16_Ops.l0, if_neg (by simp)]
  · simp at hl
theorem VD_same {L L' : List S64} (u : ByteArray) (known good : Bool) (now : Int) (h : FL L' u = FL L u) : VD L' u known good now = VD L u known good now := by
  unfold VD UL
  rw [h]
theorem VD_ops (L : List S64) (u : ByteArray) (known good : Bool) (now : Int) : (VD L u known good now).2 = [] ∨ ∃ kd t, (kd = 4 ∨ kd = 5) ∧ (t = 0 ∨ t = max now (FL L u).2) ∧ (VD L u known good now).2 = [⟨kd, 0, 0, 0, u, 0, 0, 0, t⟩] := by
  unfold VD
  split
  · exact Or.inl rfl
  · split
    · split
      · exact Or.inl rfl
      · exact Or.inr ⟨5, 0, Or.inr rfl, Or.inl rfl, rfl⟩
    · exact Or.inr ⟨4, _, Or.inl rfl, Or.inr rfl, rfl⟩
end Go.Proofs.Ytocjadhpaecpaaa.Pure

/- Who has failed, behind a failure. -/
namespace Go.Proofs.Ytocjadhpaecpaaa.Pure
set_option linter.unusedVariables false
open Go Go.RowKit Go.Proofs.Ytocjadhpaecpaaa.Q Go.Proofs.YtocjadhpaecpaaaK Go.Proofs.YtocjadhpaecpaaaW.PrintWords Go.Proofs.YtocjadhpaecpaaaW.PrintLast Go.Proofs.YtocjadhpaecpaaaW.PrintMore

theorem ix_none (u : ByteArray) : ∀ L : List S64, ix u L = none → L.filter (gate_Failed.hit u) = []
  | [], _ => rfl
  | x :: t, h => by
    unfold ix at h
    split at h
    · cases h
    · next hx =>
      have ht : ix u t = none := by rcases hm : ix u t with _ | m; rfl; rw [hm] at h; cases h
      rw [List.filter_cons_of_neg (by unfold gate_Failed.hit; simpa using hx), ix_none u t ht]
theorem ix_take (u : ByteArray) : ∀ (L : List S64) (n : Nat), ix u L = some n → (L.take n).filter (gate_Failed.hit u) = []
  | [], n, h => by simp [ix] at h
  | x :: t, n, h => by
    unfold ix at h
    split at h
    · obtain rfl := Option.some.inj h; rfl
    · next hx =>
      rcases hm : ix u t with _ | m
      · rw [hm] at h; cases h
      · rw [hm] at h
        obtain rfl : m + 1 = n := by simpa using h
        rw [List.take_succ_cons, List.filter_cons_of_neg (by unfold gate_Failed.hit; simpa using hx), ix_take u t m hm]
theorem FL_none {u : ByteArray} {L : List S64} (h : ix u L = none) : FL L u = (0, 0) := by
  unfold FL
  rw [ix_none u L h]
  rfl
theorem FL_at (u : ByteArray) (A B : List S64) (y : S64) (hA : A.filter (gate_Failed.hit u) = []) (hy : y.f0.toList = u.toList) : FL (A ++ y :: B) u = (y.f1, y.f2) := by
  unfold FL
  rw [List.filter_append, hA, List.nil_append, List.filter_cons_of_pos (by unfold gate_Failed.hit; simpa using hy)]
  rfl
theorem FL_some {u : ByteArray} {L : List S64} {n : Nat} (h : ix u L = some n) : FL L u = ((rd_T64 L (n : Int)).f1, (rd_T64 L (n : Int)).f2) := by
  obtain ⟨hn, hm⟩ := ix_lt u L n h
  rw [F_lt L n hn]
  conv => lhs; rw [split_at L n hn]
  exact FL_at u _ _ _ (ix_take u L n h) hm
/-- A failure counts one more, and is the last one. -/
theorem ap_fail {L : List S64} (u : ByteArray) (t : Int) (ht : (FL L u).2 ≤ t) (h : (ap L 4 u t).2 = 0) : FL (ap L 4 u t).1 u = (min 255 ((FL L u).1 + 1), t) := by
  unfold ap at h ⊢
  rcases hx : ix u L with _ | n
  · rw [hx] at h
    simp only [show ¬ (4 : Int) = 5 by omega, if_false] at h ⊢
    by_cases h8 : L.length = 8
    · rw [if_pos h8] at h; exact absurd (show (4 : Int) = 0 from h) (by decide)
    · rw [if_neg h8]
      rw [FL_none hx]
      exact FL_at u L [] ⟨u, 1, t⟩ (ix_none u L hx) rfl
  · obtain ⟨hn, hm⟩ := ix_lt u L n hx
    rw [hx] at h
    simp only [show ¬ (4 : Int) = 5 by omega, if_false] at h ⊢
    rw [FL_some hx] at ht ⊢
    rw [if_neg (show ¬ (rd_T64 L (n : Int)).f2 > t by simp only at ht; omega)]
    show FL (L.set n ⟨u, min 255 ((rd_T64 L (n : Int)).f1 + 1), t⟩) u = _
    rw [List.set_eq_take_append_cons_drop, if_pos hn]
    exact FL_at u _ _ ⟨u, _, t⟩ (ix_take u L n hx) rfl
theorem ap_bad {L : List S64} (u : ByteArray) (t : Int) (ht : (FL L u).2 ≤ t) (h : (ap L 4 u t).2 ≠ 0) : L.length = 8 := by
  unfold ap at h
  rcases hx : ix u L with _ | n
  · rw [hx] at h
    simp only [show ¬ (4 : Int) = 5 by omega, if_false] at h
    by_cases h8 : L.length = 8
    · exact h8
    · rw [if_neg h8] at h; exact absurd rfl h
  · rw [hx] at h
    rw [FL_some hx] at ht
    simp only [show ¬ (4 : Int) = 5 by omega, if_false] at h
    rw [if_neg (show ¬ (rd_T64 L (n : Int)).f2 > t by simp only at ht; omega)] at h
    exact absurd rfl h
end Go.Proofs.Ytocjadhpaecpaaa.Pure

/- Who has failed stands once in a right book; what is right of a book apart from them doesn't hang on them. -/
namespace Go.Proofs.Ytocjadhpaecpaaa.Pure
set_option linter.unusedVariables false
open Go Go.RowKit Go.Proofs.Ytocjadhpaecpaaa.Q Go.Proofs.YtocjadhpaecpaaaK Go.Proofs.YtocjadhpaecpaaaW.PrintWords Go.Proofs.YtocjadhpaecpaaaW.PrintLast Go.Proofs.YtocjadhpaecpaaaW.PrintMore

/-- Each name once. -/
def UQ (L : List S64) : Prop := (L.map fun x => x.f0.toList).Nodup
def NM (L : List S64) : Prop := ∀ x ∈ L, 1 ≤ x.f0.size ∧ x.f0.size ≤ 16
theorem ix_congr (u v : ByteArray) (h : u.toList = v.toList) : ∀ L : List S64, ix u L = ix v L
  | [] => rfl
  | x :: t => by rw [ix, ix, h, ix_congr u v h t]
theorem ix_UQ : ∀ (L : List S64) (i : Nat) (hi : i < L.length), UQ L → ix L[i].f0 L = some i
  | [], i, hi, _ => by simp at hi
  | x :: t, 0, hi, _ => by rw [ix]; exact if_pos rfl
  | x :: t, i + 1, hi, h => by
    unfold UQ at h
    rw [List.map_cons, List.nodup_cons] at h
    have hi' : i < t.length := by simpa using hi
    have hx : ¬ x.f0.toList = t[i].f0.toList := fun e => h.1 (by rw [e]; exact List.mem_map.2 ⟨t[i], List.getElem_mem hi', rfl⟩)
    rw [show (x :: t)[i + 1] = t[i] from rfl, ix, if_neg hx, ix_UQ t i hi' h.2]
    rfl
theorem UQ_of (L : List S64) (h : ∀ (i : Nat) (hi : i < L.length), ix L[i].f0 L = some i) : UQ L := by
  unfold UQ
  rw [List.Nodup, List.pairwise_iff_getElem]
  intro i j hi hj hij e
  rw [List.length_map] at hi hj
  rw [List.getElem_map, List.getElem_map] at e
  have h1 := h i hi
  rw [ix_congr _ _ e, h j hj] at h1
  have := Option.some.inj h1
  omega

theorem l2_un (a : Int) (O : List S76) (W : List S72) (L : List S64) (hL : L.length ≤ 1000) : ∀ (d k i : Nat), i + d = L.length → 2 * d + 1010 ≤ k → portreeveref04_Right.l2 k (i : Int) a O W L = some true → ∀ (j : Nat) (hj : j < L.length), i ≤ j → ix L[j].f0 L = some j ∧ 1 ≤ L[j].f0.size ∧ L[j].f0.size ≤ 16
  | 0, k, i, hd, hk, h, j, hj, hij => by omega
  | d + 1, k, i, hd, hk, h, j, hj, hij => by
    obtain ⟨k, rfl⟩ : ∃ m, k = m + 2 := ⟨k - 2, by omega⟩
    have hi : i < L.length := by omega
    have hjt : portreeveref04_Right.j6 (k + 1) (i : Int) true a O W L = some true → False := by
      rw [portreeveref04_Right.j6, if_pos rfl]; simp
    rw [portreeveref04_Right.l2, if_pos (by omega), if_pos (by omega), name_own, Option.bind_some, F_lt L i hi] at h
    split at h
    · next hnm =>
      by_cases h1 : L[i].f1 < 1
      · rw [if_pos h1] at h; exact (hjt h).elim
      by_cases h2 : L[i].f1 > 255
      · rw [if_neg h1, if_pos h2] at h; exact (hjt h).elim
      by_cases h3 : L[i].f2 < 0
      · rw [if_neg h1, if_neg h2, if_pos h3] at h; exact (hjt h).elim
      by_cases h4 : L[i].f2 > 1000000000
      · rw [if_neg h1, if_neg h2, if_neg h3, if_pos h4] at h; exact (hjt h).elim
      rw [if_neg h1, if_neg h2, if_neg h3, if_neg h4, failed4_own (k + 1) L[i].f0 a O W L hL (by omega), Option.bind_some, portreeveref04_Right.j6] at h
      by_cases hx : (oi 0 (ix L[i].f0 L) != (i : Int)) = true
      · rw [if_pos hx] at h; simp at h
      · rw [if_neg hx, w64 (by omega) (by omega), show ((i : Int) + 1) = ((i + 1 : Nat) : Int) by omega] at h
        by_cases hji : j = i
        · subst hji
          have hx' : oi 0 (ix L[j].f0 L) = (j : Int) := by simpa using hx
          rw [Bool.and_eq_true, decide_eq_true_eq, decide_eq_true_eq] at hnm
          refine ⟨?_, hnm.1, hnm.2⟩
          rcases hm : ix L[j].f0 L with _ | m
          · rw [hm] at hx'; simp only [oi] at hx'; omega
          · rw [hm] at hx'; simp only [oi] at hx'; congr 1; omega
        · exact l2_un a O W L hL d k (i + 1) (by omega) (by omega) h j hj (by omega)
    · exact (hjt h).elim
theorem l2_mk (a : Int) (O : List S76) (W : List S72) (L : List S64) (hL : L.length ≤ 1000) (hLL : LL L) (hU : UQ L) (hN : NM L) : ∀ (d k i : Nat), i + d = L.length → 2 * d + 1010 ≤ k → portreeveref04_Right.l2 k (i : Int) a O W L = some true
  | 0, k, i, hd, hk => by
    obtain ⟨k, rfl⟩ : ∃ m, k = m + 1 := ⟨k - 1, by omega⟩
    rw [portreeveref04_Right.l2, if_neg (by omega)]
  | d + 1, k, i, hd, hk => by
    obtain ⟨k, rfl⟩ : ∃ m, k = m + 2 := ⟨k - 2, by omega⟩
    have hi : i < L.length := by omega
    have hx := hLL L[i] (List.getElem_mem hi)
    have hn := hN L[i] (List.getElem_mem hi)
    rw [portreeveref04_Right.l2, if_pos (by omega), if_pos (by omega), name_own, Option.bind_some, F_lt L i hi, decide_eq_true hn.1, decide_eq_true hn.2, if_pos (by decide), if_neg (by omega), if_neg (by omega), if_neg (by omega), if_neg (by omega), failed4_own (k + 1) L[i].f0 a O W L hL (by omega), Option.bind_some, ix_UQ L i hi hU, portreeveref04_Right.j6, if_neg (by simp [oi]), w64 (by omega) (by omega), show ((i : Int) + 1) = ((i + 1 : Nat) : Int) by omega]
    exact l2_mk a O W L hL hLL hU hN d k (i + 1) (by omega) (by omega)

theorem last_L (a : Int) (O : List S76) (W : List S72) (L L' : List S64) : ∀ (k : Nat) (id i : Int), portreeveref04_last.l0 k id i a O W L = portreeveref04_last.l0 k id i a O W L'
  | 0, _, _ => rfl
  | k + 1, id, i => by rw [portreeveref04_last.l0, portreeveref04_last.l0, last_L a O W L L' k]
theorem last_Lf (a : Int) (O : List S76) (W : List S72) (L L' : List S64) (k : Nat) (id i : Int) : portreeveref04_last.f k a O W L id i = portreeveref04_last.f k a O W L' id i := last_L a O W L L' k _ _
theorem of_L (a : Int) (O : List S76) (W : List S72) (L L' : List S64) : ∀ (k : Nat) (id i : Int), portreeveref04_Of.l0 k id i a O W L = portreeveref04_Of.l0 k id i a O W L'
  | 0, _, _ => rfl
  | k + 1, id, i => by rw [portreeveref04_Of.l0, portreeveref04_Of.l0, of_L a O W L L' k]
theorem of_Lf (a : Int) (O : List S76) (W : List S72) (L L' : List S64) (k : Nat) (id : Int) : portreeveref04_Of.f k a O W L id = portreeveref04_Of.f k a O W L' id := of_L a O W L L' k _ _
theorem line_Lj (a : Int) (O : List S76) (W : List S72) (L L' : List S64) : ∀ (k : Nat) (t : Int) (b : Bool) (x0 x1 x2 x3 x4 : Int), portreeveref04_line.j0 k t b a O W L x0 x1 x2 x3 x4 = portreeveref04_line.j0 k t b a O W L' x0 x1 x2 x3 x4
  | 0, _, _, _, _, _, _, _ => rfl
  | k + 1, _, _, _, _, _, _, _ => rfl
theorem line_Lf (a : Int) (O : List S76) (W : List S72) (L L' : List S64) (k : Nat) (i : Int) : portreeveref04_line.f k a O W L i = portreeveref04_line.f k a O W L' i := by
  unfold portreeveref04_line.f
  simp only [last_Lf a O W L L', line_Lj a O W L L']
theorem open_L (a : Int) (O : List S76) (W : List S72) (L L' : List S64) : ∀ k, (∀ i, portreeveref04_open.l0 k i a O W L = portreeveref04_open.l0 k i a O W L') ∧ (∀ i b y0 y1 y2 y3 y4 y5, portreeveref04_open.j1 k i b a O W L y0 y1 y2 y3 y4 y5 = portreeveref04_open.j1 k i b a O W L' y0 y1 y2 y3 y4 y5) ∧ (∀ i j y0 y1 y2 y3 y4 y5, portreeveref04_open.l1 k i j a O W L y0 y1 y2 y3 y4 y5 = portreeveref04_open.l1 k i j a O W L' y0 y1 y2 y3 y4 y5) ∧ (∀ i j b y0 y1 y2 y3 y4 y5, portreeveref04_open.j3 k i j b a O W L y0 y1 y2 y3 y4 y5 = portreeveref04_open.j3 k i j b a O W L' y0 y1 y2 y3 y4 y5)
  | 0 => ⟨fun _ => rfl, fun _ _ _ _ _ _ _ _ => rfl, fun _ _ _ _ _ _ _ _ => rfl, fun _ _ _ _ _ _ _ _ _ => rfl⟩
  | k + 1 => by
    obtain ⟨h0, h1, h2, h3⟩ := open_L a O W L L' k
    refine ⟨fun _ => ?_, fun _ _ _ _ _ _ _ _ => ?_, fun _ _ _ _ _ _ _ _ => ?_, fun _ _ _ _ _ _ _ _ _ => ?_⟩
    · rw [portreeveref04_open.l0, portreeveref04_open.l0]; simp only [h1]
    · rw [portreeveref04_open.j1, portreeveref04_open.j1]; simp only [h2]
    · rw [portreeveref04_open.l1, portreeveref04_open.l1]; simp only [h0, h3]
    · rw [portreeveref04_open.j3, portreeveref04_open.j3]; simp only [h2]
theorem open_Lf (a : Int) (O : List S76) (W : List S72) (L L' : List S64) (k : Nat) : portreeveref04_open.f k a O W L = portreeveref04_open.f k a O W L' := (open_L a O W L L' k).1 _

/-- A right book tells apart who has failed; with others, told apart, it is right as well. -/
theorem r1 (a : Int) (O : List S76) (W : List S72) (L : List S64) (hO : O.length ≤ 1000) (hW : W.length ≤ 1000) (hL : L.length ≤ 1000) : ∀ (d k i : Nat), i + d = O.length → 2 * d + 3020 ≤ k → portreeveref04_Right.l1 k (i : Int) a O W L = some true → (∃ k2 : Nat, 3010 ≤ k2 ∧ portreeveref04_Right.l2 k2 0 a O W L = some true) ∧ ∀ L' : List S64, (∀ k2 : Nat, 3010 ≤ k2 → portreeveref04_Right.l2 k2 0 a O W L' = some true) → portreeveref04_Right.l1 k (i : Int) a O W L' = some true
  | 0, k, i, hd, hk, h => by
    obtain ⟨k, rfl⟩ : ∃ m, k = m + 1 := ⟨k - 1, by omega⟩
    rw [portreeveref04_Right.l1, if_neg (by omega)] at h
    refine ⟨⟨k, by omega, h⟩, fun L' hL' => ?_⟩
    rw [portreeveref04_Right.l1, if_neg (by omega)]
    exact hL' k (by omega)
  | d + 1, k, i, hd, hk, h => by
    obtain ⟨k, rfl⟩ : ∃ m, k = m + 2 := ⟨k - 2, by omega⟩
    obtain ⟨t, h1, h2, h3⟩ := last_own (k + 1) (rd_T76 O (i : Int)).f0 a O W L hW W.length (Nat.le_refl _) (by omega)
    have hj : ∀ b, portreeveref04_Right.j4 (k + 1) (i : Int) b a O W L = some true → (∃ k2 : Nat, 3010 ≤ k2 ∧ portreeveref04_Right.l2 k2 0 a O W L = some true) ∧ ∀ L' : List S64, (∀ k2 : Nat, 3010 ≤ k2 → portreeveref04_Right.l2 k2 0 a O W L' = some true) → portreeveref04_Right.j4 (k + 1) (i : Int) b a O W L' = some true := by
      intro b hb
      rw [portreeveref04_Right.j4] at hb
      cases b with
      | true => rw [if_pos rfl] at hb; simp at hb
      | false =>
        rw [if_neg (by simp), w64 (by omega) (by omega), show ((i : Int) + 1) = ((i + 1 : Nat) : Int) by omega] at hb
        obtain ⟨g1, g2⟩ := r1 a O W L hO hW hL d k (i + 1) (by omega) (by omega) hb
        refine ⟨g1, fun L' hL' => ?_⟩
        rw [portreeveref04_Right.j4, if_neg (by simp), w64 (by omega) (by omega), show ((i : Int) + 1) = ((i + 1 : Nat) : Int) by omega]
        exact g2 L' hL'
    rw [portreeveref04_Right.l1, if_pos (by omega), if_pos (by omega), h1, Option.bind_some] at h
    have hl' : ∀ L' : List S64, portreeveref04_Right.l1 (k + 2) (i : Int) a O W L' = _ := fun L' => by
      rw [portreeveref04_Right.l1, if_pos (show (i : Int) < (O.length : Int) by omega), if_pos (show 0 ≤ (i : Int) by omega), last_Lf a O W L' L, h1, Option.bind_some]
    by_cases c1 : t < 0
    · rw [if_pos c1] at h
      obtain ⟨g1, g2⟩ := hj _ h
      exact ⟨g1, fun L' hL' => by rw [hl', if_pos c1]; exact g2 L' hL'⟩
    · rw [if_neg c1, if_pos (by omega), if_pos (by omega)] at h
      by_cases c2 : (rd_T72 W t).f2 = (rd_T76 O (i : Int)).f4
      · rw [if_pos c2] at h
        obtain ⟨g1, g2⟩ := hj _ h
        exact ⟨g1, fun L' hL' => by rw [hl', if_neg c1, if_pos (by omega), if_pos (by omega), if_pos c2]; exact g2 L' hL'⟩
      · rw [if_neg c2] at h
        obtain ⟨g1, g2⟩ := hj _ h
        exact ⟨g1, fun L' hL' => by rw [hl', if_neg c1, if_pos (by omega), if_pos (by omega), if_neg c2]; exact g2 L' hL'⟩
theorem r0 (a : Int) (O : List S76) (W : List S72) (L : List S64) (hO : O.length ≤ 1000) (hW : W.length ≤ 1000) (hL : L.length ≤ 1000) : ∀ (d k i : Nat), i + d = W.length → 2 * d + 5030 ≤ k → portreeveref04_Right.l0 k (i : Int) a O W L = some true → (∃ k2 : Nat, 3010 ≤ k2 ∧ portreeveref04_Right.l2 k2 0 a O W L = some true) ∧ ∀ L' : List S64, (∀ k2 : Nat, 3010 ≤ k2 → portreeveref04_Right.l2 k2 0 a O W L' = some true) → portreeveref04_Right.l0 k (i : Int) a O W L' = some true
  | 0, k, i, hd, hk, h => by
    obtain ⟨k, rfl⟩ : ∃ m, k = m + 1 := ⟨k - 1, by omega⟩
    rw [portreeveref04_Right.l0, if_neg (by omega)] at h
    obtain ⟨g1, g2⟩ := r1 a O W L hO hW hL O.length k 0 (by omega) (by omega) h
    refine ⟨g1, fun L' hL' => ?_⟩
    rw [portreeveref04_Right.l0, if_neg (by omega)]
    exact g2 L' hL'
  | d + 1, k, i, hd, hk, h => by
    obtain ⟨k, rfl⟩ : ∃ m, k = m + 2 := ⟨k - 2, by omega⟩
    obtain ⟨lb, hlb⟩ := line_own (k + 1) a O W L hW i (by omega) (by omega)
    obtain ⟨t, h1, h2, h3⟩ := last_own (k + 1) (rd_T72 W (i : Int)).f1 a O W L hW W.length (Nat.le_refl _) (by omega)
    obtain ⟨s, hs⟩ := of_own (k + 1) (rd_T72 W (i : Int)).f1 a O W L hO (by omega)
    have hj : ∀ b, portreeveref04_Right.j2 (k + 1) (i : Int) b a O W L = some true → (∃ k2 : Nat, 3010 ≤ k2 ∧ portreeveref04_Right.l2 k2 0 a O W L = some true) ∧ ∀ L' : List S64, (∀ k2 : Nat, 3010 ≤ k2 → portreeveref04_Right.l2 k2 0 a O W L' = some true) → portreeveref04_Right.j2 (k + 1) (i : Int) b a O W L' = some true := by
      intro b hb
      rw [portreeveref04_Right.j2] at hb
      cases b with
      | true => rw [if_pos rfl] at hb; simp at hb
      | false =>
        rw [if_neg (by simp), w64 (by omega) (by omega), show ((i : Int) + 1) = ((i + 1 : Nat) : Int) by omega] at hb
        obtain ⟨g1, g2⟩ := r0 a O W L hO hW hL d k (i + 1) (by omega) (by omega) hb
        refine ⟨g1, fun L' hL' => ?_⟩
        rw [portreeveref04_Right.j2, if_neg (by simp), w64 (by omega) (by omega), show ((i : Int) + 1) = ((i + 1 : Nat) : Int) by omega]
        exact g2 L' hL'
    rw [portreeveref04_Right.l0, if_pos (by omega), hlb, Option.bind_some] at h
    by_cases c0 : lb = true
    · rw [if_pos c0, if_pos (by omega), h1, Option.bind_some, hs, Option.bind_some] at h
      have hl' : ∀ L' : List S64, portreeveref04_Right.l0 (k + 2) (i : Int) a O W L' = _ := fun L' => by
        rw [portreeveref04_Right.l0, if_pos (show (i : Int) < (W.length : Int) by omega), line_Lf a O W L' L, hlb, Option.bind_some, if_pos c0, if_pos (show 0 ≤ (i : Int) by omega), last_Lf a O W L' L, h1, Option.bind_some, of_Lf a O W L' L, hs, Option.bind_some]
      by_cases c1 : t = (i : Int)
      · rw [if_pos c1] at h
        obtain ⟨g1, g2⟩ := hj _ h
        exact ⟨g1, fun L' hL' => by rw [hl', if_pos c1]; exact g2 L' hL'⟩
      · rw [if_neg c1] at h
        obtain ⟨g1, g2⟩ := hj _ h
        exact ⟨g1, fun L' hL' => by rw [hl', if_neg c1]; exact g2 L' hL'⟩
    · rw [if_neg c0] at h; simp at h
theorem right_L (k : Nat) (a : Int) (O : List S76) (W : List S72) (L : List S64) (hO : O.length ≤ 140737488355328) (hW : W.length ≤ 140737488355328) (hk : 300000 ≤ k) (h : portreeveref04_Right.f k a O W L = some true) : (UQ L ∧ NM L) ∧ ∀ L' : List S64, L'.length ≤ 8 → LL L' → UQ L' → NM L' → portreeveref04_Right.f k a O W L' = some true := by
  obtain ⟨b, hb, hb2⟩ := right_own k a O W L hO hW hk
  rw [h] at hb
  obtain ⟨ha, hl, hL8, hLL⟩ := hb2 (Option.some.inj hb).symm
  obtain ⟨k, rfl⟩ : ∃ m, k = m + 1 := ⟨k - 1, by omega⟩
  have hf : ∀ L' : List S64, L'.length ≤ 8 → portreeveref04_Right.f (k + 1) a O W L' = (portreeveref04_open.f k a O W L').bind fun t175 => (if t175 = true then (portreeveref04_Right.l0 k 0 a O W L') else (some false)) := by
    intro L' h8
    unfold portreeveref04_Right.f
    rw [w64 (by omega) (by omega), if_neg (by omega), if_neg (by omega), if_neg (by omega), decide_eq_false (by omega), portreeveref04_Right.j0, if_neg (by simp)]
  rw [hf L hL8] at h
  obtain ⟨ob, ho⟩ := open_l0 a O W L (by omega) O.length k 0 (by omega) (by omega)
  have ho : portreeveref04_open.f k a O W L = some ob := ho
  rw [ho, Option.bind_some] at h
  by_cases c : ob = true
  · rw [if_pos c] at h
    obtain ⟨⟨k2, g0, g1⟩, g2⟩ := r0 a O W L (by omega) (by omega) (by omega) W.length k 0 (by omega) (by omega) h
    have hu := l2_un a O W L (by omega) L.length k2 0 (by omega) (by omega) g1
    refine ⟨⟨UQ_of L fun i hi => (hu i hi (by omega)).1, fun x hx => ?_⟩, fun L' h8 hLL' hU hN => ?_⟩
    · obtain ⟨i, hi, rfl⟩ := List.getElem_of_mem hx
      exact (hu i hi (by omega)).2
    · rw [hf L' h8, open_Lf a O W L' L, ho, Option.bind_some, if_pos c]
      exact g2 L' fun k2 hk2 => l2_mk a O W L' (by omega) hLL' hU hN L'.length k2 0 (by omega) (by omega)
  · rw [if_neg c] at h; simp at h
theorem may_right (k : Nat) (a : Int) (O : List S76) (W : List S72) (L : List S64) (u : ByteArray) (now : Int) (h : portreevelaw16_may.f k a O W L u now = some true) : portreeveref04_Right.f k a O W L = some true := by
  unfold portreevelaw16_may.f at h
  rcases hr : portreeveref04_Right.f k a O W L with _ | b
  · rw [hr] at h; simp at h
  · rw [hr, Option.bind_some] at h
    cases b with
    | true => rfl
    | false => rw [if_neg (by simp)] at h; simp at h

/-! what a failure, or none any more, leaves -/
theorem ix_notin (u : ByteArray) : ∀ L : List S64, ix u L = none → u.toList ∉ L.map fun x => x.f0.toList
  | [], _ => by simp
  | x :: t, h => by
    unfold ix at h
    split at h
    · cases h
    · next hx =>
      have ht : ix u t = none := by rcases hm : ix u t with _ | m; rfl; rw [hm] at h; cases h
      rw [List.map_cons, List.mem_cons, not_or]
      exact ⟨fun e => hx e.symm, ix_notin u t ht⟩
theorem ap_UQ {L : List S64} (hU : UQ L) (hN : NM L) (kd : Int) (u : ByteArray) (t : Int) (h0 : 1 ≤ u.size) (h1 : u.size ≤ 16) : UQ (ap L kd u t).1 ∧ NM (ap L kd u t).1 := by
  unfold ap
  rcases hx : ix u L with _ | n
  · simp only []
    split
    · exact ⟨hU, hN⟩
    · split
      · exact ⟨hU, hN⟩
      · refine ⟨?_, fun x hx' => ?_⟩
        · show UQ (L ++ [⟨u, 1, t⟩])
          unfold UQ at hU ⊢
          rw [List.map_append, List.nodup_append]
          refine ⟨hU, by simp, fun x hx1 y hy e => ?_⟩
          simp only [List.map_cons, List.map_nil, List.mem_singleton] at hy
          subst hy
          subst e
          exact ix_notin u L hx hx1
        · simp only [List.mem_append, List.mem_singleton] at hx'
          rcases hx' with hx' | rfl
          · exact hN x hx'
          · exact ⟨h0, h1⟩
  · obtain ⟨hn, hm⟩ := ix_lt u L n hx
    simp only []
    split
    · refine ⟨?_, fun x hx' => ?_⟩
      · show UQ (L.take n ++ L.drop (n + 1))
        unfold UQ at hU ⊢
        have hs : (L.take n ++ L.drop (n + 1)).Sublist L := by
          conv => rhs; rw [split_at L n hn]
          exact List.Sublist.append_left (List.sublist_cons_self _ _) _
        exact (hs.map _).nodup hU
      · simp only [List.mem_append] at hx'
        rcases hx' with hx' | hx'
        · exact hN x (List.mem_of_mem_take hx')
        · exact hN x (List.mem_of_mem_drop hx')
    · split
      · exact ⟨hU, hN⟩
      · refine ⟨?_, fun x hx' => ?_⟩
        · show UQ (L.set n ⟨u, _, t⟩)
          unfold UQ at hU ⊢
          have he : ∀ y : S64, y.f0.toList = L[n].f0.toList → (L.set n y).map (fun x => x.f0.toList) = L.map (fun x => x.f0.toList) := fun y hy => by
            rw [List.map_set, hy]
            have hq : (L.map (fun x => x.f0.toList)).set n ((L.map (fun x => x.f0.toList))[n]'(by simpa using hn)) = L.map (fun x => x.f0.toList) := List.set_getElem_self _
            rw [List.getElem_map] at hq
            exact hq
          rw [he _ hm.symm]
          exact hU
        · rcases List.mem_or_eq_of_mem_set hx' with hx' | rfl
          · exact hN x hx'
          · exact ⟨h0, h1⟩
/-- Behind what takes out a user it hasn't failed any more. -/
theorem ap_none {L : List S64} (hU : UQ L) (u : ByteArray) (t : Int) (h : (FL L u).1 ≠ 0) : (ap L 5 u t).2 = 0 ∧ FL (ap L 5 u t).1 u = (0, 0) := by
  unfold ap
  rcases hx : ix u L with _ | n
  · rw [FL_none hx] at h; exact absurd rfl h
  · obtain ⟨hn, hm⟩ := ix_lt u L n hx
    simp only [if_true]
    refine ⟨trivial, ?_⟩
    unfold FL
    have h2 : (L.drop (n + 1)).filter (gate_Failed.hit u) = [] := by
      unfold UQ at hU
      rw [split_at L n hn, List.map_append, List.map_cons] at hU
      have hU2 := (List.nodup_cons.1 (List.nodup_append.1 hU).2.1).1
      rw [List.filter_eq_nil_iff]
      intro x hx1 hx2
      unfold gate_Failed.hit at hx2
      have hx3 : x.f0.toList = u.toList := by simpa using hx2
      exact hU2 (List.mem_map.2 ⟨x, hx1, hx3.trans hm.symm⟩)
    rw [List.filter_append, ix_take u L n hx, h2]
    rfl
theorem ap_bad0 {L : List S64} (u : ByteArray) (t : Int) (ht : (FL L u).2 ≤ t) (h : (ap L 4 u t).2 ≠ 0) : (FL L u).1 = 0 := by
  unfold ap at h
  rcases hx : ix u L with _ | n
  · rw [FL_none hx]
  · rw [hx] at h
    rw [FL_some hx] at ht
    simp only [show ¬ (4 : Int) = 5 by omega, if_false] at h
    rw [if_neg (show ¬ (rd_T64 L (n : Int)).f2 > t by simp only at ht; omega)] at h
    exact absurd rfl h

end Go.Proofs.Ytocjadhpaecpaaa.Pure

/- A book whose locks are another's is the same but for these. -/
namespace Go.Proofs.Ytocjadhpaecpaaa.Pure
set_option linter.unusedVariables false
open Go Go.RowKit Go.Proofs.Ytocjadhpaecpaaa.Q Go.Proofs.YtocjadhpaecpaaaK Go.Proofs.YtocjadhpaecpaaaW.PrintWords Go.Proofs.YtocjadhpaecpaaaW.PrintLast Go.Proofs.YtocjadhpaecpaaaW.PrintMore

theorem same_l2 (a : Int) (O : List S76) (W : List S72) (L : List S64) (hL : L.length ≤ 1000) : ∀ (d k i : Nat), i + d = L.length → d < k → portreeveref04_Same.l2 k (i : Int) a O W L a O W L = some true
  | 0, k, i, hd, hk => by
    obtain ⟨k, rfl⟩ : ∃ m, k = m + 1 := ⟨k - 1, by omega⟩
    rw [portreeveref04_Same.l2, if_neg (by omega)]
  | d + 1, k, i, hd, hk => by
    obtain ⟨k, rfl⟩ : ∃ m, k = m + 1 := ⟨k - 1, by omega⟩
    rw [portreeveref04_Same.l2, if_pos (by omega), if_pos (by omega), if_pos (by omega), if_neg (by simp), w64 (by omega) (by omega), show ((i : Int) + 1) = ((i + 1 : Nat) : Int) by omega]
    exact same_l2 a O W L hL d k (i + 1) (by omega) (by omega)
theorem same_l1 (a : Int) (O : List S76) (W : List S72) (L : List S64) (hW : W.length ≤ 1000) (hL : L.length ≤ 1000) : ∀ (d k i : Nat), i + d = W.length → d + 1010 < k → portreeveref04_Same.l1 k (i : Int) a O W L a O W L = some true
  | 0, k, i, hd, hk => by
    obtain ⟨k, rfl⟩ : ∃ m, k = m + 1 := ⟨k - 1, by omega⟩
    rw [portreeveref04_Same.l1, if_neg (by omega)]
    exact same_l2 a O W L hL L.length k 0 (by omega) (by omega)
  | d + 1, k, i, hd, hk => by
    obtain ⟨k, rfl⟩ : ∃ m, k = m + 1 := ⟨k - 1, by omega⟩
    rw [portreeveref04_Same.l1, if_pos (by omega), if_pos (by omega), if_pos (by omega), if_neg (by simp), w64 (by omega) (by omega), show ((i : Int) + 1) = ((i + 1 : Nat) : Int) by omega]
    exact same_l1 a O W L hW hL d k (i + 1) (by omega) (by omega)
theorem same_l0 (a : Int) (O : List S76) (W : List S72) (L : List S64) (hO : O.length ≤ 1000) (hW : W.length ≤ 1000) (hL : L.length ≤ 1000) : ∀ (d k i : Nat), i + d = O.length → d + 2030 < k → portreeveref04_Same.l0 k (i : Int) a O W L a O W L = some true
  | 0, k, i, hd, hk => by
    obtain ⟨k, rfl⟩ : ∃ m, k = m + 1 := ⟨k - 1, by omega⟩
    rw [portreeveref04_Same.l0, if_neg (by omega)]
    exact same_l1 a O W L hW hL W.length k 0 (by omega) (by omega)
  | d + 1, k, i, hd, hk => by
    obtain ⟨k, rfl⟩ : ∃ m, k = m + 1 := ⟨k - 1, by omega⟩
    rw [portreeveref04_Same.l0, if_pos (by omega), if_pos (by omega), if_pos (by omega), if_neg (by simp), w64 (by omega) (by omega), show ((i : Int) + 1) = ((i + 1 : Nat) : Int) by omega]
    exact same_l0 a O W L hO hW hL d k (i + 1) (by omega) (by omega)
theorem same_own (k : Nat) (a : Int) (O : List S76) (W : List S72) (L : List S64) (hO : O.length ≤ 1000) (hW : W.length ≤ 1000) (hL : L.length ≤ 1000) (hk : 4000 ≤ k) : portreeveref04_Same.f k a O W L a O W L = some true := by
  obtain ⟨k, rfl⟩ : ∃ m, k = m + 1 := ⟨k - 1, by omega⟩
  unfold portreeveref04_Same.f
  rw [if_pos rfl, if_pos rfl, if_pos rfl, portreeveref04_Same.j0, if_neg (by simp)]
  exact same_l0 a O W L hO hW hL O.length k 0 (by omega) (by omega)
end Go.Proofs.Ytocjadhpaecpaaa.Pure

