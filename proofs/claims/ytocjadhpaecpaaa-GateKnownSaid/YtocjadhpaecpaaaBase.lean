/- What the gate's functions compute, and that the document's answer on books always comes, over plain rows. -/
import Derived.Test.YtocjadhpaecpaaaQx0
import Derived.Test.YtocjadhpaecpaaaQx6
import Derived.Test.YtocjadhpaecpaaaQx7
import Derived.Test.YtocjadhpaecpaaaQx11
import Derived.Test.YtocjadhpaecpaaaQx12
import Derived.Test.YtocjadhpaecpaaaQx13
import Derived.Test.YtocjadhpaecpaaaQx14
import Derived.Test.YtocjadhpaecpaaaQx15
import Derived.Test.YtocjadhpaecpaaaQx16
import Derived.Test.YtocjadhpaecpaaaQx17
import Derived.Test.YtocjadhpaecpaaaQx18
import Derived.Test.YtocjadhpaecpaaaPureKit
namespace Go.Proofs.Ytocjadhpaecpaaa.Pure
set_option linter.unusedVariables false
open Go Go.RowKit Go.Proofs.Ytocjadhpaecpaaa.Q Go.Proofs.YtocjadhpaecpaaaK Go.Proofs.YtocjadhpaecpaaaW.PrintWords Go.Proofs.YtocjadhpaecpaaaW.PrintLast Go.Proofs.YtocjadhpaecpaaaW.PrintMore

theorem name_own (u : ByteArray) : portreeveref04_name.f u = some (decide (1 ≤ u.size) && decide (u.size ≤ 16)) := by
  unfold portreeveref04_name.f
  by_cases h : (u.size : Int) ≥ 1
  · rw [if_pos h, decide_eq_true (show 1 ≤ u.size by omega), Bool.true_and]
    congr 1
    by_cases h1 : u.size ≤ 16
    · rw [decide_eq_true h1, decide_eq_true (by omega)]
    · rw [decide_eq_false h1, decide_eq_false (by omega)]
  · rw [if_neg h, decide_eq_false (show ¬ 1 ≤ u.size by omega), Bool.false_and]
theorem pool_own (a : Int) : ∃ b, portreeveref04_pool.f a = some b := by
  unfold portreeveref04_pool.f
  split <;> exact ⟨_, rfl⟩

theorem last_l0 (id a : Int) (O : List S76) (W : List S72) (L : List S64) (hW : W.length ≤ 1000) : ∀ (n k : Nat), n ≤ W.length → n < k → ∃ t, portreeveref04_last.l0 k id ((n : Int) - 1) a O W L = some t ∧ -1 ≤ t ∧ t < n
  | 0, k, hn, hk => by
    obtain ⟨k, rfl⟩ : ∃ m, k = m + 1 := ⟨k - 1, by omega⟩
    rw [portreeveref04_last.l0, if_neg (by omega)]
    exact ⟨_, rfl, by omega, by omega⟩
  | n + 1, k, hn, hk => by
    obtain ⟨k, rfl⟩ : ∃ m, k = m + 1 := ⟨k - 1, by omega⟩
    rw [show (((n + 1 : Nat) : Int) - 1) = (n : Int) by omega, portreeveref04_last.l0, if_pos (by omega), if_pos (by omega), if_pos (by omega)]
    split
    · exact ⟨_, rfl, by omega, by omega⟩
    · rw [w64 (by omega) (by omega)]
      obtain ⟨t, h1, h2, h3⟩ := last_l0 id a O W L hW n k (by omega) (by omega)
      exact ⟨t, h1, h2, by omega⟩
theorem last_own (k : Nat) (id a : Int) (O : List S76) (W : List S72) (L : List S64) (hW : W.length ≤ 1000) (n : Nat) (hn : n ≤ W.length) (hk : 1002 ≤ k) : ∃ t, portreeveref04_last.f k a O W L id (n : Int) = some t ∧ -1 ≤ t ∧ t < n := by
  unfold portreeveref04_last.f
  rw [w64 (by omega) (by omega)]
  exact last_l0 id a O W L hW n k hn (by omega)
theorem of_l0 (id a : Int) (O : List S76) (W : List S72) (L : List S64) (hO : O.length ≤ 1000) : ∀ (d k i : Nat), i + d = O.length → d < k → ∃ t, portreeveref04_Of.l0 k id (i : Int) a O W L = some t
  | 0, k, i, hd, hk => by
    obtain ⟨k, rfl⟩ : ∃ m, k = m + 1 := ⟨k - 1, by omega⟩
    rw [portreeveref04_Of.l0, if_neg (by omega)]
    exact ⟨_, rfl⟩
  | d + 1, k, i, hd, hk => by
    obtain ⟨k, rfl⟩ : ∃ m, k = m + 1 := ⟨k - 1, by omega⟩
    rw [portreeveref04_Of.l0, if_pos (by omega), if_pos (by omega)]
    split
    · exact ⟨_, rfl⟩
    · rw [w64 (by omega) (by omega), show ((i : Int) + 1) = ((i + 1 : Nat) : Int) by omega]
      exact of_l0 id a O W L hO d k (i + 1) (by omega) (by omega)
theorem of_own (k : Nat) (id a : Int) (O : List S76) (W : List S72) (L : List S64) (hO : O.length ≤ 1000) (hk : 1002 ≤ k) : ∃ t, portreeveref04_Of.f k a O W L id = some t := of_l0 id a O W L hO O.length k 0 (by omega) (by omega)

theorem line_own (k : Nat) (a : Int) (O : List S76) (W : List S72) (L : List S64) (hW : W.length ≤ 1000) (i : Nat) (hi : i < W.length) (hk : 1010 ≤ k) : ∃ b, portreeveref04_line.f k a O W L (i : Int) = some b := by
  obtain ⟨k, rfl⟩ : ∃ m, k = m + 2 := ⟨k - 2, by omega⟩
  obtain ⟨t, h1, h2, h3⟩ := last_own (k + 2) (rd_T72 W (i : Int)).f1 a O W L hW i (by omega) (by omega)
  have hj1 : ∀ b x0 x1 x2 x3 x4, ∃ c, portreeveref04_line.j1 (k + 1) b x0 x1 x2 x3 x4 = some c := by
    intro b x0 x1 x2 x3 x4
    rw [portreeveref04_line.j1]
    repeat' first | exact ⟨_, rfl⟩ | split
  have hj0 : ∀ b x0 x1 x2 x3 x4, ∃ c, portreeveref04_line.j0 (k + 2) t b a O W L x0 x1 x2 x3 x4 = some c := by
    intro b x0 x1 x2 x3 x4
    rw [portreeveref04_line.j0]
    repeat' first | exact ⟨_, rfl⟩ | exact hj1 _ _ _ _ _ _ | (exfalso; omega) | split
  unfold portreeveref04_line.f
  rw [if_pos (by omega), if_pos (by omega), h1, Option.bind_some]
  split
  · exact hj0 _ _ _ _ _ _
  · exact hj0 _ _ _ _ _ _

theorem open_l1 (a : Int) (O : List S76) (W : List S72) (L : List S64) (hO : O.length ≤ 1000) (i : Nat) (hi : i < O.length) (K : Nat) (hK : ∀ k', K ≤ k' → ∃ b, portreeveref04_open.l0 k' ((i + 1 : Nat) : Int) a O W L = some b) (y0 y1 y2 : Int) (y3 : ByteArray) (y4 y5 : Int) :
    ∀ (m k j : Nat), j + m = i → 2 * m + 1 + K ≤ k → ∃ b, portreeveref04_open.l1 k (i : Int) (j : Int) a O W L y0 y1 y2 y3 y4 y5 = some b
  | 0, k, j, hj, hk => by
    obtain ⟨k, rfl⟩ : ∃ m, k = m + 1 := ⟨k - 1, by omega⟩
    rw [portreeveref04_open.l1, if_neg (by omega), w64 (by omega) (by omega), show ((i : Int) + 1) = ((i + 1 : Nat) : Int) by omega]
    exact hK k (by omega)
  | m + 1, k, j, hj, hk => by
    obtain ⟨k, rfl⟩ : ∃ m, k = m + 2 := ⟨k - 2, by omega⟩
    have h3 : ∀ b, ∃ c, portreeveref04_open.j3 (k + 1) (i : Int) (j : Int) b a O W L y0 y1 y2 y3 y4 y5 = some c := by
      intro b
      rw [portreeveref04_open.j3]
      split
      · exact ⟨_, rfl⟩
      · rw [w64 (by omega) (by omega), show ((j : Int) + 1) = ((j + 1 : Nat) : Int) by omega]
        exact open_l1 a O W L hO i hi K hK y0 y1 y2 y3 y4 y5 m k (j + 1) (by omega) (by omega)
    rw [portreeveref04_open.l1, if_pos (by omega), if_pos (by omega), if_pos (by omega)]
    split
    · exact h3 _
    · exact h3 _
theorem open_l0 (a : Int) (O : List S76) (W : List S72) (L : List S64) (hO : O.length ≤ 1000) : ∀ (d k i : Nat), i + d = O.length → 2100 * d + 1 ≤ k → ∃ b, portreeveref04_open.l0 k (i : Int) a O W L = some b
  | 0, k, i, hd, hk => by
    obtain ⟨k, rfl⟩ : ∃ m, k = m + 1 := ⟨k - 1, by omega⟩
    rw [portreeveref04_open.l0, if_neg (by omega)]
    exact ⟨_, rfl⟩
  | d + 1, k, i, hd, hk => by
    obtain ⟨k, rfl⟩ : ∃ m, k = m + 2 := ⟨k - 2, by omega⟩
    have hj : ∀ b y0 y1 y2 y3 y4 y5, ∃ c, portreeveref04_open.j1 (k + 1) (i : Int) b a O W L y0 y1 y2 y3 y4 y5 = some c := by
      intro b y0 y1 y2 y3 y4 y5
      rw [portreeveref04_open.j1]
      split
      · exact ⟨_, rfl⟩
      · exact open_l1 a O W L hO i (by omega) (2100 * d + 1) (fun k' hk' => open_l0 a O W L hO d k' (i + 1) (by omega) hk') y0 y1 y2 y3 y4 y5 i k 0 (by omega) (by omega)
    obtain ⟨pb, hp⟩ := pool_own (rd_T76 O (i : Int)).f2
    have hw : wrap64 ((i : Int) - 1) = (i : Int) - 1 := w64 (by omega) (by omega)
    rw [portreeveref04_open.l0, if_pos (by omega), if_pos (by omega), name_own, Option.bind_some, hp, Option.bind_some, hw]
    repeat' first | exact hj _ _ _ _ _ _ _ | (exfalso; omega) | split

/-- What a right book says of those who have failed. -/
def LL (L : List S64) : Prop := ∀ x ∈ L, (1 ≤ x.f1 ∧ x.f1 ≤ 255) ∧ 0 ≤ x.f2 ∧ x.f2 ≤ 1000000000
theorem failed4_l0 (u : ByteArray) (a : Int) (O : List S76) (W : List S72) (L : List S64) (hL : L.length ≤ 1000) : ∀ (d k i : Nat), i + d = L.length → d < k → ∃ t, portreeveref04_Failed.l0 k u (i : Int) a O W L = some t
  | 0, k, i, hd, hk => by
    obtain ⟨k, rfl⟩ : ∃ m, k = m + 1 := ⟨k - 1, by omega⟩
    rw [portreeveref04_Failed.l0, if_neg (by omega)]
    exact ⟨_, rfl⟩
  | d + 1, k, i, hd, hk => by
    obtain ⟨k, rfl⟩ : ∃ m, k = m + 1 := ⟨k - 1, by omega⟩
    rw [portreeveref04_Failed.l0, if_pos (by omega), if_pos (by omega)]
    split
    · exact ⟨_, rfl⟩
    · rw [w64 (by omega) (by omega), show ((i : Int) + 1) = ((i + 1 : Nat) : Int) by omega]
      exact failed4_l0 u a O W L hL d k (i + 1) (by omega) (by omega)
theorem F_lt (l : List S64) (i : Nat) (h : i < l.length) : rd_T64 l (i : Int) = l[i] := by
  unfold rd_T64
  rw [Int.toNat_natCast, List.getD_eq_getElem?_getD, List.getElem?_eq_getElem h]
  rfl
theorem right_l2 (a : Int) (O : List S76) (W : List S72) (L : List S64) (hL : L.length ≤ 1000) : ∀ (d k i : Nat), i + d = L.length → 2 * d + 1010 ≤ k → ∃ b, portreeveref04_Right.l2 k (i : Int) a O W L = some b ∧ (b = true → LL (L.drop i))
  | 0, k, i, hd, hk => by
    obtain ⟨k, rfl⟩ : ∃ m, k = m + 1 := ⟨k - 1, by omega⟩
    rw [portreeveref04_Right.l2, if_neg (by omega)]
    exact ⟨_, rfl, fun _ => by rw [List.drop_eq_nil_of_le (by omega)]; intro x hx; simp at hx⟩
  | d + 1, k, i, hd, hk => by
    obtain ⟨k, rfl⟩ : ∃ m, k = m + 2 := ⟨k - 2, by omega⟩
    have hi : i < L.length := by omega
    have hjt : ∃ b, portreeveref04_Right.j6 (k + 1) (i : Int) true a O W L = some b ∧ (b = true → LL (L.drop i)) := by
      rw [portreeveref04_Right.j6, if_pos rfl]; exact ⟨_, rfl, by simp⟩
    rw [portreeveref04_Right.l2, if_pos (by omega), if_pos (by omega), name_own, Option.bind_some, F_lt L i hi]
    split
    · by_cases h1 : L[i].f1 < 1
      · rw [if_pos h1]; exact hjt
      by_cases h2 : L[i].f1 > 255
      · rw [if_neg h1, if_pos h2]; exact hjt
      by_cases h3 : L[i].f2 < 0
      · rw [if_neg h1, if_neg h2, if_pos h3]; exact hjt
      by_cases h4 : L[i].f2 > 1000000000
      · rw [if_neg h1, if_neg h2, if_neg h3, if_pos h4]; exact hjt
      rw [if_neg h1, if_neg h2, if_neg h3, if_neg h4]
      obtain ⟨t, ht⟩ := failed4_l0 L[i].f0 a O W L hL L.length (k + 1) 0 (by omega) (by omega)
      rw [show portreeveref04_Failed.f (k + 1) a O W L L[i].f0 = some t from ht, Option.bind_some, portreeveref04_Right.j6]
      split
      · exact ⟨_, rfl, by simp⟩
      · rw [w64 (by omega) (by omega), show ((i : Int) + 1) = ((i + 1 : Nat) : Int) by omega]
        obtain ⟨b, hb1, hb2⟩ := right_l2 a O W L hL d k (i + 1) (by omega) (by omega)
        refine ⟨b, hb1, fun hb => ?_⟩
        rw [List.drop_eq_getElem_cons hi]
        intro x hx
        rcases List.mem_cons.1 hx with rfl | hx
        · exact ⟨⟨by omega, by omega⟩, by omega, by omega⟩
        · exact hb2 hb x hx
    · exact hjt
theorem right_l1 (a : Int) (O : List S76) (W : List S72) (L : List S64) (hO : O.length ≤ 1000) (hW : W.length ≤ 1000) (hL : L.length ≤ 1000) : ∀ (d k i : Nat), i + d = O.length → 2 * d + 3020 ≤ k → ∃ b, portreeveref04_Right.l1 k (i : Int) a O W L = some b ∧ (b = true → LL L)
  | 0, k, i, hd, hk => by
    obtain ⟨k, rfl⟩ : ∃ m, k = m + 1 := ⟨k - 1, by omega⟩
    rw [portreeveref04_Right.l1, if_neg (by omega)]
    exact right_l2 a O W L hL L.length k 0 (by omega) (by omega)
  | d + 1, k, i, hd, hk => by
    obtain ⟨k, rfl⟩ : ∃ m, k = m + 2 := ⟨k - 2, by omega⟩
    obtain ⟨t, h1, h2, h3⟩ := last_own (k + 1) (rd_T76 O (i : Int)).f0 a O W L hW W.length (Nat.le_refl _) (by omega)
    have hj : ∀ b, ∃ c, portreeveref04_Right.j4 (k + 1) (i : Int) b a O W L = some c ∧ (c = true → LL L) := by
      intro b
      rw [portreeveref04_Right.j4]
      split
      · exact ⟨_, rfl, by simp⟩
      · rw [w64 (by omega) (by omega), show ((i : Int) + 1) = ((i + 1 : Nat) : Int) by omega]
        exact right_l1 a O W L hO hW hL d k (i + 1) (by omega) (by omega)
    rw [portreeveref04_Right.l1, if_pos (by omega), if_pos (by omega), h1, Option.bind_some]
    repeat' first | exact hj _ | (exfalso; omega) | split
theorem right_l0 (a : Int) (O : List S76) (W : List S72) (L : List S64) (hO : O.length ≤ 1000) (hW : W.length ≤ 1000) (hL : L.length ≤ 1000) : ∀ (d k i : Nat), i + d = W.length → 2 * d + 5030 ≤ k → ∃ b, portreeveref04_Right.l0 k (i : Int) a O W L = some b ∧ (b = true → LL L)
  | 0, k, i, hd, hk => by
    obtain ⟨k, rfl⟩ : ∃ m, k = m + 1 := ⟨k - 1, by omega⟩
    rw [portreeveref04_Right.l0, if_neg (by omega)]
    exact right_l1 a O W L hO hW hL O.length k 0 (by omega) (by omega)
  | d + 1, k, i, hd, hk => by
    obtain ⟨k, rfl⟩ : ∃ m, k = m + 2 := ⟨k - 2, by omega⟩
    obtain ⟨lb, hlb⟩ := line_own (k + 1) a O W L hW i (by omega) (by omega)
    obtain ⟨t, h1, h2, h3⟩ := last_own (k + 1) (rd_T72 W (i : Int)).f1 a O W L hW W.length (Nat.le_refl _) (by omega)
    obtain ⟨s, hs⟩ := of_own (k + 1) (rd_T72 W (i : Int)).f1 a O W L hO (by omega)
    have hj : ∀ b, ∃ c, portreeveref04_Right.j2 (k + 1) (i : Int) b a O W L = some c ∧ (c = true → LL L) := by
      intro b
      rw [portreeveref04_Right.j2]
      split
      · exact ⟨_, rfl, by simp⟩
      · rw [w64 (by omega) (by omega), show ((i : Int) + 1) = ((i + 1 : Nat) : Int) by omega]
        exact right_l0 a O W L hO hW hL d k (i + 1) (by omega) (by omega)
    rw [portreeveref04_Right.l0, if_pos (by omega), hlb, Option.bind_some]
    split
    · rw [if_pos (by omega), h1, Option.bind_some, hs, Option.bind_some]
      split
      · exact hj _
      · exact hj _
    · exact ⟨_, rfl, by simp⟩
theorem right_own (k : Nat) (a : Int) (O : List S76) (W : List S72) (L : List S64) (hO : O.length ≤ 140737488355328) (hW : W.length ≤ 140737488355328) (hk : 300000 ≤ k) : ∃ b, portreeveref04_Right.f k a O W L = some b ∧ (b = true → (0 ≤ a ∧ a ≤ 1000000000) ∧ O.length + W.length ≤ 60 ∧ L.length ≤ 8 ∧ LL L) := by
  obtain ⟨k, rfl⟩ : ∃ m, k = m + 1 := ⟨k - 1, by omega⟩
  have hjt : ∃ b, portreeveref04_Right.j0 (k + 1) true a O W L = some b ∧ (b = true → (0 ≤ a ∧ a ≤ 1000000000) ∧ O.length + W.length ≤ 60 ∧ L.length ≤ 8 ∧ LL L) := by
    rw [portreeveref04_Right.j0, if_pos rfl]; exact ⟨_, rfl, by simp⟩
  unfold portreeveref04_Right.f
  rw [w64 (by omega) (by omega)]
  by_cases h1 : a < 0
  · rw [if_pos h1]; exact hjt
  by_cases h2 : a > 1000000000
  · rw [if_neg h1, if_pos h2]; exact hjt
  by_cases h3 : (W.length : Int) + (O.length : Int) > 60
  · rw [if_neg h1, if_neg h2, if_pos h3]; exact hjt
  by_cases h4 : (L.length : Int) > 8
  · rw [if_neg h1, if_neg h2, if_neg h3, decide_eq_true h4]; exact hjt
  rw [if_neg h1, if_neg h2, if_neg h3, decide_eq_false h4, portreeveref04_Right.j0, if_neg (by simp)]
  obtain ⟨ob, ho⟩ := open_l0 a O W L (by omega) O.length k 0 (by omega) (by omega)
  rw [show portreeveref04_open.f k a O W L = some ob from ho, Option.bind_some]
  split
  · obtain ⟨b, hb1, hb2⟩ := right_l0 a O W L (by omega) (by omega) (by omega) W.length k 0 (by omega) (by omega)
    exact ⟨b, hb1, fun hb => ⟨⟨by omega, by omega⟩, by omega, by omega, hb2 hb⟩⟩
  · exact ⟨_, rfl, by simp⟩

theorem may_own (k : Nat) (a : Int) (O : List S76) (W : List S72) (L : List S64) (u : ByteArray) (now : Int) (hO : O.length ≤ 140737488355328) (hW : W.length ≤ 140737488355328) (hk : 300000 ≤ k) : ∃ b, portreevelaw16_may.f k a O W L u now = some b ∧ (b = true → (0 ≤ now ∧ now ≤ 1000000000) ∧ (1 ≤ u.size ∧ u.size ≤ 16) ∧ L.length ≤ 8 ∧ LL L) := by
  obtain ⟨b, h1, h2⟩ := right_own k a O W L hO hW hk
  unfold portreevelaw16_may.f
  rw [h1, Option.bind_some]
  by_cases hb : b = true
  · have h3 := h2 hb
    rw [if_pos hb]
    by_cases g1 : (u.size : Int) ≥ 1
    · by_cases g2 : (u.size : Int) ≤ 16
      · by_cases g3 : now ≥ 0
        · rw [if_pos g1, if_pos g2, if_pos g3]
          exact ⟨_, rfl, fun h => ⟨⟨g3, of_decide_eq_true h⟩, ⟨by omega, by omega⟩, h3.2.2⟩⟩
        · rw [if_pos g1, if_pos g2, if_neg g3]; exact ⟨_, rfl, by simp⟩
      · rw [if_pos g1, if_neg g2]; exact ⟨_, rfl, by simp⟩
    · rw [if_neg g1]; exact ⟨_, rfl, by simp⟩
  · rw [if_neg hb]; exact ⟨_, rfl, by simp⟩

/-! the gate -/
def FL (L : List S64) (u : ByteArray) : Int × Int := gate_Failed.resL (L.filter (gate_Failed.hit u))
theorem failed_own (a : Int) (O : List S76) (W : List S72) (L : List S64) (u : ByteArray) (hL : L.length ≤ 1000000) : gate_Failed.f a O W L u = some (FL L u) := by
  unfold gate_Failed.f
  rw [if_pos hL]
  rfl
def UL (L : List S64) (u : ByteArray) : Int := if (FL L u).1 < 3 then 0 else wrap64 ((FL L u).2 + 20)
theorem until_own (a : Int) (O : List S76) (W : List S72) (L : List S64) (u : ByteArray) (hL : L.length ≤ 1000000) : gate_Until.f a O W L u = some (UL L u) := by
  unfold gate_Until.f UL
  rw [failed_own a O W L u hL, Option.bind_some]
  split <;> rfl
theorem locked_own (a : Int) (O : List S76) (W : List S72) (L : List S64) (u : ByteArray) (now : Int) (hL : L.length ≤ 1000000) : gate_Locked.f a O W L u now = some (decide (now < UL L u)) := by
  unfold gate_Locked.f
  rw [until_own a O W L u hL, Option.bind_some]
theorem shown_true (k : Nat) (h : 20 ≤ k) : portreevelaw16_shown.f k = some true := by
  have h0 : portreevelaw16_shown.f 20 = some true := by decide +kernel
  have hm : ∀ d, portreevelaw16_shown.f (20 + d) = some true := by
    intro d
    induction d with
    | zero => exact h0
    | succ d ih => exact portreevelaw16_shown.mono (20 + d) true ih
  have := hm (k - 20)
  rwa [show 20 + (k - 20) = k by omega] at this
end Go.Proofs.Ytocjadhpaecpaaa.Pure
