/- A row of frames that is sent and taken, over plain rows. -/
import Derived.Test.YtangahcilefelaaQx21
import Derived.Test.YtangahcilefelaaPureKit
import Derived.Test.YtangahcilefelaaCrc
import Derived.Test.YtangahcilefelaaBase5
namespace Go.Proofs.Ytangahcilefelaa.Pure
set_option linter.unusedVariables false
open Go Go.RowKit Go.Proofs.Ytangahcilefelaa.Q Go.Proofs.YtangahcilefelaaK Go.Proofs.YtangahcilefelaaCrc Go.Proofs.YtangahcilefelaaW.PrintWords Go.Proofs.YtangahcilefelaaW.PrintLast Go.Proofs.YtangahcilefelaaW.PrintMore

/-- A frame's fields are in range. -/
def W25 (x : S25) : Prop := (0 ≤ x.f0 ∧ x.f0 ≤ 65535) ∧ B x.f1
theorem frames_l0 (a : List S25) (hl : a.length ≤ 1000000) (ha : ∀ x ∈ a, x.f1.length ≤ 1500) : ∀ (d k i : Nat), i + d = a.length → d + 1502 ≤ k → portreeveref08_Frames.l0 k a a i = some true
  | 0, k, i, hd, hk => by
    obtain ⟨k, rfl⟩ : ∃ m, k = m + 1 := ⟨k - 1, by omega⟩
    rw [portreeveref08_Frames.l0, if_neg (by omega)]
  | d + 1, k, i, hd, hk => by
    obtain ⟨k, rfl⟩ : ∃ m, k = m + 1 := ⟨k - 1, by omega⟩
    have hi : i < a.length := by omega
    have := ha a[i] (List.getElem_mem hi)
    rw [portreeveref08_Frames.l0, if_pos (by omega), if_pos (by omega), if_pos (by omega), rd25 a i hi, same_own _ _ _ _ _ (by omega) (by omega), Option.bind_some, if_pos (by simp), w64 (by omega) (by omega), show ((i : Int) + 1) = ((i + 1 : Nat) : Int) by omega]
    exact frames_l0 a hl ha d k (i + 1) (by omega) (by omega)
theorem frames_own (k : Nat) (a : List S25) (hl : a.length ≤ 1000000) (ha : ∀ x ∈ a, x.f1.length ≤ 1500) (hk : a.length + 1502 ≤ k) : portreeveref08_Frames.f k a a = some true := by
  unfold portreeveref08_Frames.f
  rw [if_pos rfl]
  exact frames_l0 a hl ha a.length k 0 (by omega) hk
/-- The rows of bytes that stand for frames. -/
def Rows (l : List S25) (r : List (List Int)) : Prop := Fs r = l ∧ (∀ x ∈ r, B x ∧ 1 ≤ x.length ∧ x.length ≤ 700) ∧ r.length = l.length
theorem row_loop (l : List S25) (m s : Int) (hm : 0 ≤ m ∧ m ≤ 4294967295) (hw : ∀ x ∈ l, W25 x) (hn : l.length ≤ 12) : ∀ (d k i : Nat) (out : List Int) (r : List (List Int)), i + d = l.length → 20000 + 2 * d ≤ k → out = Se m r → Fs r = l.take i → (∀ x ∈ r, B x ∧ 1 ≤ x.length ∧ x.length ≤ 700) → r.length = i →
    portreevelaw08_FrameRow.l0 k l m s true out i = some true
  | 0, k, i, out, r, hd, hk, ho, hf, hr, hrl => by
    obtain ⟨k, rfl⟩ : ∃ m, k = m + 1 := ⟨k - 1, by omega⟩
    have hse := (SeOn_length m r (fun x hx => (hr x hx).2)).1
    have hsb := (Se_B m r (fun x hx => (hr x hx).1)).1
    have hi : i = l.length := by omega
    rw [portreevelaw08_FrameRow.l0, if_neg (by omega), if_pos rfl, ho, taken_own k _ hsb (by omega) (by omega), Option.bind_some, Sg_Se m r hr, hf, hi, List.take_length]
    have hlen : ∀ x ∈ l, x.f1.length ≤ 1500 := by
      have := Fs_short r (fun x hx => ⟨(hr x hx).1, by have := (hr x hx).2.2; omega⟩)
      rw [hf, hi, List.take_length] at this
      exact this
    rw [frames_own k l (by omega) hlen (by omega), Option.bind_some]
  | d + 1, k, i, out, r, hd, hk, ho, hf, hr, hrl => by
    obtain ⟨k, rfl⟩ : ∃ m, k = m + 2 := ⟨k - 2, by omega⟩
    have hi : i < l.length := by omega
    have hx := hw l[i] (List.getElem_mem hi)
    have hse := (SeOn_length m r (fun x hx => (hr x hx).2)).1
    rw [portreevelaw08_FrameRow.l0, if_pos (by omega), if_pos (by omega), rd25 l i hi]
    generalize (Int.tmod (shr .u16 s (i : Int)) 2 == 1) = a
    rw [fsend_own _ l[i].f0 l[i].f1 m a hx.1 hx.2 hm (by omega), Option.bind_some]
    by_cases h1 : ok l[i].f0 = true ∧ l[i].f1.length ≤ 1500
    · rw [if_pos h1, if_pos rfl]
      by_cases h2 : l[i].f1.length ≤ 600
      · have hpl := plain_length l[i].f0 l[i].f1 a
        have hpp := put_length (plain l[i].f0 l[i].f1 a)
        have hsl := send_length m (put (plain l[i].f0 l[i].f1 a))
        have hbp := B_put (plain_B hx.1 hx.2 a)
        have hrd := rdv_put a hx.1 h1.1 hx.2 h1.2
        show portreevelaw08_FrameRow.j1 (k + 1) l m s true out i (send m (put (plain l[i].f0 l[i].f1 a))) (decide ((l[i].f1.length : Int) > 600)) = some true
        rw [decide_eq_false (by omega), portreevelaw08_FrameRow.j1, if_neg (by decide), if_pos (by rw [ho]; omega), w64 (by omega) (by omega), show ((i : Int) + 1) = ((i + 1 : Nat) : Int) by omega]
        refine row_loop l m s hm hw hn d k (i + 1) _ (r ++ [put (plain l[i].f0 l[i].f1 a)]) (by omega) (by omega) (by rw [Se_snoc, ho]) ?_ ?_ (by simp [hrl])
        · rw [Fs_append, hf, Fs, hrd, if_pos rfl, List.take_succ_eq_append_getElem hi]
          rfl
        · intro x hxm
          rcases List.mem_append.1 hxm with hxm | hxm
          · exact hr x hxm
          · rw [List.mem_singleton.1 hxm]
            exact ⟨hbp, by omega, by omega⟩
      · show portreevelaw08_FrameRow.j1 (k + 1) l m s true out i (send m (put (plain l[i].f0 l[i].f1 a))) (decide ((l[i].f1.length : Int) > 600)) = some true
        rw [decide_eq_true (by omega), portreevelaw08_FrameRow.j1, if_pos rfl]
    · rw [if_neg h1, if_neg (by decide), portreevelaw08_FrameRow.j1, if_pos rfl]
end Go.Proofs.Ytangahcilefelaa.Pure
