-- written by this session's own program (wip/tools/myprint.py), over the kit's print
import Derived.Test.YtoenogjedmnnlaaDoorQx0
import Derived.Test.YtoenogjedmnnlaaDoorQx2
import Derived.Test.YtoenogjedmnnlaaDoorMp
import Derived.Test.YtoenogjedmnnlaaDoorGl
import Derived.Test.YtoenogjedmnnlaaDoorShelf
import Derived.WalkSpells
import Derived.Lib.OthersKept
namespace Go.Proofs.YtoenogjedmnnlaaDoor.Q
open Go.RowKit Go.Proofs.YtoenogjedmnnlaaDoorW.PrintWords Go.Proofs.YtoenogjedmnnlaaDoorW.PrintLast Go.Proofs.YtoenogjedmnnlaaDoorW.PrintMore
open Go.Proofs.YtoenogjedmnnlaaDoorV Go.Proofs.YtoenogjedmnnlaaDoorG
attribute [local go_sem] max2_int min2_int max_two min_two max_three min_three max_four min_four   -- for this text's walks alone
set_option linter.unusedVariables false
set_option linter.unusedSimpArgs false

/-! fsm.Next: what an event does in a state: a row of a table of texts, parted at its blanks, read letter by letter. -/
open Go.Proofs.YtoenogjedmnnlaaDoorM Go.Proofs.YtoenogjedmnnlaaDoorG
def fsm_look (c : Int) : Int := if c = 117 then 1 else if c = 100 then 2 else if c = 116 then 3 else if c = 102 then 4 else if c = 105 then 5 else if c = 122 then 6 else if c = 114 then 7 else if c = 97 then 8 else if c = 110 then 9 else if c = 115 then 10 else if c = 107 then 11 else if c = 106 then 12 else if c = 101 then 13 else 0
def fsm_letter (c : Int) : Bool := c == 117 || c == 100 || c == 116 || c == 102 || c == 105 || c == 122 || c == 114 || c == 97 || c == 110 || c == 115 || c == 107 || c == 106 || c == 101
def fsm_rows : List (List UInt8) := [
  [50, 32, 105, 114, 54, 32, 45, 32, 45, 32, 45, 32, 45, 32, 45, 32, 45, 32, 45, 32, 45],
  [45, 32, 45, 32, 48, 32, 116, 49, 32, 48, 32, 49, 32, 49, 32, 49, 32, 49, 32, 100, 49],
  [116, 49, 32, 49, 32, 105, 114, 54, 32, 51, 32, 53, 32, 53, 32, 54, 32, 55, 32, 56, 32, 57],
  [48, 32, 102, 48, 32, 50, 32, 50, 32, 52, 32, 52, 32, 105, 115, 52, 32, 105, 115, 52, 32, 105, 115, 52, 32, 100, 105, 115, 52],
  [45, 32, 45, 32, 45, 32, 45, 32, 115, 52, 32, 115, 53, 32, 114, 54, 32, 114, 54, 32, 114, 56, 32, 45],
  [45, 32, 45, 32, 45, 32, 45, 32, 102, 50, 32, 102, 51, 32, 102, 51, 32, 102, 51, 32, 102, 51, 32, 45],
  [45, 32, 45, 32, 107, 50, 32, 105, 114, 97, 56, 32, 52, 32, 53, 32, 97, 56, 32, 97, 117, 57, 32, 97, 56, 32, 100, 114, 97, 56],
  [45, 32, 45, 32, 107, 50, 32, 105, 114, 110, 54, 32, 52, 32, 53, 32, 110, 54, 32, 110, 55, 32, 110, 54, 32, 100, 114, 110, 54],
  [45, 32, 45, 32, 107, 50, 32, 107, 51, 32, 52, 32, 53, 32, 105, 55, 32, 114, 54, 32, 105, 117, 57, 32, 100, 114, 54],
  [45, 32, 45, 32, 107, 50, 32, 107, 51, 32, 52, 32, 53, 32, 105, 114, 54, 32, 114, 54, 32, 105, 114, 56, 32, 100, 114, 54],
  [45, 32, 45, 32, 107, 50, 32, 107, 51, 32, 107, 52, 32, 107, 53, 32, 107, 54, 32, 107, 54, 32, 107, 54, 32, 100, 122, 107, 53],
  [45, 32, 45, 32, 50, 32, 51, 32, 102, 50, 32, 102, 51, 32, 54, 32, 54, 32, 56, 32, 100, 114, 54],
  [45, 32, 45, 32, 106, 50, 32, 106, 51, 32, 106, 52, 32, 106, 53, 32, 106, 54, 32, 106, 55, 32, 106, 56, 32, 106, 57],
  [45, 32, 45, 32, 50, 32, 51, 32, 52, 32, 53, 32, 54, 32, 54, 32, 56, 32, 57],
  [45, 32, 45, 32, 102, 50, 32, 102, 51, 32, 102, 50, 32, 102, 51, 32, 102, 51, 32, 102, 51, 32, 102, 51, 32, 100, 105, 115, 53],
  [45, 32, 45, 32, 50, 32, 51, 32, 52, 32, 53, 32, 54, 32, 55, 32, 56, 32, 101, 57]]
def fsm_row (e : Nat) : List UInt8 := fsm_rows.getD e []
def fsm_fld (e s : Nat) : List UInt8 := (Lib.fields (fsm_row e)).getD s []
def fsm_nx (st : Int) : List UInt8 → List Int → List Int × Int × Bool
  | [], _ => ([], st, false)
  | c :: l, acc => if (48 : Int) ≤ (c.toNat : Int) ∧ (c.toNat : Int) ≤ 57 then (acc, (c.toNat : Int) - 48, true) else if (c.toNat : Int) = 45 then ([], st, false) else fsm_nx st l (acc ++ [fsm_look (c.toNat : Int)])
def fsm_Next.f (a0 : Int) (a1 : Int) : Option (List Int × Int × Bool) := if 0 ≤ a0 ∧ a0 < 10 ∧ 0 ≤ a1 ∧ a1 < 16 then some (fsm_nx a0 (fsm_fld a1.toNat a0.toNat) []) else some ([], a0, false)

/-! ### the letters -/
def fsm_es : Array MapEntry := #[{ key := .int .i32 117, val := .int .i64 1, born := 0 }, { key := .int .i32 100, val := .int .i64 2, born := 1 }, { key := .int .i32 116, val := .int .i64 3, born := 2 }, { key := .int .i32 102, val := .int .i64 4, born := 3 }, { key := .int .i32 105, val := .int .i64 5, born := 4 }, { key := .int .i32 122, val := .int .i64 6, born := 5 }, { key := .int .i32 114, val := .int .i64 7, born := 6 }, { key := .int .i32 97, val := .int .i64 8, born := 7 }, { key := .int .i32 110, val := .int .i64 9, born := 8 }, { key := .int .i32 115, val := .int .i64 10, born := 9 }, { key := .int .i32 107, val := .int .i64 11, born := 10 }, { key := .int .i32 106, val := .int .i64 12, born := 11 }, { key := .int .i32 101, val := .int .i64 13, born := 12 }]
def fsm_isLetters (w : World) (e : Ending) (w' : World) : Prop := ∃ b, e = .returned (.map (some b)) ∧ w.heap.size ≤ b ∧ w'.heap[b]? = some (.map fsm_es 13) ∧ Below w.heap.size w w'
theorem fsm_key (n : Int) : MapKept.IsKey (.int .i32) (.int .i32 n) := by simp [MapKept.IsKey]
set_option maxHeartbeats 4000000 in
theorem fsm_letters_calls (w : World) : Calls Tryd.prog 28 #[] w (fsm_isLetters w) := by
  have hm : Tryd.prog.underlying 51 = some (.map 21 3) := Tryd.underlying51
  have hk : Tryd.prog.underlying 21 = some (.int .i32) := Tryd.underlying21
  have h0 : (w.alloc (.map #[] 0)).heap[w.heap.size]? = some (.map #[] 0) := (MapKept.heap_alloc w _).1
  obtain ⟨W1, r1, b1, g1⟩ := put_new (val := .int .i64 1) hm hk h0 (fsm_key 117) (by rfl)
  obtain ⟨W2, r2, b2, g2⟩ := put_new (val := .int .i64 2) hm hk b1 (fsm_key 100) (by rfl)
  obtain ⟨W3, r3, b3, g3⟩ := put_new (val := .int .i64 3) hm hk b2 (fsm_key 116) (by rfl)
  obtain ⟨W4, r4, b4, g4⟩ := put_new (val := .int .i64 4) hm hk b3 (fsm_key 102) (by rfl)
  obtain ⟨W5, r5, b5, g5⟩ := put_new (val := .int .i64 5) hm hk b4 (fsm_key 105) (by rfl)
  obtain ⟨W6, r6, b6, g6⟩ := put_new (val := .int .i64 6) hm hk b5 (fsm_key 122) (by rfl)
  obtain ⟨W7, r7, b7, g7⟩ := put_new (val := .int .i64 7) hm hk b6 (fsm_key 114) (by rfl)
  obtain ⟨W8, r8, b8, g8⟩ := put_new (val := .int .i64 8) hm hk b7 (fsm_key 97) (by rfl)
  obtain ⟨W9, r9, b9, g9⟩ := put_new (val := .int .i64 9) hm hk b8 (fsm_key 110) (by rfl)
  obtain ⟨W10, r10, b10, g10⟩ := put_new (val := .int .i64 10) hm hk b9 (fsm_key 115) (by rfl)
  obtain ⟨W11, r11, b11, g11⟩ := put_new (val := .int .i64 11) hm hk b10 (fsm_key 107) (by rfl)
  obtain ⟨W12, r12, b12, g12⟩ := put_new (val := .int .i64 12) hm hk b11 (fsm_key 106) (by rfl)
  obtain ⟨W13, r13, b13, g13⟩ := put_new (val := .int .i64 13) hm hk b12 (fsm_key 101) (by rfl)
  have z := Nat.le_refl w.heap.size
  have HB := Aside0.mk (g13 _ _ z (g12 _ _ z (g11 _ _ z (g10 _ _ z (g9 _ _ z (g8 _ _ z (g7 _ _ z (g6 _ _ z (g5 _ _ z (g4 _ _ z (g3 _ _ z (g2 _ _ z (g1 _ _ z ((Below.refl w.heap.size w).alloc (Nat.le_refl _) (.map #[] 0)))))))))))))))
  have HH := Aside0.mk b13
  clear h0 b1 b2 b3 b4 b5 b6 b7 b8 b9 b10 b11 b12 b13 g1 g2 g3 g4 g5 g6 g7 g8 g9 g10 g11 g12 g13 hm hk z
  have hmm : ∀ W : World, (Instr.makeMap 51 none).run Tryd.prog W = .ok (.map (some W.heap.size)) (W.alloc (.map #[] 0)) := fun _ => rfl
  go_enter Tryd.func28, Tryd.ntmps28
  go_wp2
  go_ret
  exact ⟨_, rfl, Nat.le_refl _, HH.out, HB.out⟩
theorem fsm_lookup {W : World} {b : Nat} (hb : W.heap[b]? = some (.map fsm_es 13)) (c : Int) (hc : fsm_letter c = true) : (Instr.lookup 51 (.map (some b)) (.int .i32 c) false).run Tryd.prog W = .ok (.int .i64 (fsm_look c)) W := by
  have hm : Tryd.prog.underlying 51 = some (.map 21 3) := Tryd.underlying51
  have hk : Tryd.prog.underlying 21 = some (.int .i32) := Tryd.underlying21
  simp only [fsm_letter, Bool.or_eq_true, beq_iff_eq] at hc
  rcases hc with ((((((((((((rfl | rfl) | rfl) | rfl) | rfl) | rfl) | rfl) | rfl) | rfl) | rfl) | rfl) | rfl) | rfl) <;> exact get1_there hm hk hb (fsm_key _) (by rfl)

/-! ### the table's row, parted -/
def fsm_isTable (e : Nat) (w : World) (E : Ending) (w' : World) : Prop := ∃ T, E = .returned T ∧ (∀ W, (Instr.index 55 T (.int .i64 (e : Int))).run Tryd.prog W = .ok (.string ⟨(fsm_row e).toArray⟩) W) ∧ Below w.heap.size w w'
set_option maxHeartbeats 4000000 in
set_option maxRecDepth 100000 in
theorem fsm_table_at (e : Nat) (he : e < 16) (w : World) : Calls Tryd.prog 30 #[] w (fsm_isTable e w) := by
  refine (fsm_table.calls _ _ _ _ _ _ _ _ _ _ _ _ _ _ _ _ w rfl).mono ?_
  rintro E w' ⟨rfl, hB⟩
  refine ⟨_, rfl, fun W => ?_, hB⟩
  have h16 : e = 0 ∨ e = 1 ∨ e = 2 ∨ e = 3 ∨ e = 4 ∨ e = 5 ∨ e = 6 ∨ e = 7 ∨ e = 8 ∨ e = 9 ∨ e = 10 ∨ e = 11 ∨ e = 12 ∨ e = 13 ∨ e = 14 ∨ e = 15 := by omega
  rcases h16 with rfl | rfl | rfl | rfl | rfl | rfl | rfl | rfl | rfl | rfl | rfl | rfl | rfl | rfl | rfl | rfl <;> (show _ = _; kernel_rfl)
theorem fsm_rows_ok : ∀ e, e < 16 → (fsm_row e).length ≤ 40 ∧ (∀ b ∈ fsm_row e, b.toNat < 128) ∧ (Lib.fields (fsm_row e)).length = 10 := by decide +kernel
theorem fsm_flds_ok : ∀ e, e < 16 → ∀ s, s < 10 → (fsm_fld e s).length ≤ 4 ∧ ∀ b ∈ fsm_fld e s, b.toNat < 128 ∧ ((48 ≤ b.toNat ∧ b.toNat ≤ 57) ∨ b.toNat = 45 ∨ fsm_letter (b.toNat : Int) = true) := by decide +kernel
def fsm_isFields (e : Nat) (w : World) (E : Ending) (w' : World) : Prop := ∃ b, E = .returned (.slice (some ⟨b, 0, none⟩) 10 10) ∧ (∀ s, s < 10 → w'.cell? ⟨b, s, none⟩ = some (.string ⟨(fsm_fld e s).toArray⟩)) ∧ Below w.heap.size w w'
theorem fsm_fields_at (e : Nat) (he : e < 16) (w : World) (hgl : Gl w) : Calls Tryd.prog 29 #[.string ⟨(fsm_row e).toArray⟩] w (fsm_isFields e w) := by
  obtain ⟨h1, h2, h3⟩ := fsm_rows_ok e he
  refine (Tryd.strings_Fields ⟨(fsm_row e).toArray⟩ w (by show (fsm_row e).toArray.size < _; rw [List.size_toArray]; omega) (fun j b hb => h2 b (by have := List.mem_of_getElem? hb; simpa using this)) hgl.out).mono ?_
  rintro E w' ⟨rfl, rfl⟩
  have e1 : (⟨(fsm_row e).toArray⟩ : ByteArray).data.toList = fsm_row e := rfl
  rw [e1, h3]
  refine ⟨_, rfl, fun s hs => ?_, (Below.refl _ _).alloc (Nat.le_refl _) _⟩
  have hb := (MapKept.heap_alloc w (.cells ((Lib.fields (fsm_row e)).map fun l => Value.string ⟨l.toArray⟩).toArray 9)).1
  rw [blk_cell hb s]
  have hs2 : s < (Lib.fields (fsm_row e)).length := by omega
  unfold fsm_fld
  simp [List.getD_eq_getElem?_getD, List.getElem?_eq_getElem hs2]

/-! ### the walk -/
theorem fsm_info : (Tryd.prog.info? 3).map (fun i => (i.zero, i.size, i.bytes)) = some (some (.int .i64 0), 1, 8) := by kernel_rfl
theorem fsm_len (f : ByteArray) : f.data.toList.length = f.size := (Lib.size_eq f).symm
theorem fsm_iterPos {w : World} {k : Nat} {s : ByteArray} {p : Nat} (h : w.heap[k]? = some (.stringIter s p)) : w.iterPos k = p := by simp [World.iterPos, h]
theorem fsm_below_drewN {B : Nat} {a w : World} (h : Below B a w) (n : Nat) : Below B a (w.drewN n) := h.trans ⟨rfl, rfl, rfl, Nat.le_refl _, fun _ _ => rfl⟩
/-- What is known in the midst of the letters: the iterator's block, the row that is made, the map's block. -/
structure fsm_At (st : Int) (L : List UInt8) (f : ByteArray) (kit b : Nat) (R : List Int × Int × Bool) (w : World) (v : Value) (wr : World) (pos : Nat) (acc : List Int) : Prop where
  it : wr.heap[kit]? = some (.stringIter f pos)
  mp : wr.heap[b]? = some (.map fsm_es 13)
  own : Kd.R (Kd.int .i64) 3 wr (kit + 1) (fun k => kit < k) v acc
  bel : Below w.heap.size w wr
  rest : fsm_nx st (L.drop pos) acc = R
  posn : acc.length ≤ pos
def fsm_Post (r1 : List Int) (r2 : Int) (r3 : Bool) (w : World) (e : Ending) (w' : World) : Prop := ∃ v0_ : Value, e = .returned (.tuple #[v0_, .int .i64 r2, .bool r3]) ∧ Kd.R (Kd.int .i64) 3 w' w.heap.size (fun _ => True) v0_ r1 ∧ Below w.heap.size w w'
set_option maxHeartbeats 4000000 in
set_option maxRecDepth 100000 in
theorem fsm_Next.walk (s e : Nat) (hs : s < 10) (he : e < 16) (w : World) (hgl : Gl w) (r1 : List Int) (r2 : Int) (r3 : Bool) (hr : fsm_nx (s : Int) (fsm_fld e s) [] = (r1, r2, r3)) :
    Calls Tryd.prog 23 #[.int .i64 (s : Int), .int .i64 (e : Int)] w (fsm_Post r1 r2 r3 w) := by
  obtain ⟨hf1, hf2⟩ := fsm_flds_ok e he s hs
  have HF2 := Aside0.mk hf2
  have HR := Aside0.mk hr
  obtain ⟨f, hf⟩ : ∃ f : ByteArray, Aside0 (f = ⟨(fsm_fld e s).toArray⟩) := ⟨_, Aside0.mk rfl⟩
  have hfl : f.data.toList = fsm_fld e s := by rw [hf.out]
  have hfs : f.size ≤ 4 := by rw [hf.out]; show (fsm_fld e s).toArray.size ≤ 4; rw [List.size_toArray]; omega
  have HFL := Aside0.mk hfl
  have GL := Aside0.mk hgl
  have d1 : (0 : Int) ≤ (s : Int) := by omega
  have d2 : (s : Int) < 10 := by omega
  have d3 : (0 : Int) ≤ (e : Int) := by omega
  have d4 : (e : Int) < 16 := by omega
  clear hf2 hr hfl hgl hf1
  go_enter Tryd.func23, Tryd.ntmps23
  go_wp2_with (first
    | (go_at_call 28; refine (fsm_letters_calls _).mono ?_; rintro E w1 ⟨b, rfl, hbw, hb, hB⟩; have HB := Aside0.mk hB; have HM := Aside0.mk hb; have HW := Aside0.mk hbw; clear hB hb hbw)
    | (go_at_call 30; refine (fsm_table_at e he _).mono ?_; rintro E w2 ⟨T, rfl, hix, hB⟩; have n0 := Aside0.mk (below_step HB.out hB); have n1 := Aside0.mk (hB.block b (blk_lt HM.out) |>.trans HM.out); clear HB HM hB; have HB := n0; have HM := n1; clear n0 n1)
    | (go_at_call 29; refine (fsm_fields_at e he _ (GL.out.below HB.out)).mono ?_; rintro E w3 ⟨g, rfl, hcl, hB⟩; have hc0 := hcl s hs; rw [← hf.out] at hc0; have n0 := Aside0.mk (below_step HB.out hB); have n1 := Aside0.mk (hB.block b (blk_lt HM.out) |>.trans HM.out); clear HB HM hB hcl hix; have HB := n0; have HM := n1; clear n0 n1))
  clear hf
  go_loopw [7] (fun v wr => ∃ (pos : Nat) (acc : List Int), pos ≤ f.size ∧ fsm_At (s : Int) (fsm_fld e s) f w3.heap.size b (r1, r2, r3) w v wr pos acc) (fun _ wr => f.size - wr.iterPos w3.heap.size)
  case atStart => exact ⟨0, [], Nat.zero_le _, World.iter_heap w3 f 0, by rw [show (w3.iter f 0).heap[b]? = w3.heap[b]? from Below.heap_alloc _ _ _ (blk_lt HM.out)]; exact HM.out, Kd.R_nil _ _ _ _ _, below_alloc HB.out _, HR.out, Nat.zero_le _⟩
  case round =>
    obtain ⟨pos, acc, hpl, hat⟩ := hrel
    have hit := hat.it
    have hpos0 := Aside0.mk (fsm_iterPos hit)
    have HA := Aside0.mk hat
    clear hat
    by_cases hp : pos < f.size
    · have hmem : f[pos] ∈ fsm_fld e s := by rw [← HFL.out]; exact List.getElem_mem (l := f.data.toList) (by simpa using hp)
      have hdrop : (fsm_fld e s).drop pos = f[pos] :: (fsm_fld e s).drop (pos + 1) := by rw [← HFL.out]; exact List.drop_eq_getElem_cons (l := f.data.toList) (by simpa using hp)
      obtain ⟨ha, hcs⟩ := HF2.out _ hmem
      have hrest := HA.out.rest
      rw [hdrop] at hrest
      have hnx : ∀ ty, (Instr.next (.pointer (some ⟨w3.heap.size, 0, none⟩)) true ty).run Tryd.prog wr = _ := fun ty => Lib.run_next_ascii_at wr w3.heap.size f pos ty hit hp ha
      obtain ⟨n, hn⟩ : ∃ n : Nat, n = f[pos].toNat := ⟨_, rfl⟩
      simp only [fsm_nx] at hrest
      rw [← hn] at hnx hcs hrest ha
      have hit2 := Lib.iterAt_heap wr w3.heap.size f pos (pos + 1) hit
      have hmp2 : (wr.iterAt w3.heap.size f (pos + 1)).heap[b]? = some (.map fsm_es 13) := by rw [Lib.iterAt_other _ _ _ _ _ (fun e_ => by have := HA.out.mp; rw [e_, hit] at this; cases this)]; exact HA.out.mp
      have hown2 : Kd.R (Kd.int .i64) 3 (wr.iterAt w3.heap.size f (pos + 1)) (w3.heap.size + 1) (fun k => w3.heap.size < k) _ acc := Kd.R_move HA.out.own (fun k hk => Lib.iterAt_other _ _ _ _ _ (by omega))
      have hbel2 := Lib.below_iterAt HA.out.bel (k := w3.heap.size) (below_size HB.out) f (pos + 1)
      have hpn := HA.out.posn
      obtain ⟨W1, hW1⟩ : ∃ W1, W1 = wr.iterAt w3.heap.size f (pos + 1) := ⟨_, rfl⟩
      rw [← hW1] at hnx hit2 hmp2 hown2 hbel2
      have IT := Aside0.mk hit2
      have MP := Aside0.mk hmp2
      have OW := Aside0.mk hown2
      have BL := Aside0.mk hbel2
      have RS := Aside0.mk hrest
      clear hW1 hit hit2 hmp2 hown2 hbel2 hrest hdrop hmem hn HA
      rcases hcs with ⟨hd1, hd2⟩ | hd | hd
      · have g1 : (48 : Int) ≤ (n : Int) := by omega
        have g2 : (n : Int) ≤ 57 := by omega
        have hres := RS.out
        rw [if_pos ⟨g1, g2⟩] at hres
        simp only [Prod.mk.injEq] at hres
        obtain ⟨rfl, rfl, rfl⟩ := hres
        clear RS
        go_wp2
        go_ret3
        exact ⟨_, rfl, Kd.R_mono (Kd.R_lower OW.out (Nat.le_trans (below_size HB.out) (Nat.le_succ _))) (fun _ _ => trivial), BL.out⟩
      · have g1 : ¬ ((48 : Int) ≤ (n : Int)) := by omega
        have g3 : (n : Int) = 45 := by omega
        have hres := RS.out
        rw [if_neg (fun h => g1 h.1), if_pos g3] at hres
        simp only [Prod.mk.injEq] at hres
        obtain ⟨rfl, rfl, rfl⟩ := hres
        clear RS hd
        go_wp2
        go_ret3
        exact ⟨_, rfl, Kd.R_nil _ _ _ _ _, BL.out⟩
      · have h97 : 97 ≤ n := by simp only [fsm_letter, Bool.or_eq_true, beq_iff_eq] at hd; omega
        have g1 : (48 : Int) ≤ (n : Int) := by omega
        have g2 : ¬ ((n : Int) ≤ 57) := by omega
        have g3 : ((n : Int) == 45) = false := by rw [beq_eq_false_iff_ne]; omega
        have hres := RS.out
        rw [if_neg (fun h => g2 h.2), if_neg (by omega)] at hres
        have RS2 := Aside0.mk hres
        have hlk := fsm_lookup MP.out _ hd
        have hac := Aside0.mk (show acc.length ≤ 4 by omega)
        clear RS hres hd
        go_wp2_with (first
          | ((with_reducible refine gate_builtin (b := .append) (xs := #[.tmp 53, .tmp 57]) rfl ?_); at_builtin; refine Kd.R_append (Kd.int .i64) (w0 := W1) (w3.heap.size + 1) rfl (.tmp 53) (.tmp 57) 27 3 (.int .i64 0) 8 rfl Tryd.underlying27 fsm_info rfl (by decide) (by omega) _ acc (fsm_look (n : Int)) [.int .i64 (fsm_look (n : Int))] (fun k => w3.heap.size < k) (fun _ => False) rfl rfl ?aP (fun _ hk => hk.elim) ?aF ?aO ?aB ?aS ?aL ?_; (case aP => exact rfl); (case aB => exact Below.refl _ _); (case aF => exact fun k hk => Nat.lt_of_lt_of_le (blk_lt IT.out) hk); (case aO => exact OW.out); (case aS => exact blk_lt IT.out); (case aL => have := hac.out; omega); intro v5 w5 ho hb hg hat; have X := Aside0.mk (show fsm_At (s : Int) (fsm_fld e s) f w3.heap.size b (r1, r2, r3) w v5 w5 (pos + 1) (acc ++ [fsm_look (n : Int)]) from ⟨(hb.block _ (Nat.lt_succ_self _)).trans IT.out, (hb.block _ (Nat.lt_succ_of_lt (blk_lt HM.out))).trans MP.out, ho, BL.out.trans (hb.mono (Nat.le_trans (below_size HB.out) (Nat.le_succ _))), RS2.out, by rw [List.length_append]; simp; omega⟩); clear ho hb hg hat))
        go_roundw
        case rel => exact ⟨pos + 1, _, by omega, X.out⟩
        case measure => rw [fsm_iterPos X.out.it, hpos0.out]; omega
    · have hnx : ∀ ty, (Instr.next (.pointer (some ⟨w3.heap.size, 0, none⟩)) true ty).run Tryd.prog wr = _ := fun ty => Lib.run_next_end_at wr w3.heap.size f pos ty hit hp
      have hend : (fsm_fld e s).drop pos = [] := List.drop_of_length_le (by rw [← HFL.out]; have := fsm_len f; omega)
      have hres := HA.out.rest
      rw [hend] at hres
      simp only [fsm_nx, Prod.mk.injEq] at hres
      obtain ⟨rfl, rfl, rfl⟩ := hres
      have BL := Aside0.mk HA.out.bel
      clear hit HA hend
      go_wp2
      go_ret3
      exact ⟨_, rfl, Kd.R_nil _ _ _ _ _, BL.out⟩
theorem fsm_Next.out (a0 a1 : Int) (h : ¬ (0 ≤ a0 ∧ a0 < 10 ∧ 0 ≤ a1 ∧ a1 < 16)) (w : World) : Calls Tryd.prog 23 #[.int .i64 a0, .int .i64 a1] w (fsm_Post [] a0 false w) := by
  by_cases h1 : a0 < 0
  · clear h
    go_enter Tryd.func23, Tryd.ntmps23
    go_wp2
    go_ret3
    exact ⟨_, rfl, Kd.R_nil _ _ _ _ _, Below.refl _ _⟩
  by_cases h2 : 10 ≤ a0
  · clear h
    go_enter Tryd.func23, Tryd.ntmps23
    go_wp2
    go_ret3
    exact ⟨_, rfl, Kd.R_nil _ _ _ _ _, Below.refl _ _⟩
  by_cases h3 : a1 < 0
  · clear h
    go_enter Tryd.func23, Tryd.ntmps23
    go_wp2
    go_ret3
    exact ⟨_, rfl, Kd.R_nil _ _ _ _ _, Below.refl _ _⟩
  have h4 : 16 ≤ a1 := by omega
  clear h
  go_enter Tryd.func23, Tryd.ntmps23
  go_wp2
  go_ret3
  exact ⟨_, rfl, Kd.R_nil _ _ _ _ _, Below.refl _ _⟩
theorem fsm_Next.calls (a0 : Int) (a1 : Int) (r1 : List Int) (r2 : Int) (r3 : Bool) (w : World) (hgl : Gl w) (h : fsm_Next.f a0 a1 = some (r1, r2, r3)) :
    Calls Tryd.prog 23 #[.int .i64 a0, .int .i64 a1] w fun e w' => ∃ v0_ : Value, e = .returned (.tuple #[v0_, .int .i64 r2, .bool r3]) ∧ Kd.R (Kd.int .i64) 3 w' w.heap.size (fun _ => True) v0_ r1 ∧ Below w.heap.size w w' := by
  unfold fsm_Next.f at h
  by_cases hc : 0 ≤ a0 ∧ a0 < 10 ∧ 0 ≤ a1 ∧ a1 < 16
  · rw [if_pos hc] at h
    obtain ⟨s, rfl⟩ : ∃ s : Nat, a0 = (s : Int) := ⟨a0.toNat, by omega⟩
    obtain ⟨e, rfl⟩ : ∃ e : Nat, a1 = (e : Int) := ⟨a1.toNat, by omega⟩
    simp only [Int.toNat_natCast] at h
    exact fsm_Next.walk s e (by omega) (by omega) w hgl r1 r2 r3 (Option.some.inj h)
  · rw [if_neg hc] at h
    simp only [Option.some.injEq, Prod.mk.injEq] at h
    obtain ⟨rfl, rfl, rfl⟩ := h
    exact fsm_Next.out a0 a1 hc w

end Go.Proofs.YtoenogjedmnnlaaDoor.Q
