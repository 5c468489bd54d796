/- What an argument that is read as data is, kind by kind: its cells are of the print's kind, and its numbers are in range. -/
import Derived.Test.YtpbkdphilcodmaaWArr
import Derived.ProofKit
import Derived.OpenShut
import Derived.WideShapes
import Derived.SizedLaws
namespace Go.Proofs.YtpbkdphilcodmaaR
open Go Go.RowKit Go.ChangeShapes Go.WideShapes Go.Proofs.YtpbkdphilcodmaaW.PrintWords

/-- What is read of type t is of kind d, and G holds of it. -/
def Rdr (P : Program) (t : Nat) {α : Type} (d : Kd α) (G : α → Prop) : Prop :=
  ∀ (H : Type) (enc : TypeId × Value → H) (W : World) (base : Nat) (spare : Nat → Bool) (held : Bool) (fuel : Nat) (cs : List Value) (x : DataW H × List MemPlace),
    DataW.trod enc P W base spare held fuel t cs = some x → (∀ n ∈ x.1.weights P t, n ≤ reachBytes) → ∃ a : α, d.K W a cs ∧ G a

theorem Rdr.int {P : Program} {t : Nat} {k : IntKind} (ht : P.underlying t = some (.int k)) : Rdr P t (Kd.int k) (fun n => (Lit.int k n).wf = true) := by
  intro H enc W base spare held fuel cs x h _
  obtain ⟨n, rfl, _, hw⟩ := DataW.trod_int ht h
  exact ⟨n, rfl, hw⟩

theorem Rdr.bool {P : Program} {t : Nat} (ht : P.underlying t = some .bool) : Rdr P t Kd.bool (fun _ => True) := by
  intro H enc W base spare held fuel cs x h _
  obtain ⟨b, rfl, _⟩ := DataW.trod_bool ht h
  exact ⟨b, rfl, trivial⟩

theorem Rdr.string {P : Program} {t : Nat} (ht : P.underlying t = some .string) : Rdr P t Kd.string (fun s => s.size ≤ 140737488351232) := by
  intro H enc W base spare held fuel cs x h hw
  obtain ⟨s, rfl, rfl, _⟩ := DataW.trod_string ht h
  refine ⟨s, rfl, ?_⟩
  have := hw s.data.toList.length (by simp [DataW.weights])
  have e : s.data.toList.length = s.size := Array.length_toList
  rw [e] at this
  exact this

theorem weights_all {H : Type} {P : Program} {e : Nat} : ∀ {l : List (DataW H)} {d : DataW H}, d ∈ l → ∀ n ∈ d.weights P e, n ∈ DataW.weightsAll P e l
  | d0 :: l, d, hd, n, hn => by
    simp only [DataW.weightsAll, List.mem_append]
    rcases List.mem_cons.1 hd with rfl | hd
    · exact .inl hn
    · exact .inr (weights_all hd n hn)
  | [], d, hd, _, _ => by cases hd

theorem list_choose {α : Type} {n : Nat} {R : Nat → α → Prop} (h : ∀ i, i < n → ∃ a, R i a) : ∃ l : List α, l.length = n ∧ ∀ i (hi : i < l.length), R i l[i] := by
  induction n with
  | zero => exact ⟨[], rfl, fun i hi => by simp at hi⟩
  | succ n ih =>
    obtain ⟨l, hl, hr⟩ := ih (fun i hi => h i (by omega))
    obtain ⟨a, ha⟩ := h n (by omega)
    refine ⟨l ++ [a], by simp [hl], fun i hi => ?_⟩
    by_cases hin : i < l.length
    · rw [List.getElem_append_left hin]
      exact hr i hin
    · have : i = n := by simp at hi; omega
      subst this
      rw [List.getElem_append_right (by omega)]
      simpa [hl] using ha

theorem Rdr.slice {P : Program} {t e B : Nat} {α : Type} {d : Kd α} {G : α → Prop} (ht : P.underlying t = some (.slice e)) (hc : P.cellsOf e = d.sz) (hB : P.bytesOf e = B) (he : Rdr P e d G) :
    Rdr P t (Kd.slice e d) (fun xs => xs.length * B ≤ 140737488351232 ∧ ∀ a ∈ xs, G a) := by
  intro H enc W base spare held fuel cs x h hw
  rcases DataW.trod_slice ht h with ⟨rfl, rfl⟩ | ⟨a, len, cap, elems, rest, n, _, rfl, rfl, hb, hl, hm, hlen, hel, _, _⟩
  · exact ⟨[], ⟨none, 0, rfl, Nat.le_refl _, rfl, Nat.zero_le _, fun h => absurd h (by simp)⟩, by simp, fun a ha => by cases ha⟩
  · have hwt : ∀ n ∈ DataW.weights P t (DataW.slice (elems.map (·.1)) (rest.map (·.1))), n ≤ reachBytes := hw
    simp only [DataW.weights, ht, List.mem_cons, List.mem_append] at hwt
    have hsz := hwt _ (.inl rfl)
    simp only [List.length_map] at hsz
    have each : ∀ i, i < len → ∃ p : α, ∃ c : List Value, c.length = d.sz ∧ d.K W p c ∧ G p ∧ ∀ j u, c[j]? = some u → W.cell? (a.add (i * d.sz + j)) = some u := by
      intro i hi
      have h1 := hel i hi
      have hy : ∃ y, elems[i]? = some y := ⟨elems[i]'(by omega), List.getElem?_eq_getElem (by omega)⟩
      obtain ⟨y, hy⟩ := hy
      rw [hy, Option.bind_eq_some_iff] at h1
      obtain ⟨c, hcs, hr⟩ := h1
      obtain ⟨p, hp, hG⟩ := he H enc W base spare held n c y hr (fun m hm => hwt m (.inr (.inl (weights_all (List.mem_map_of_mem (List.mem_of_getElem? hy)) m hm))))
      obtain ⟨_, hlc, hcell⟩ := World.cells?_some hcs
      refine ⟨p, c, by rw [hlc, hc], hp, hG, fun j u hj => ?_⟩
      have hjl : j < P.cellsOf e := by rw [← hlc]; exact (List.getElem?_eq_some_iff.1 hj).1
      have := hcell j hjl
      rw [hj] at this
      rw [← this, Addr.add_add, hc]
    obtain ⟨xs, hxl, hxs⟩ := list_choose each
    refine ⟨xs, ⟨some a, cap, by rw [hxl], by omega, rfl, ?_, fun _ => ⟨a, rfl, fun j p hj => ?_⟩⟩, ?_, ?_⟩
    · rw [hxl]; unfold maxLen at hm; omega
    · obtain ⟨hjl, rfl⟩ := List.getElem?_eq_some_iff.1 hj
      obtain ⟨c, h1, h2, _, h4⟩ := hxs j hjl
      exact ⟨c, h1, h2, h4⟩
    · rw [hxl, ← hB, ← hlen]
      refine Nat.le_trans (Nat.mul_le_mul_right _ ?_) hsz
      omega
    · intro q hq
      obtain ⟨i, hi, rfl⟩ := List.getElem_of_mem hq
      obtain ⟨c, _, _, h3, _⟩ := hxs i hi
      exact h3

theorem Rdr.arr {P : Program} {t e n : Nat} {α : Type} {d : Kd α} {G : α → Prop} {hs : 0 < d.sz} (ht : P.underlying t = some (.array n e)) (hc : P.cellsOf e = d.sz) (hn : P.cellsOf t = n * d.sz) (he : Rdr P e d G) :
    Rdr P t (Kd.arr n d hs) (fun xs => xs.length = n ∧ ∀ a ∈ xs, G a) := by
  intro H enc W base spare held fuel cs x h hw
  obtain ⟨xs, m, rfl, rfl, hl, hxl, hel⟩ := DataW.trod_array ht h
  have hwt : ∀ n ∈ DataW.weights P t (DataW.agg (xs.map (·.1))), n ≤ reachBytes := hw
  simp only [DataW.weights, ht] at hwt
  have each : ∀ i, i < n → ∃ p : α, d.K W p ((cs.drop (i * d.sz)).take d.sz) ∧ G p := by
    intro i hi
    have h1 := hel i hi
    obtain ⟨y, hy⟩ : ∃ y, xs[i]? = some y := ⟨xs[i]'(by omega), List.getElem?_eq_getElem (by omega)⟩
    rw [hy, hc] at h1
    exact he H enc W base spare held m _ y h1 (fun q hq => hwt q (weights_all (List.mem_map_of_mem (List.mem_of_getElem? hy)) q hq))
  obtain ⟨ps, hpl, hps⟩ := list_choose each
  refine ⟨ps, ⟨hpl, by rw [hl, hn, hpl], fun j p hj => ?_⟩, hpl, ?_⟩
  · obtain ⟨hjl, rfl⟩ := List.getElem?_eq_some_iff.1 hj
    exact (hps j hjl).1
  · intro q hq
    obtain ⟨i, hi, rfl⟩ := List.getElem_of_mem hq
    exact (hps i hi).2

/-- The same of a struct's fields, from the one at cell o on. -/
def RdrF (P : Program) (fs : List Field) (o : Nat) {α : Type} (d : Kd α) (G : α → Prop) : Prop :=
  ∀ (H : Type) (enc : TypeId × Value → H) (W : World) (base : Nat) (spare : Nat → Bool) (held : Bool) (fuel : Nat) (cs : List Value) (xs : List (DataW H × List MemPlace)),
    cs.length = o + d.sz → fs.mapM (fun f => DataW.trod enc P W base spare held fuel f.type ((cs.drop f.offset).take (P.cellsOf f.type))) = some xs →
    (∀ n ∈ DataW.weightsEach P (fs.map (·.type)) (xs.map (·.1)), n ≤ reachBytes) → ∃ a : α, d.K W a (cs.drop o) ∧ G a

theorem mapM_cons_some {α β : Type} {f : α → Option β} {x : α} {l : List α} {r : List β} (h : (x :: l).mapM f = some r) : ∃ y ys, r = y :: ys ∧ f x = some y ∧ l.mapM f = some ys := by
  rw [List.mapM_cons] at h
  cases hx : f x with
  | none => rw [hx] at h; cases h
  | some y =>
    rw [hx] at h
    cases hl : l.mapM f with
    | none => rw [hl] at h; cases h
    | some ys =>
      rw [hl] at h
      cases h
      exact ⟨y, ys, rfl, rfl, rfl⟩

theorem RdrF.one {P : Program} {f : Field} {o : Nat} {α : Type} {d : Kd α} {G : α → Prop} (ho : f.offset = o) (hc : P.cellsOf f.type = d.sz) (h : Rdr P f.type d G) : RdrF P [f] o d G := by
  intro H enc W base spare held fuel cs xs hl hm hw
  obtain ⟨y, ys, rfl, hy, _⟩ := mapM_cons_some hm
  rw [ho, hc, List.take_of_length_le (by rw [List.length_drop]; omega)] at hy
  exact h H enc W base spare held fuel _ y hy (fun n hn => hw n (by simp [DataW.weightsEach, hn]))

theorem RdrF.cons {P : Program} {f : Field} {fs : List Field} {o o' : Nat} {α β : Type} {d : Kd α} {d' : Kd β} {G : α → Prop} {G' : β → Prop} (ho : f.offset = o) (hc : P.cellsOf f.type = d.sz) (h : Rdr P f.type d G) (ho' : o' = o + d.sz) (h' : RdrF P fs o' d' G') :
    RdrF P (f :: fs) o (Kd.pair d d') (fun p => G p.1 ∧ G' p.2) := by
  subst ho'
  intro H enc W base spare held fuel cs xs hl hm hw
  obtain ⟨y, ys, rfl, hy, hm'⟩ := mapM_cons_some hm
  have hl' : cs.length = o + d.sz + d'.sz := by rw [hl]; show o + (d.sz + d'.sz) = _; omega
  rw [ho, hc] at hy
  obtain ⟨a, ha, hG⟩ := h H enc W base spare held fuel _ y hy (fun n hn => hw n (by simp [DataW.weightsEach, hn]))
  obtain ⟨b, hb, hG'⟩ := h' H enc W base spare held fuel cs ys hl' hm' (fun n hn => hw n (by simp [DataW.weightsEach, hn]))
  refine ⟨(a, b), ⟨_, _, ?_, ha, hb⟩, hG, hG'⟩
  rw [← List.drop_drop, List.take_append_drop]

/-- The same of the n elements of an array, one behind the other. -/
def RdrA (P : Program) (e n : Nat) {α : Type} (d : Kd α) (G : α → Prop) : Prop :=
  ∀ (H : Type) (enc : TypeId × Value → H) (W : World) (base : Nat) (spare : Nat → Bool) (held : Bool) (fuel : Nat) (cs : List Value) (xs : List (DataW H × List MemPlace)),
    cs.length = d.sz → xs.length = n → (∀ i, i < n → DataW.trod enc P W base spare held fuel e ((cs.drop (i * P.cellsOf e)).take (P.cellsOf e)) = xs[i]?) →
    (∀ m ∈ DataW.weightsAll P e (xs.map (·.1)), m ≤ reachBytes) → ∃ a : α, d.K W a cs ∧ G a

theorem RdrA.one {P : Program} {e : Nat} {α : Type} {d : Kd α} {G : α → Prop} (hc : P.cellsOf e = d.sz) (h : Rdr P e d G) : RdrA P e 1 d G := by
  intro H enc W base spare held fuel cs xs hl hn hel hw
  obtain ⟨y, rfl⟩ := List.length_eq_one_iff.1 hn
  have h0 := hel 0 (by omega)
  rw [Nat.zero_mul, List.drop_zero, hc, List.take_of_length_le (by omega)] at h0
  exact h H enc W base spare held fuel cs y h0 (fun m hm => hw m (by simp [DataW.weightsAll, hm]))

theorem RdrA.cons {P : Program} {e n : Nat} {α β : Type} {d : Kd α} {d' : Kd β} {G : α → Prop} {G' : β → Prop} (hc : P.cellsOf e = d.sz) (h : Rdr P e d G) (h' : RdrA P e n d' G') :
    RdrA P e (n + 1) (Kd.pair d d') (fun p => G p.1 ∧ G' p.2) := by
  intro H enc W base spare held fuel cs xs hl hn hel hw
  obtain ⟨y, ys, rfl⟩ : ∃ y ys, xs = y :: ys := by
    cases xs with
    | nil => simp at hn
    | cons y ys => exact ⟨y, ys, rfl⟩
  have hl' : cs.length = d.sz + d'.sz := hl
  have h0 := hel 0 (by omega)
  rw [Nat.zero_mul, List.drop_zero, hc] at h0
  obtain ⟨a, ha, hG⟩ := h H enc W base spare held fuel _ y h0 (fun m hm => hw m (by simp [DataW.weightsAll, hm]))
  obtain ⟨b, hb, hG'⟩ := h' H enc W base spare held fuel (cs.drop d.sz) ys (by rw [List.length_drop]; omega) (by simpa using hn) (fun i hi => by
    have hi1 := hel (i + 1) (by omega)
    rw [hc, Nat.add_mul, Nat.one_mul] at hi1
    rw [hc, List.drop_drop, Nat.add_comm]
    exact hi1) (fun m hm => hw m (by simp [DataW.weightsAll, hm]))
  exact ⟨(a, b), ⟨_, _, (List.take_append_drop _ _).symm, ha, hb⟩, hG, hG'⟩

theorem Rdr.arrs {P : Program} {t e n : Nat} {α β : Type} {d : Kd α} {G : α → Prop} (ht : P.underlying t = some (.array n e)) (hc : P.cellsOf t = d.sz) (f : β → α) (g : α → β) (hfg : ∀ a, f (g a) = a)
    (h : RdrA P e n d G) : Rdr P t (Kd.iso d f) (fun b => G (f b)) := by
  intro H enc W base spare held fuel cs x hx hw
  obtain ⟨xs, m, rfl, rfl, hl, hxl, hel⟩ := DataW.trod_array ht hx
  have hwt : ∀ n ∈ DataW.weights P t (DataW.agg (xs.map (·.1))), n ≤ reachBytes := hw
  simp only [DataW.weights, ht] at hwt
  obtain ⟨a, ha, hG⟩ := h H enc W base spare held m cs xs (by rw [hl, hc]) hxl hel hwt
  refine ⟨g a, ?_, by show G (f (g a)); rw [hfg]; exact hG⟩
  show d.K W (f (g a)) cs
  rw [hfg]
  exact ha

theorem trod_struct_any {H : Type} {enc : TypeId × Value → H} {P : Program} {w : World} {base : Nat} {spare : Nat → Bool} {held : Bool} {fuel : Nat} {t : Nat} {fs : Array Field} {cs : List Value} {x : DataW H × List MemPlace} (ht : P.underlying t = some (.struct fs))
    (h : DataW.trod enc P w base spare held fuel t cs = some x) :
    ∃ (xs : List (DataW H × List MemPlace)) (m : Nat), fuel = m + 1 ∧ x = (.agg (xs.map (·.1)), xs.flatMap (·.2)) ∧ cs.length = P.cellsOf t ∧
      fs.toList.mapM (fun f => DataW.trod enc P w base spare held m f.type ((cs.drop f.offset).take (P.cellsOf f.type))) = some xs := by
  cases fuel with
  | zero => simp [DataW.trod] at h
  | succ m =>
    unfold DataW.trod at h
    rw [ht] at h
    split at h <;> simp_all
    obtain ⟨hl, xs, hp, hd⟩ := h
    exact ⟨xs, hd.symm, hp⟩

theorem Rdr.struct {P : Program} {t : Nat} {fs : Array Field} {l : List Field} {α β : Type} {d : Kd α} {G : α → Prop} (ht : P.underlying t = some (.struct fs)) (hl : fs.toList = l) (hc : P.cellsOf t = d.sz) (f : β → α) (g : α → β) (hfg : ∀ a, f (g a) = a)
    (h : RdrF P l 0 d G) : Rdr P t (Kd.iso d f) (fun b => G (f b)) := by
  intro H enc W base spare held fuel cs x hx hw
  obtain ⟨xs, m, rfl, rfl, hlen, hm⟩ := trod_struct_any ht hx
  have hwt : ∀ n ∈ DataW.weights P t (DataW.agg (xs.map (·.1))), n ≤ reachBytes := hw
  simp only [DataW.weights, ht] at hwt
  rw [hl] at hm hwt
  obtain ⟨a, ha, hG⟩ := h H enc W base spare held m cs xs (by rw [hlen, hc]; omega) hm hwt
  refine ⟨g a, ?_, by show G (f (g a)); rw [hfg]; exact hG⟩
  show d.K W (f (g a)) cs
  rw [hfg]
  exact ha

theorem Rdr.mono {P : Program} {t : Nat} {α : Type} {d : Kd α} {G G' : α → Prop} (h : Rdr P t d G) (hG : ∀ a, G a → G' a) : Rdr P t d G' := by
  intro H enc W base spare held fuel cs x hx hw
  obtain ⟨a, ha, hg⟩ := h H enc W base spare held fuel cs x hx hw
  exact ⟨a, ha, hG a hg⟩

/-- An argument's weights are among all. -/
theorem arg_weights {H : Type} {P : Program} {ts : List Nat} {ds : List (DataW H)} (h : (DataW.weightsEach P ts ds).all (· ≤ reachBytes) = true) {j t : Nat} {d : DataW H} (ht : ts[j]? = some t) (hd : ds[j]? = some d) : ∀ n ∈ d.weights P t, n ≤ reachBytes := by
  intro n hn
  have := List.all_eq_true.1 h n (DataW.weights_mem_each ht hd n hn)
  simpa using this

/-- A struct that came in by value. -/
theorem arg_agg {H : Type} {enc : TypeId × Value → H} {P : Program} {W : World} {b0 base : Nat} {r : Reach} {spare : Nat → Bool} {held : Bool} {t : Nat} {fs : Array Field} {v : Value} {x : DataW H} {ps : List MemPlace} {α : Type} {d : Kd α} {G : α → Prop} (hs : P.underlying t = some (.struct fs))
    (hR : Rdr P t d G) (hv : Value.okWide P W r b0 t v) (h : DataW.Trod enc P W base spare held t v x ps) (hw : ∀ n ∈ x.weights P t, n ≤ reachBytes) : ∃ (cs : Array Value) (a : α), v = .agg cs ∧ d.K W a cs.toList ∧ G a := by
  obtain ⟨cs, rfl, _⟩ := okWide_struct hs hv
  obtain ⟨fuel, hf⟩ := h
  obtain ⟨a, ha, hG⟩ := hR H enc W base spare held fuel _ _ hf hw
  exact ⟨cs, a, rfl, ha, hG⟩

/-- An array that came in by value. -/
theorem arg_arr {H : Type} {enc : TypeId × Value → H} {P : Program} {W : World} {b0 base : Nat} {r : Reach} {spare : Nat → Bool} {held : Bool} {t e n : Nat} {v : Value} {x : DataW H} {ps : List MemPlace} {α : Type} {d : Kd α} {G : α → Prop} (hs : P.underlying t = some (.array n e))
    (hR : Rdr P t d G) (hv : Value.okWide P W r b0 t v) (h : DataW.Trod enc P W base spare held t v x ps) (hw : ∀ n ∈ x.weights P t, n ≤ reachBytes) : ∃ (cs : Array Value) (a : α), v = .agg cs ∧ d.K W a cs.toList ∧ G a := by
  simp only [Value.okWide, hs] at hv
  obtain ⟨cs, rfl, _, _⟩ := hv
  obtain ⟨fuel, hf⟩ := h
  obtain ⟨a, ha, hG⟩ := hR H enc W base spare held fuel _ _ hf hw
  exact ⟨cs, a, rfl, ha, hG⟩

/-- A slice that came in. -/
theorem arg_slice {H : Type} {enc : TypeId × Value → H} {P : Program} {W : World} {b0 base : Nat} {r : Reach} {spare : Nat → Bool} {held : Bool} {t e : Nat} {v : Value} {x : DataW H} {ps : List MemPlace} {α : Type} {d : Kd α} {G : List α → Prop} (hs : P.underlying t = some (.slice e))
    (hR : Rdr P t (Kd.slice e d) G) (hv : Value.okWide P W r b0 t v) (h : DataW.Trod enc P W base spare held t v x ps) (hw : ∀ n ∈ x.weights P t, n ≤ reachBytes) :
    ∃ (A : Option Addr) (c : Nat) (l : List α), v = .slice A l.length c ∧ l.length ≤ c ∧ d.C W A l.length l ∧ G l := by
  obtain ⟨a0, len, cap, rfl⟩ := okWide_slice hs hv
  obtain ⟨fuel, hf⟩ := h
  obtain ⟨l, ⟨A, c, hcs, hlc, hC⟩, hG⟩ := hR H enc W base spare held fuel _ _ hf hw
  have : Value.slice a0 len cap = Value.slice A l.length c := by simpa [Value.cells] using hcs
  exact ⟨A, c, l, this, hlc, hC, hG⟩

theorem toList_arr {cs : Array Value} {l : List Value} (h : cs.toList = l) : cs = l.toArray := by rw [← h]
end Go.Proofs.YtpbkdphilcodmaaR
