-- written by this session's own program (wip/tools/myprint.py), over the kit's print
import Derived.Test.YtangahcilefelaaQx0
import Derived.Test.YtangahcilefelaaQx1
import Derived.Test.YtangahcilefelaaQx3
import Derived.Test.YtangahcilefelaaQx5
import Derived.MapKept
import Derived.WideKeyRuns
import Derived.MapFrom
import Derived.Deep.RegionLawGrows
namespace Go.Proofs.Ytangahcilefelaa.Q
open Go.RowKit Go.Proofs.YtangahcilefelaaW.PrintWords Go.Proofs.YtangahcilefelaaW.PrintLast Go.Proofs.YtangahcilefelaaW.PrintMore
open Go.Proofs.YtangahcilefelaaV
attribute [local go_sem] max2_int min2_int max_two min_two max_three min_three max_four min_four   -- for this text's walks alone
set_option linter.unusedVariables false
set_option linter.unusedSimpArgs false

/-! frame.Bytes: a map literal whose makers come in any order. -/
def bytes_key (k : Bool × Bool) : Value := .agg #[.bool k.1, .bool k.2]
theorem bytes_eq (w : World) (k q : Bool × Bool) : (Op.equal 54 (bytes_key k) (bytes_key q)).run Try.prog w = .ok (decide (k = q)) w := by
  obtain ⟨a, b⟩ := k
  obtain ⟨c, d⟩ := q
  cases a <;> cases b <;> cases c <;> cases d <;> kernel_rfl
theorem bytes_chk (w : World) (e : Bool) (k : Bool × Bool) : (Instr.checkKey e 10000 54 (bytes_key k)).run Try.prog w = .ok () w := by
  obtain ⟨a, b⟩ := k
  cases e <;> cases a <;> cases b <;> kernel_rfl
theorem bytes_u54 : Try.prog.underlying 54 = some (.array 2 4) := by kernel_rfl
theorem bytes_u56 : Try.prog.underlying 56 = some (.map 54 23) := by kernel_rfl
def bytes_ent (e : (Bool × Bool) × Value × Nat) : MapEntry := { key := bytes_key e.1, val := e.2.1, born := e.2.2 }
def bytes_look : List ((Bool × Bool) × Value × Nat) → Bool × Bool → Option Value
  | [], _ => none
  | e :: es, k => if k = e.1 then some e.2.1 else bytes_look es k
theorem bytes_look_app (k q : Bool × Bool) (v : Value) (c : Nat) : ∀ xs, bytes_look (xs ++ [(k, v, c)]) q = match bytes_look xs q with | some u => some u | none => if q = k then some v else none
  | [] => rfl
  | e :: es => by
    simp only [List.cons_append, bytes_look]
    split
    · rfl
    · exact bytes_look_app k q v c es
theorem bytes_find (w : World) (k : Bool × Bool) : ∀ (xs : List ((Bool × Bool) × Value × Nat)) (i : Nat), ∃ r, (Instr.findAsking 54 (bytes_key k) (xs.map bytes_ent) i).run Try.prog w = .ok r w ∧ r.map Prod.snd = bytes_look xs k
  | [], i => ⟨none, by simp [Instr.findAsking], rfl⟩
  | e :: es, i => by
    obtain ⟨r, h1, h2⟩ := bytes_find w k es (i + 1)
    have he : (Op.equal 54 (bytes_key k) (bytes_key e.1)).run Try.prog w = .ok (decide (k = e.1)) w := bytes_eq w k e.1
    by_cases hk : k = e.1
    · refine ⟨some (i, e.2.1), ?_, by simp [bytes_look, hk]⟩
      rw [List.map_cons, Instr.findAsking]
      simp [bytes_ent, he, decide_eq_true hk]
    · refine ⟨r, ?_, by simp [bytes_look, hk, h2]⟩
      rw [List.map_cons, Instr.findAsking]
      simp [bytes_ent, he, decide_eq_false hk]; exact h1
theorem bytes_fk (w : World) (x : Value) (es : List MapEntry) : (Instr.findKey 54 x es).run Try.prog w = (Instr.findAsking 54 x es).run Try.prog w := run_findKey_eq w (P := Try.prog) (k := 54) (by rw [bytes_u54]) x es
/-- The map's block: what each key shows. -/
def BMap (w : World) (m : Nat) (F : Bool × Bool → Option Value) : Prop := ∃ es c xs, w.heap[m]? = some (.map es c) ∧ es.toList = xs.map bytes_ent ∧ ∀ k, bytes_look xs k = F k
theorem BMap.put {w : World} {m : Nat} {F F' : Bool × Bool → Option Value} {k : Bool × Bool} {v : Value} (h : BMap w m F) (hk : F k = none) (hF : ∀ q, F' q = if q = k then some v else F q) :
    ∃ w1, (Instr.mapUpdate 56 (.map (some m)) (bytes_key k) v).run Try.prog w = .ok () w1 ∧ BMap w1 m F' ∧ (∀ g, g ≠ m → w1.heap[g]? = w.heap[g]?) ∧ w1.heap.size = w.heap.size ∧ (∀ B w0, B ≤ m → Below B w0 w → Below B w0 w1) := by
  obtain ⟨es, c, xs, h1, h2, h3⟩ := h
  obtain ⟨r, hr, hl⟩ := bytes_find w k xs 0
  rw [h3 k, hk] at hl
  obtain rfl : r = none := by cases r <;> simp at hl ⊢
  refine ⟨{ w with heap := w.heap.setIfInBounds m (.map (es.push { key := bytes_key k, val := v, born := c }) (c + 1)) }, ?_, ⟨es.push { key := bytes_key k, val := v, born := c }, c + 1, xs ++ [(k, v, c)], ?_, ?_, ?_⟩, ?_, by simp, ?_⟩
  · have hf : (Instr.findKey 54 (bytes_key k) es.toList).run Try.prog w = .ok none w := by
      rw [bytes_fk, h2, hr]
    simp [Instr.mapUpdate, run_underlying bytes_u56, MapKept.run_getObj_map h1, bytes_chk, hf, MapKept.run_setObj_map _ h1, Result.andThen]
  · have hlt : m < w.heap.size := (Array.getElem?_eq_some_iff.1 h1).1
    simp [Array.getElem?_setIfInBounds, hlt]
  · simp [h2, bytes_ent]
  · intro q
    rw [bytes_look_app, h3 q, hF q]
    by_cases hq : q = k
    · subst hq; simp [hk]
    · simp only [if_neg hq]; cases F q <;> rfl
  · intro g hg
    simp only [Array.getElem?_setIfInBounds]
    rw [if_neg (by omega)]
  · intro B w0 hB h
    refine ⟨h.os, h.tape, h.output, by simpa using h.size, fun k hk' => ?_⟩
    have := h.block k hk'
    rw [← this]
    simp only [Array.getElem?_setIfInBounds]
    rw [if_neg (by omega)]
theorem BMap.get {w : World} {m : Nat} {F : Bool × Bool → Option Value} {k : Bool × Bool} {v : Value} (h : BMap w m F) (hk : F k = some v) :
    (Instr.lookup 56 (.map (some m)) (bytes_key k) false).run Try.prog w = .ok v w := by
  obtain ⟨es, c, xs, h1, h2, h3⟩ := h
  obtain ⟨r, hr, hl⟩ := bytes_find w k xs 0
  rw [h3 k, hk] at hl
  obtain ⟨r, rfl⟩ : ∃ y, r = some y := by cases r <;> simp at hl ⊢
  obtain ⟨i, u⟩ := r
  obtain rfl : u = v := by simpa using hl
  have hf : (Instr.findKey 54 (bytes_key k) es.toList).run Try.prog w = .ok (some (i, u)) w := by
    rw [bytes_fk, h2, hr]
  simp [Instr.lookup, run_underlying bytes_u56, MapKept.run_getObj_map h1, bytes_chk, hf, Result.andThen]
theorem BMap.keep {w w' : World} {m : Nat} {F : Bool × Bool → Option Value} (h : BMap w m F) (hb : Below w.heap.size w w') : BMap w' m F := by
  obtain ⟨es, c, xs, h1, h2, h3⟩ := h
  exact ⟨es, c, xs, (hb.block m (Array.getElem?_eq_some_iff.1 h1).1).trans h1, h2, h3⟩
/-- Blocks of cells are kept. -/
def BKp (w w' : World) : Prop := ∀ (g : Nat) (cs : Array Value) (q : TypeId), w.heap[g]? = some (Obj.cells cs q (0, 0)) → w'.heap[g]? = some (Obj.cells cs q (0, 0))
theorem BKp.of {w w' : World} (hb : Below w.heap.size w w') : BKp w w' := fun g cs q h => (hb.block g (Array.getElem?_eq_some_iff.1 h).1).trans h
/-- Two cells in a block of their own. -/
def BTwo (w : World) (v : Value) (x y : Int) : Prop := ∃ g, v = .slice (some ⟨g, 0, none⟩) 2 2 ∧ w.heap[g]? = some (.cells #[.int .u8 x, .int .u8 y] 5 (0, 0))
theorem BTwo.keep {w w' : World} {v : Value} {x y : Int} (h : BTwo w v x y) (hb : BKp w w') : BTwo w' v x y := by
  obtain ⟨g, h1, h2⟩ := h
  exact ⟨g, h1, hb _ _ _ h2⟩
def BRow (w : World) (B : Nat) (v : Value) (xs : List Int) : Prop := Kd.R (Kd.int .u8) 5 w B (fun _ => True) v xs
theorem BRow.keep {w w' : World} {B : Nat} {v : Value} {xs : List Int} (h : BRow w B v xs) (hb : BKp w w') : BRow w' B v xs :=
  Kd.R_mono (Kd.R_move (Kd.R_bound h) (fun k hk => by
    obtain ⟨_, _, _, q, _, cells, hc⟩ := hk
    exact (hb _ _ _ hc).trans hc.symm)) (fun _ _ => trivial)
theorem bytes_reps (w : World) (B : Nat) (ok : Nat → Prop) : ∀ xs : List Int, Reps ((Kd.int .u8).M w B ok) (Kd.int .u8).sz xs (xs.map (.int .u8))
  | [] => Reps.none _ _
  | x :: xs => Reps.one (show Kd.M (Kd.int .u8) _ _ _ x [.int .u8 x] from rfl) (bytes_reps w B ok xs)
theorem BRow.of_own {w : World} {B : Nat} {v : Value} {xs : List Int} (h : w.ownsRow B 5 1 v xs.length (xs.map (.int .u8))) : BRow w B v xs :=
  ⟨fun _ _ => trivial, _, h, bytes_reps _ _ _ _⟩
set_option maxHeartbeats 8000000 in
set_option maxRecDepth 100000 in
theorem bytes_ahead (w : World) : Calls Try.prog 22 #[] w fun e w' => ∃ v, e = .returned v ∧ BTwo w' v 255 3 ∧ Below w.heap.size w w' := by
  go_enter Try.func22, Try.ntmps22
  go_wp2
  go_ret
  exact ⟨_, rfl, ⟨w.heap.size, rfl, by show (w.heap.push _)[w.heap.size]? = _; exact Array.getElem?_push_size⟩, below_alloc (Below.refl _ _) _⟩
/-- What an operation waits for. -/
def bneed (o : Oper) : List Nat := (o.after.toList.filter (Region.binds .any)).map (·.on)
theorem bready {ops : Array Oper} {L : Array Bool} {i : Nat} {o : Oper} (ho : ops[i]? = some o) : i ∈ Region.ready .any ops L ↔ L.getD i true = false ∧ ∀ j ∈ bneed o, L.getD j false = true := by
  rw [mem_ready]
  constructor
  · rintro ⟨h1, o', h2, h3⟩
    obtain rfl : o = o' := Option.some.inj (ho.symm.trans h2)
    refine ⟨h1, fun j hj => ?_⟩
    obtain ⟨e, he, rfl⟩ := List.mem_map.1 hj
    obtain ⟨he1, he2⟩ := List.mem_filter.1 he
    exact h3 e (Array.mem_toList_iff.1 he1) he2
  · rintro ⟨h1, h2⟩
    exact ⟨h1, o, ho, fun e he hb => h2 _ (List.mem_map.2 ⟨e, List.mem_filter.2 ⟨Array.mem_toList_iff.2 he, hb⟩, rfl⟩)⟩
structure BB where
  (b0 b2 b5 b6 b7 b9 b12 b13 b14 b18 b19 b22 b23 : Bool)
def BB.l (b : BB) : Array Bool := #[b.b0, true, b.b2, true, true, b.b5, b.b6, b.b7, true, b.b9, true, true, b.b12, b.b13, b.b14, true, true, true, b.b18, b.b19, true, true, b.b22, b.b23, false, false]
def BB.none : BB := ⟨false, false, false, false, false, false, false, false, false, false, false, false, false⟩
def BB.all : BB := ⟨true, true, true, true, true, true, true, true, true, true, true, true, true⟩
def bnf (b : Bool) : Nat := cond b 0 1
def BB.n (b : BB) : Nat := bnf b.b0 + bnf b.b2 + bnf b.b5 + bnf b.b6 + bnf b.b7 + bnf b.b9 + bnf b.b12 + bnf b.b13 + bnf b.b14 + bnf b.b18 + bnf b.b19 + bnf b.b22 + bnf b.b23
theorem BB.zero {b : BB} (h : b.n = 0) : b = BB.all := by
  obtain ⟨b0, b2, b5, b6, b7, b9, b12, b13, b14, b18, b19, b22, b23⟩ := b
  simp only [BB.n, Nat.add_eq_zero_iff] at h
  obtain ⟨⟨⟨⟨⟨⟨⟨⟨⟨⟨⟨⟨h1, h2⟩, h3⟩, h4⟩, h5⟩, h6⟩, h7⟩, h8⟩, h9⟩, h10⟩, h11⟩, h12⟩, h13⟩ := h
  have H : ∀ b, bnf b = 0 → b = true := by decide
  rw [H _ h1, H _ h2, H _ h3, H _ h4, H _ h5, H _ h6, H _ h7, H _ h8, H _ h9, H _ h10, H _ h11, H _ h12, H _ h13]
  rfl
/-- What the makers leave. -/
structure BX where
  (m p1 q1 r1 p2 q2 r2 s t : Value)
/-- The operations of the region. -/
structure BOps (ops : Array Oper) : Prop where
  n : ops.size = 26
  o0 : ∃ o, ops[0]? = some o ∧ o.dst = some 32 ∧ o.guard = none ∧ bneed o = [] ∧ o.op = .makeMap 56 none
  o2 : ∃ o, ops[2]? = some o ∧ o.dst = some 34 ∧ o.guard = none ∧ bneed o = [] ∧ o.op = .call { callee := .value (.func 22), args := #[], argTypes := #[] }
  o5 : ∃ o, ops[5]? = some o ∧ o.dst = some 37 ∧ o.guard = none ∧ bneed o = [3, 4] ∧ o.op = .buildSlice 23 2 #[(0, .tmp 35), (1, .tmp 36)]
  o6 : ∃ o, ops[6]? = some o ∧ o.dst = some 38 ∧ o.guard = none ∧ bneed o = [2, 5, 2] ∧ o.op = .call { callee := .builtin .append, args := #[.tmp 34, .tmp 37], argTypes := #[23, 23] }
  o7 : ∃ o, ops[7]? = some o ∧ o.dst = none ∧ o.guard = none ∧ bneed o = [0, 1, 6] ∧ o.op = .insert 56 (.tmp 32) (.tmp 33) (.tmp 38)
  o9 : ∃ o, ops[9]? = some o ∧ o.dst = some 40 ∧ o.guard = none ∧ bneed o = [6] ∧ o.op = .call { callee := .value (.func 22), args := #[], argTypes := #[] }
  o12 : ∃ o, ops[12]? = some o ∧ o.dst = some 43 ∧ o.guard = none ∧ bneed o = [10, 11] ∧ o.op = .buildSlice 23 2 #[(0, .tmp 41), (1, .tmp 42)]
  o13 : ∃ o, ops[13]? = some o ∧ o.dst = some 44 ∧ o.guard = none ∧ bneed o = [9, 12, 9] ∧ o.op = .call { callee := .builtin .append, args := #[.tmp 40, .tmp 43], argTypes := #[23, 23] }
  o14 : ∃ o, ops[14]? = some o ∧ o.dst = none ∧ o.guard = none ∧ bneed o = [0, 8, 13] ∧ o.op = .insert 56 (.tmp 32) (.tmp 39) (.tmp 44)
  o18 : ∃ o, ops[18]? = some o ∧ o.dst = some 48 ∧ o.guard = none ∧ bneed o = [16, 17] ∧ o.op = .buildSlice 23 2 #[(0, .tmp 46), (1, .tmp 47)]
  o19 : ∃ o, ops[19]? = some o ∧ o.dst = none ∧ o.guard = none ∧ bneed o = [0, 15, 18] ∧ o.op = .insert 56 (.tmp 32) (.tmp 45) (.tmp 48)
  o22 : ∃ o, ops[22]? = some o ∧ o.dst = some 51 ∧ o.guard = none ∧ bneed o = [21] ∧ o.op = .buildSlice 23 1 #[(0, .tmp 50)]
  o23 : ∃ o, ops[23]? = some o ∧ o.dst = none ∧ o.guard = none ∧ bneed o = [0, 20, 22] ∧ o.op = .insert 56 (.tmp 32) (.tmp 49) (.tmp 51)
  o24 : ∃ o, ops[24]? = some o ∧ bneed o = List.range 24
  o25 : ∃ o, ops[25]? = some o ∧ 24 ∈ bneed o
/-- The frame. -/
structure BAct (A : BX → Act) (hi lo : Int) : Prop where
  p32 : ∀ x v, (A x).put (some 32) v = A { x with m := v }
  p34 : ∀ x v, (A x).put (some 34) v = A { x with p1 := v }
  p37 : ∀ x v, (A x).put (some 37) v = A { x with q1 := v }
  p38 : ∀ x v, (A x).put (some 38) v = A { x with r1 := v }
  p40 : ∀ x v, (A x).put (some 40) v = A { x with p2 := v }
  p43 : ∀ x v, (A x).put (some 43) v = A { x with q2 := v }
  p44 : ∀ x v, (A x).put (some 44) v = A { x with r2 := v }
  p48 : ∀ x v, (A x).put (some 48) v = A { x with s := v }
  p51 : ∀ x v, (A x).put (some 51) v = A { x with t := v }
  e32 : ∀ x, (A x).eval (.tmp 32) = x.m
  e34 : ∀ x, (A x).eval (.tmp 34) = x.p1
  e37 : ∀ x, (A x).eval (.tmp 37) = x.q1
  e38 : ∀ x, (A x).eval (.tmp 38) = x.r1
  e40 : ∀ x, (A x).eval (.tmp 40) = x.p2
  e43 : ∀ x, (A x).eval (.tmp 43) = x.q2
  e44 : ∀ x, (A x).eval (.tmp 44) = x.r2
  e48 : ∀ x, (A x).eval (.tmp 48) = x.s
  e51 : ∀ x, (A x).eval (.tmp 51) = x.t
  e33 : ∀ x, (A x).eval (.tmp 33) = bytes_key (false, false)
  e39 : ∀ x, (A x).eval (.tmp 39) = bytes_key (false, true)
  e45 : ∀ x, (A x).eval (.tmp 45) = bytes_key (true, false)
  e49 : ∀ x, (A x).eval (.tmp 49) = bytes_key (true, true)
  e35 : ∀ x, (A x).eval (.tmp 35) = .int .u8 hi
  e36 : ∀ x, (A x).eval (.tmp 36) = .int .u8 lo
  e41 : ∀ x, (A x).eval (.tmp 41) = .int .u8 hi
  e42 : ∀ x, (A x).eval (.tmp 42) = .int .u8 lo
  e46 : ∀ x, (A x).eval (.tmp 46) = .int .u8 hi
  e47 : ∀ x, (A x).eval (.tmp 47) = .int .u8 lo
  e50 : ∀ x, (A x).eval (.tmp 50) = .int .u8 lo
def BF (b : BB) (x : BX) (k : Bool × Bool) : Option Value :=
  if k = (false, false) then (if b.b7 = true then some x.r1 else none) else if k = (false, true) then (if b.b14 = true then some x.r2 else none)
  else if k = (true, false) then (if b.b19 = true then some x.s else none) else (if b.b23 = true then some x.t else none)
structure BI (W0 : World) (gb : Nat) (box : Array Value) (hi lo : Int) (b : BB) (x : BX) (w : World) : Prop where
  below : Below W0.heap.size W0 w
  bx : w.heap[gb]? = some (Obj.cells box 25 (0, 0))
  c7 : b.b7 = true → b.b6 = true ∧ b.b0 = true
  c14 : b.b14 = true → b.b13 = true ∧ b.b0 = true
  c19 : b.b19 = true → b.b18 = true ∧ b.b0 = true
  c23 : b.b23 = true → b.b22 = true ∧ b.b0 = true
  f0 : b.b0 = true → ∃ m, x.m = .map (some m) ∧ W0.heap.size ≤ m ∧ BMap w m (BF b x)
  f2 : b.b2 = true → BTwo w x.p1 255 3
  f5 : b.b5 = true → BTwo w x.q1 hi lo
  f6 : b.b6 = true → BRow w W0.heap.size x.r1 [255, 3, hi, lo]
  f9 : b.b9 = true → BTwo w x.p2 255 3
  f12 : b.b12 = true → BTwo w x.q2 hi lo
  f13 : b.b13 = true → BRow w W0.heap.size x.r2 [255, 3, hi, lo]
  f18 : b.b18 = true → BRow w W0.heap.size x.s [hi, lo]
  f22 : b.b22 = true → BRow w W0.heap.size x.t [lo]
theorem BI.keep {W0 : World} {gb : Nat} {box : Array Value} {hi lo : Int} {b : BB} {x : BX} {w w' : World} (h : BI W0 gb box hi lo b x w) (hb : Below w.heap.size w w') : BI W0 gb box hi lo b x w' where
  below := below_step h.below hb
  bx := BKp.of hb _ _ _ h.bx
  c7 := h.c7
  c14 := h.c14
  c19 := h.c19
  c23 := h.c23
  f0 := fun q => by
    obtain ⟨m, h1, h2, h3⟩ := h.f0 q
    exact ⟨m, h1, h2, h3.keep hb⟩
  f2 := fun q => (h.f2 q).keep (BKp.of hb)
  f5 := fun q => (h.f5 q).keep (BKp.of hb)
  f6 := fun q => (h.f6 q).keep (BKp.of hb)
  f9 := fun q => (h.f9 q).keep (BKp.of hb)
  f12 := fun q => (h.f12 q).keep (BKp.of hb)
  f13 := fun q => (h.f13 q).keep (BKp.of hb)
  f18 := fun q => (h.f18 q).keep (BKp.of hb)
  f22 := fun q => (h.f22 q).keep (BKp.of hb)
/-- An entry more. -/
theorem BI.put {W0 : World} {gb : Nat} {box : Array Value} {hi lo : Int} {b b' : BB} {x : BX} {w : World} {k : Bool × Bool} {v : Value} (h : BI W0 gb box hi lo b x w) (h0 : b.b0 = true)
    (hk : BF b x k = none) (hF : ∀ q, BF b' x q = if q = k then some v else BF b x q)
    (e : b'.b0 = b.b0 ∧ b'.b2 = b.b2 ∧ b'.b5 = b.b5 ∧ b'.b6 = b.b6 ∧ b'.b9 = b.b9 ∧ b'.b12 = b.b12 ∧ b'.b13 = b.b13 ∧ b'.b18 = b.b18 ∧ b'.b22 = b.b22)
    (c7 : b'.b7 = true → b.b6 = true) (c14 : b'.b14 = true → b.b13 = true) (c19 : b'.b19 = true → b.b18 = true) (c23 : b'.b23 = true → b.b22 = true) :
    ∃ w1, (Instr.mapUpdate 56 x.m (bytes_key k) v).run Try.prog w = .ok () w1 ∧ BI W0 gb box hi lo b' x w1 := by
  obtain ⟨m, h1, h2, h3⟩ := h.f0 h0
  obtain ⟨w1, r1, r2, r3, r4, r5⟩ := h3.put hk hF
  have hkp : BKp w w1 := fun g cs q hg => by
    rw [r3 g (fun hgm => by
      obtain ⟨es, c, xs, hm, _⟩ := h3
      rw [hgm, hm] at hg
      cases hg)]
    exact hg
  obtain ⟨e0, e2, e5, e6, e9, e12, e13, e18, e22⟩ := e
  refine ⟨w1, by rw [h1]; exact r1, r5 _ _ h2 h.below, hkp _ _ _ h.bx, ?_, ?_, ?_, ?_, fun _ => ⟨m, h1, h2, r2⟩, ?_, ?_, ?_, ?_, ?_, ?_, ?_, ?_⟩
  · exact fun q => ⟨e6 ▸ c7 q, e0 ▸ h0⟩
  · exact fun q => ⟨e13 ▸ c14 q, e0 ▸ h0⟩
  · exact fun q => ⟨e18 ▸ c19 q, e0 ▸ h0⟩
  · exact fun q => ⟨e22 ▸ c23 q, e0 ▸ h0⟩
  · exact fun q => (h.f2 (e2 ▸ q)).keep hkp
  · exact fun q => (h.f5 (e5 ▸ q)).keep hkp
  · exact fun q => (h.f6 (e6 ▸ q)).keep hkp
  · exact fun q => (h.f9 (e9 ▸ q)).keep hkp
  · exact fun q => (h.f12 (e12 ▸ q)).keep hkp
  · exact fun q => (h.f13 (e13 ▸ q)).keep hkp
  · exact fun q => (h.f18 (e18 ▸ q)).keep hkp
  · exact fun q => (h.f22 (e22 ▸ q)).keep hkp
theorem bytes_i5 : ∃ i, Try.prog.info? 5 = some i ∧ i.zero = some (.int .u8 0) ∧ i.size = 1 ∧ i.bytes = 1 := by
  have h := slices_Grow_info
  obtain ⟨i, h1, h2⟩ := Option.map_eq_some_iff.1 h
  simp only [Prod.mk.injEq] at h2
  exact ⟨i, h1, h2.1, h2.2.1, h2.2.2⟩
theorem bytes_u23 : Try.prog.underlying 23 = some (.slice 5) := by kernel_rfl
theorem bytes_wanted {o : Oper} {f : Nat → Option Bool} (hg : o.guard = none) : Region.wanted o f = true := by simp [Region.wanted, hg]
theorem bytes_lit {o : Oper} {a : Act} {w : World} {n : Nat} {ps : Array (Nat × Operand)} {cs : Array Value} (hop : o.op = .buildSlice 23 n ps)
    (h : (Instr.buildSlice 23 n (ps.map fun p => (p.1, a.eval p.2))).run Try.prog w = .ok (.slice (some ⟨w.heap.size, 0, none⟩) n n) (w.alloc (.cells cs 5))) :
    (execOp a.eval o).run Try.prog w = .ok (.value (.slice (some ⟨w.heap.size, 0, none⟩) n n)) (w.alloc (.cells cs 5)) := by
  unfold execOp
  rw [hop]
  simp [h, Result.andThen]
theorem bytes_lit2 (w : World) (x y : Int) : (Instr.buildSlice 23 2 #[(0, .int .u8 x), (1, .int .u8 y)]).run Try.prog w = .ok (.slice (some ⟨w.heap.size, 0, none⟩) 2 2) (w.alloc (.cells #[.int .u8 x, .int .u8 y] 5)) := by kernel_rfl
theorem bytes_lit1 (w : World) (x : Int) : (Instr.buildSlice 23 1 #[(0, .int .u8 x)]).run Try.prog w = .ok (.slice (some ⟨w.heap.size, 0, none⟩) 1 1) (w.alloc (.cells #[.int .u8 x] 5)) := by kernel_rfl
theorem bytes_new (w : World) (o : Obj) : (w.alloc o).heap[w.heap.size]? = some o := Array.getElem?_push_size
theorem bytes_row {w : World} {B : Nat} (hB : B ≤ w.heap.size) (xs : List Int) (hl : xs.length ≤ 100) : BRow (w.alloc (.cells (xs.map (.int .u8)).toArray 5)) B (.slice (some ⟨w.heap.size, 0, none⟩) xs.length xs.length) xs :=
  BRow.of_own ⟨by simp, .inr ⟨w.heap.size, xs.length, (xs.map (.int .u8)).toArray, rfl, hB, bytes_new _ _, Nat.le_refl _, by simp only [maxLen]; omega, by simp, by rw [Nat.mul_one]; exact List.take_of_length_le (by simp)⟩⟩
theorem bytes_nob {b c : Bool} (h : b = true → c = true) (u : c = false) : b = false := by
  cases b
  · rfl
  · rw [h rfl] at u
    cases u

section
variable {ops : Array Oper} {Q : Exit → Act → World → Prop} {A : BX → Act} {hi lo : Int} {W0 : World} {gb : Nat} {box : Array Value}
abbrev BNext (ops : Array Oper) (Q : Exit → Act → World → Prop) (A : BX → Act) (hi lo : Int) (W0 : World) (gb : Nat) (box : Array Value) (n : Nat) : Prop :=
  ∀ b x w, BB.n b = n → BI W0 gb box hi lo b x w → wpAnyLast Try.prog .any ops Q (fun _ => True) [] (n + 2) b.l (A x) w
abbrev BGo (ops : Array Oper) (Q : Exit → Act → World → Prop) (n : Nat) (b : BB) (i : Nat) : Act → World → Prop := fun a' w' => (i ∉ ([] : List Nat) → True → True) ∧ wpAnyLast Try.prog .any ops Q (fun _ => True) [] (n + 2) (b.l.setIfInBounds i true) a' w'
theorem bnf_f {b : Bool} (h : b = false) : bnf b = 1 := by subst h; rfl
theorem bnf_t : bnf true = 0 := rfl
theorem bstep0 (O : BOps ops) (HA : BAct A hi lo) {n : Nat} (IH : BNext ops Q A hi lo W0 gb box n) {b : BB} {x : BX} {w : World} (hb : b.n = n + 1) (h : BI W0 gb box hi lo b x w) (hr : 0 ∈ Region.ready .any ops b.l) :
    wpOp Try.prog ops Q 0 (BGo ops Q n b 0) (A x) w := by
  obtain ⟨o, ho, hd, hg, hn, hop⟩ := O.o0
  obtain ⟨u, v⟩ := (bready ho).1 hr
  replace u : b.b0 = false := u
  rw [hn] at v
  refine wpOp_step ho fun K hK => ?_
  rw [hd]
  refine value_ (N := some 32) (v := .map (some w.heap.size)) (w1 := w.alloc (.map #[] 0)) (bytes_wanted hg) hd ?_ (hK _ _ ⟨fun _ _ => trivial, ?_⟩)
  · unfold execOp
    rw [hop]
    simp [run_makeMap, Result.andThen]
  · rw [HA.p32]
    have hk := h.keep (below_alloc (Below.refl _ w) (.map #[] 0))
    have n7 : b.b7 = false := bytes_nob (fun q => (h.c7 q).2) u
    have n14 : b.b14 = false := bytes_nob (fun q => (h.c14 q).2) u
    have n19 : b.b19 = false := bytes_nob (fun q => (h.c19 q).2) u
    have n23 : b.b23 = false := bytes_nob (fun q => (h.c23 q).2) u
    refine IH { b with b0 := true } { x with m := .map (some w.heap.size) } _ (by have u1 := bnf_f u; simp only [BB.n, bnf_t] at hb ⊢; omega) { hk with c7 := fun q => ⟨(h.c7 q).1, rfl⟩, c14 := fun q => ⟨(h.c14 q).1, rfl⟩, c19 := fun q => ⟨(h.c19 q).1, rfl⟩, c23 := fun q => ⟨(h.c23 q).1, rfl⟩, f0 := fun _ => ⟨w.heap.size, rfl, h.below.size, #[], 0, [], bytes_new _ _, rfl, fun k => ?_⟩ }
    simp [BF, bytes_look, n7, n14, n19, n23]
theorem bstep2 (O : BOps ops) (HA : BAct A hi lo) {n : Nat} (IH : BNext ops Q A hi lo W0 gb box n) {b : BB} {x : BX} {w : World} (hb : b.n = n + 1) (h : BI W0 gb box hi lo b x w) (hr : 2 ∈ Region.ready .any ops b.l) :
    wpOp Try.prog ops Q 2 (BGo ops Q n b 2) (A x) w := by
  obtain ⟨o, ho, hd, hg, hn, hop⟩ := O.o2
  obtain ⟨u, v⟩ := (bready ho).1 hr
  replace u : b.b2 = false := u
  rw [hn] at v
  refine wpOp_step ho fun K hK => ?_
  rw [hd]
  refine goes_ (N := some 34) Try.func22 (by kernel_rfl) rfl #[] (bytes_wanted hg) hd hop (by simp) ((bytes_ahead w).mono fun e w' hh => ?_)
  obtain ⟨y, rfl, h1, h2⟩ := hh
  refine ⟨y, rfl, hK _ _ ⟨fun _ _ => trivial, ?_⟩⟩
  rw [HA.p34]
  have hk := h.keep h2
  exact IH { b with b2 := true } { x with p1 := y } _ (by have u1 := bnf_f u; simp only [BB.n, bnf_t] at hb ⊢; omega) { hk with f2 := fun _ => h1 }
theorem bstep9 (O : BOps ops) (HA : BAct A hi lo) {n : Nat} (IH : BNext ops Q A hi lo W0 gb box n) {b : BB} {x : BX} {w : World} (hb : b.n = n + 1) (h : BI W0 gb box hi lo b x w) (hr : 9 ∈ Region.ready .any ops b.l) :
    wpOp Try.prog ops Q 9 (BGo ops Q n b 9) (A x) w := by
  obtain ⟨o, ho, hd, hg, hn, hop⟩ := O.o9
  obtain ⟨u, v⟩ := (bready ho).1 hr
  replace u : b.b9 = false := u
  rw [hn] at v
  refine wpOp_step ho fun K hK => ?_
  rw [hd]
  refine goes_ (N := some 40) Try.func22 (by kernel_rfl) rfl #[] (bytes_wanted hg) hd hop (by simp) ((bytes_ahead w).mono fun e w' hh => ?_)
  obtain ⟨y, rfl, h1, h2⟩ := hh
  refine ⟨y, rfl, hK _ _ ⟨fun _ _ => trivial, ?_⟩⟩
  rw [HA.p40]
  have hk := h.keep h2
  exact IH { b with b9 := true } { x with p2 := y } _ (by have u1 := bnf_f u; simp only [BB.n, bnf_t] at hb ⊢; omega) { hk with f9 := fun _ => h1 }
theorem bstep5 (O : BOps ops) (HA : BAct A hi lo) {n : Nat} (IH : BNext ops Q A hi lo W0 gb box n) {b : BB} {x : BX} {w : World} (hb : b.n = n + 1) (h : BI W0 gb box hi lo b x w) (hr : 5 ∈ Region.ready .any ops b.l) :
    wpOp Try.prog ops Q 5 (BGo ops Q n b 5) (A x) w := by
  obtain ⟨o, ho, hd, hg, hn, hop⟩ := O.o5
  obtain ⟨u, v⟩ := (bready ho).1 hr
  replace u : b.b5 = false := u
  rw [hn] at v
  refine wpOp_step ho fun K hK => ?_
  rw [hd]
  have hrun := bytes_lit (a := A x) (w := w) (cs := #[.int .u8 hi, .int .u8 lo]) hop (by simp only [List.map_toArray, List.map_cons, List.map_nil, HA.e35, HA.e36]; exact bytes_lit2 _ _ _)
  refine value_ (N := some 37) (bytes_wanted hg) hd hrun (hK _ _ ⟨fun _ _ => trivial, ?_⟩)
  rw [HA.p37]
  have hk := h.keep (below_alloc (Below.refl _ w) (.cells #[.int .u8 hi, .int .u8 lo] 5))
  exact IH { b with b5 := true } { x with q1 := .slice (some ⟨w.heap.size, 0, none⟩) 2 2 } _ (by have u1 := bnf_f u; simp only [BB.n, bnf_t] at hb ⊢; omega) { hk with f5 := fun _ => ⟨_, rfl, bytes_new _ _⟩ }
theorem bstep12 (O : BOps ops) (HA : BAct A hi lo) {n : Nat} (IH : BNext ops Q A hi lo W0 gb box n) {b : BB} {x : BX} {w : World} (hb : b.n = n + 1) (h : BI W0 gb box hi lo b x w) (hr : 12 ∈ Region.ready .any ops b.l) :
    wpOp Try.prog ops Q 12 (BGo ops Q n b 12) (A x) w := by
  obtain ⟨o, ho, hd, hg, hn, hop⟩ := O.o12
  obtain ⟨u, v⟩ := (bready ho).1 hr
  replace u : b.b12 = false := u
  rw [hn] at v
  refine wpOp_step ho fun K hK => ?_
  rw [hd]
  have hrun := bytes_lit (a := A x) (w := w) (cs := #[.int .u8 hi, .int .u8 lo]) hop (by simp only [List.map_toArray, List.map_cons, List.map_nil, HA.e41, HA.e42]; exact bytes_lit2 _ _ _)
  refine value_ (N := some 43) (bytes_wanted hg) hd hrun (hK _ _ ⟨fun _ _ => trivial, ?_⟩)
  rw [HA.p43]
  have hk := h.keep (below_alloc (Below.refl _ w) (.cells #[.int .u8 hi, .int .u8 lo] 5))
  exact IH { b with b12 := true } { x with q2 := .slice (some ⟨w.heap.size, 0, none⟩) 2 2 } _ (by have u1 := bnf_f u; simp only [BB.n, bnf_t] at hb ⊢; omega) { hk with f12 := fun _ => ⟨_, rfl, bytes_new _ _⟩ }
theorem bstep6 (O : BOps ops) (HA : BAct A hi lo) {n : Nat} (IH : BNext ops Q A hi lo W0 gb box n) {b : BB} {x : BX} {w : World} (hb : b.n = n + 1) (h : BI W0 gb box hi lo b x w) (hr : 6 ∈ Region.ready .any ops b.l) :
    wpOp Try.prog ops Q 6 (BGo ops Q n b 6) (A x) w := by
  obtain ⟨o, ho, hd, hg, hn, hop⟩ := O.o6
  obtain ⟨u, v⟩ := (bready ho).1 hr
  replace u : b.b6 = false := u
  rw [hn] at v
  refine wpOp_step ho fun K hK => ?_
  rw [hd]
  have v1 : b.b2 = true := v 2 (by simp)
  have v2 : b.b5 = true := v 5 (by simp)
  obtain ⟨g1, y1, z1⟩ := h.f2 v1
  obtain ⟨g2, y2, z2⟩ := h.f5 v2
  obtain ⟨i, hi1, hi2, hi3, hi4⟩ := bytes_i5
  refine step_append_grows hg (.tmp 34) (.tmp 37) 23 hop 5 i (.int .u8 0) 1 1 bytes_u23 hi1 hi2 hi3 hi4 rfl (by decide) (some ⟨g1, 0, none⟩) 2 2 [.int .u8 255, .int .u8 3] (by rw [HA.e34, y1]) (fun q => by cases q) rfl ?_
    ⟨g2, 0, none⟩ 2 2 [.int .u8 hi, .int .u8 lo] (by rw [HA.e37, y2]) rfl ?_ (by intro q hq; simp only [List.mem_cons, List.not_mem_nil, or_false] at hq; rcases hq with rfl | rfl <;> rfl) (by decide) (by decide) (by decide) ?_
  · intro q hq j k hj
    obtain rfl := Option.some.inj hq
    rcases j with _ | _ | j
    · exact (bk2 z1).1.trans (by simpa using hj)
    · exact (bk2 z1).2.1.trans (by simpa using hj)
    · simp at hj
  · intro j k hj
    rcases j with _ | _ | j
    · exact (bk2 z2).1.trans (by simpa using hj)
    · exact (bk2 z2).2.1.trans (by simpa using hj)
    · simp at hj
  · intro y w' hown hgr
    refine hK _ _ ⟨fun _ _ => trivial, ?_⟩
    rw [hd, HA.p38]
    have hb' : Below w.heap.size w w' := ⟨hgr.os, hgr.tape, hgr.output, hgr.size, fun k hk => hgr.block k hk (by simp)⟩
    have hk := h.keep hb'
    have n7 : b.b7 = false := bytes_nob (fun q => (h.c7 q).1) u
    refine IH { b with b6 := true } { x with r1 := y } _ (by have u1 := bnf_f u; simp only [BB.n, bnf_t] at hb ⊢; omega) { hk with c7 := fun q => absurd q (by rw [n7]; simp), f0 := fun q => ?_, f6 := fun _ => Kd.R_lower (BRow.of_own (xs := [255, 3, hi, lo]) hown) h.below.size }
    obtain ⟨m, m1, m2, m3⟩ := hk.f0 q
    refine ⟨m, m1, m2, ?_⟩
    have : BF { b with b6 := true } { x with r1 := y } = BF b x := by funext k; simp [BF, n7]
    rw [this]
    exact m3
theorem bstep13 (O : BOps ops) (HA : BAct A hi lo) {n : Nat} (IH : BNext ops Q A hi lo W0 gb box n) {b : BB} {x : BX} {w : World} (hb : b.n = n + 1) (h : BI W0 gb box hi lo b x w) (hr : 13 ∈ Region.ready .any ops b.l) :
    wpOp Try.prog ops Q 13 (BGo ops Q n b 13) (A x) w := by
  obtain ⟨o, ho, hd, hg, hn, hop⟩ := O.o13
  obtain ⟨u, v⟩ := (bready ho).1 hr
  replace u : b.b13 = false := u
  rw [hn] at v
  refine wpOp_step ho fun K hK => ?_
  rw [hd]
  have v1 : b.b9 = true := v 9 (by simp)
  have v2 : b.b12 = true := v 12 (by simp)
  obtain ⟨g1, y1, z1⟩ := h.f9 v1
  obtain ⟨g2, y2, z2⟩ := h.f12 v2
  obtain ⟨i, hi1, hi2, hi3, hi4⟩ := bytes_i5
  refine step_append_grows hg (.tmp 40) (.tmp 43) 23 hop 5 i (.int .u8 0) 1 1 bytes_u23 hi1 hi2 hi3 hi4 rfl (by decide) (some ⟨g1, 0, none⟩) 2 2 [.int .u8 255, .int .u8 3] (by rw [HA.e40, y1]) (fun q => by cases q) rfl ?_
    ⟨g2, 0, none⟩ 2 2 [.int .u8 hi, .int .u8 lo] (by rw [HA.e43, y2]) rfl ?_ (by intro q hq; simp only [List.mem_cons, List.not_mem_nil, or_false] at hq; rcases hq with rfl | rfl <;> rfl) (by decide) (by decide) (by decide) ?_
  · intro q hq j k hj
    obtain rfl := Option.some.inj hq
    rcases j with _ | _ | j
    · exact (bk2 z1).1.trans (by simpa using hj)
    · exact (bk2 z1).2.1.trans (by simpa using hj)
    · simp at hj
  · intro j k hj
    rcases j with _ | _ | j
    · exact (bk2 z2).1.trans (by simpa using hj)
    · exact (bk2 z2).2.1.trans (by simpa using hj)
    · simp at hj
  · intro y w' hown hgr
    refine hK _ _ ⟨fun _ _ => trivial, ?_⟩
    rw [hd, HA.p44]
    have hb' : Below w.heap.size w w' := ⟨hgr.os, hgr.tape, hgr.output, hgr.size, fun k hk => hgr.block k hk (by simp)⟩
    have hk := h.keep hb'
    have n7 : b.b14 = false := bytes_nob (fun q => (h.c14 q).1) u
    refine IH { b with b13 := true } { x with r2 := y } _ (by have u1 := bnf_f u; simp only [BB.n, bnf_t] at hb ⊢; omega) { hk with c14 := fun q => absurd q (by rw [n7]; simp), f0 := fun q => ?_, f13 := fun _ => Kd.R_lower (BRow.of_own (xs := [255, 3, hi, lo]) hown) h.below.size }
    obtain ⟨m, m1, m2, m3⟩ := hk.f0 q
    refine ⟨m, m1, m2, ?_⟩
    have : BF { b with b13 := true } { x with r2 := y } = BF b x := by funext k; simp [BF, n7]
    rw [this]
    exact m3
theorem bstep18 (O : BOps ops) (HA : BAct A hi lo) {n : Nat} (IH : BNext ops Q A hi lo W0 gb box n) {b : BB} {x : BX} {w : World} (hb : b.n = n + 1) (h : BI W0 gb box hi lo b x w) (hr : 18 ∈ Region.ready .any ops b.l) :
    wpOp Try.prog ops Q 18 (BGo ops Q n b 18) (A x) w := by
  obtain ⟨o, ho, hd, hg, hn, hop⟩ := O.o18
  obtain ⟨u, v⟩ := (bready ho).1 hr
  replace u : b.b18 = false := u
  rw [hn] at v
  refine wpOp_step ho fun K hK => ?_
  rw [hd]
  have hrun := bytes_lit (a := A x) (w := w) (cs := ([hi, lo].map (Value.int .u8)).toArray) hop (by simp only [List.map_toArray, List.map_cons, List.map_nil, HA.e46, HA.e47]; exact bytes_lit2 _ _ _)
  refine value_ (N := some 48) (bytes_wanted hg) hd hrun (hK _ _ ⟨fun _ _ => trivial, ?_⟩)
  rw [HA.p48]
  have hk := h.keep (below_alloc (Below.refl _ w) (.cells ([hi, lo].map (Value.int .u8)).toArray 5))
  have n7 : b.b19 = false := bytes_nob (fun q => (h.c19 q).1) u
  refine IH { b with b18 := true } { x with s := .slice (some ⟨w.heap.size, 0, none⟩) 2 2 } _ (by have u1 := bnf_f u; simp only [BB.n, bnf_t] at hb ⊢; omega) { hk with c19 := fun q => absurd q (by rw [n7]; simp), f0 := fun q => ?_, f18 := fun _ => bytes_row h.below.size [hi, lo] (by simp) }
  obtain ⟨m, m1, m2, m3⟩ := hk.f0 q
  refine ⟨m, m1, m2, ?_⟩
  have : BF { b with b18 := true } { x with s := .slice (some ⟨w.heap.size, 0, none⟩) 2 2 } = BF b x := by funext k; simp [BF, n7]
  rw [this]
  exact m3
theorem bstep22 (O : BOps ops) (HA : BAct A hi lo) {n : Nat} (IH : BNext ops Q A hi lo W0 gb box n) {b : BB} {x : BX} {w : World} (hb : b.n = n + 1) (h : BI W0 gb box hi lo b x w) (hr : 22 ∈ Region.ready .any ops b.l) :
    wpOp Try.prog ops Q 22 (BGo ops Q n b 22) (A x) w := by
  obtain ⟨o, ho, hd, hg, hn, hop⟩ := O.o22
  obtain ⟨u, v⟩ := (bready ho).1 hr
  replace u : b.b22 = false := u
  rw [hn] at v
  refine wpOp_step ho fun K hK => ?_
  rw [hd]
  have hrun := bytes_lit (a := A x) (w := w) (cs := ([lo].map (Value.int .u8)).toArray) hop (by simp only [List.map_toArray, List.map_cons, List.map_nil, HA.e50]; exact bytes_lit1 _ _)
  refine value_ (N := some 51) (bytes_wanted hg) hd hrun (hK _ _ ⟨fun _ _ => trivial, ?_⟩)
  rw [HA.p51]
  have hk := h.keep (below_alloc (Below.refl _ w) (.cells ([lo].map (Value.int .u8)).toArray 5))
  have n7 : b.b23 = false := bytes_nob (fun q => (h.c23 q).1) u
  refine IH { b with b22 := true } { x with t := .slice (some ⟨w.heap.size, 0, none⟩) 1 1 } _ (by have u1 := bnf_f u; simp only [BB.n, bnf_t] at hb ⊢; omega) { hk with c23 := fun q => absurd q (by rw [n7]; simp), f0 := fun q => ?_, f22 := fun _ => bytes_row h.below.size [lo] (by simp) }
  obtain ⟨m, m1, m2, m3⟩ := hk.f0 q
  refine ⟨m, m1, m2, ?_⟩
  have : BF { b with b22 := true } { x with t := .slice (some ⟨w.heap.size, 0, none⟩) 1 1 } = BF b x := by funext k; simp [BF, n7]
  rw [this]
  exact m3
theorem bstep7 (O : BOps ops) (HA : BAct A hi lo) {n : Nat} (IH : BNext ops Q A hi lo W0 gb box n) {b : BB} {x : BX} {w : World} (hb : b.n = n + 1) (h : BI W0 gb box hi lo b x w) (hr : 7 ∈ Region.ready .any ops b.l) :
    wpOp Try.prog ops Q 7 (BGo ops Q n b 7) (A x) w := by
  obtain ⟨o, ho, hd, hg, hn, hop⟩ := O.o7
  obtain ⟨u, v⟩ := (bready ho).1 hr
  replace u : b.b7 = false := u
  rw [hn] at v
  refine wpOp_step ho fun K hK => ?_
  rw [hd]
  have v1 : b.b0 = true := v 0 (by simp)
  have v2 : b.b6 = true := v 6 (by simp)
  obtain ⟨w1, r1, r2⟩ := h.put (b' := { b with b7 := true }) (k := (false, false)) (v := x.r1) v1 (by simp [BF, u]) (fun q => by obtain ⟨q1, q2⟩ := q; cases q1 <;> cases q2 <;> simp [BF]) ⟨rfl, rfl, rfl, rfl, rfl, rfl, rfl, rfl, rfl⟩ (fun _ => v2) (fun q => (h.c14 q).1) (fun q => (h.c19 q).1) (fun q => (h.c23 q).1)
  refine skip_ (w1 := w1) (bytes_wanted hg) hd ?_ (hK _ _ ⟨fun _ _ => trivial, ?_⟩)
  · unfold execOp
    rw [hop]
    simp [HA.e32, HA.e33, HA.e38, r1, Result.andThen]
  · exact IH { b with b7 := true } x _ (by have u1 := bnf_f u; simp only [BB.n, bnf_t] at hb ⊢; omega) r2
theorem bstep14 (O : BOps ops) (HA : BAct A hi lo) {n : Nat} (IH : BNext ops Q A hi lo W0 gb box n) {b : BB} {x : BX} {w : World} (hb : b.n = n + 1) (h : BI W0 gb box hi lo b x w) (hr : 14 ∈ Region.ready .any ops b.l) :
    wpOp Try.prog ops Q 14 (BGo ops Q n b 14) (A x) w := by
  obtain ⟨o, ho, hd, hg, hn, hop⟩ := O.o14
  obtain ⟨u, v⟩ := (bready ho).1 hr
  replace u : b.b14 = false := u
  rw [hn] at v
  refine wpOp_step ho fun K hK => ?_
  rw [hd]
  have v1 : b.b0 = true := v 0 (by simp)
  have v2 : b.b13 = true := v 13 (by simp)
  obtain ⟨w1, r1, r2⟩ := h.put (b' := { b with b14 := true }) (k := (false, true)) (v := x.r2) v1 (by simp [BF, u]) (fun q => by obtain ⟨q1, q2⟩ := q; cases q1 <;> cases q2 <;> simp [BF]) ⟨rfl, rfl, rfl, rfl, rfl, rfl, rfl, rfl, rfl⟩ (fun q => (h.c7 q).1) (fun _ => v2) (fun q => (h.c19 q).1) (fun q => (h.c23 q).1)
  refine skip_ (w1 := w1) (bytes_wanted hg) hd ?_ (hK _ _ ⟨fun _ _ => trivial, ?_⟩)
  · unfold execOp
    rw [hop]
    simp [HA.e32, HA.e39, HA.e44, r1, Result.andThen]
  · exact IH { b with b14 := true } x _ (by have u1 := bnf_f u; simp only [BB.n, bnf_t] at hb ⊢; omega) r2
theorem bstep19 (O : BOps ops) (HA : BAct A hi lo) {n : Nat} (IH : BNext ops Q A hi lo W0 gb box n) {b : BB} {x : BX} {w : World} (hb : b.n = n + 1) (h : BI W0 gb box hi lo b x w) (hr : 19 ∈ Region.ready .any ops b.l) :
    wpOp Try.prog ops Q 19 (BGo ops Q n b 19) (A x) w := by
  obtain ⟨o, ho, hd, hg, hn, hop⟩ := O.o19
  obtain ⟨u, v⟩ := (bready ho).1 hr
  replace u : b.b19 = false := u
  rw [hn] at v
  refine wpOp_step ho fun K hK => ?_
  rw [hd]
  have v1 : b.b0 = true := v 0 (by simp)
  have v2 : b.b18 = true := v 18 (by simp)
  obtain ⟨w1, r1, r2⟩ := h.put (b' := { b with b19 := true }) (k := (true, false)) (v := x.s) v1 (by simp [BF, u]) (fun q => by obtain ⟨q1, q2⟩ := q; cases q1 <;> cases q2 <;> simp [BF]) ⟨rfl, rfl, rfl, rfl, rfl, rfl, rfl, rfl, rfl⟩ (fun q => (h.c7 q).1) (fun q => (h.c14 q).1) (fun _ => v2) (fun q => (h.c23 q).1)
  refine skip_ (w1 := w1) (bytes_wanted hg) hd ?_ (hK _ _ ⟨fun _ _ => trivial, ?_⟩)
  · unfold execOp
    rw [hop]
    simp [HA.e32, HA.e45, HA.e48, r1, Result.andThen]
  · exact IH { b with b19 := true } x _ (by have u1 := bnf_f u; simp only [BB.n, bnf_t] at hb ⊢; omega) r2
theorem bstep23 (O : BOps ops) (HA : BAct A hi lo) {n : Nat} (IH : BNext ops Q A hi lo W0 gb box n) {b : BB} {x : BX} {w : World} (hb : b.n = n + 1) (h : BI W0 gb box hi lo b x w) (hr : 23 ∈ Region.ready .any ops b.l) :
    wpOp Try.prog ops Q 23 (BGo ops Q n b 23) (A x) w := by
  obtain ⟨o, ho, hd, hg, hn, hop⟩ := O.o23
  obtain ⟨u, v⟩ := (bready ho).1 hr
  replace u : b.b23 = false := u
  rw [hn] at v
  refine wpOp_step ho fun K hK => ?_
  rw [hd]
  have v1 : b.b0 = true := v 0 (by simp)
  have v2 : b.b22 = true := v 22 (by simp)
  obtain ⟨w1, r1, r2⟩ := h.put (b' := { b with b23 := true }) (k := (true, true)) (v := x.t) v1 (by simp [BF, u]) (fun q => by obtain ⟨q1, q2⟩ := q; cases q1 <;> cases q2 <;> simp [BF]) ⟨rfl, rfl, rfl, rfl, rfl, rfl, rfl, rfl, rfl⟩ (fun q => (h.c7 q).1) (fun q => (h.c14 q).1) (fun q => (h.c19 q).1) (fun _ => v2)
  refine skip_ (w1 := w1) (bytes_wanted hg) hd ?_ (hK _ _ ⟨fun _ _ => trivial, ?_⟩)
  · unfold execOp
    rw [hop]
    simp [HA.e32, HA.e49, HA.e51, r1, Result.andThen]
  · exact IH { b with b23 := true } x _ (by have u1 := bnf_f u; simp only [BB.n, bnf_t] at hb ⊢; omega) r2
theorem bne (O : BOps ops) {b : BB} {n : Nat} (hb : b.n = n + 1) : Region.ready .any ops b.l ≠ [] := by
  intro hr
  have t0 : b.b0 = true := by
    obtain ⟨o, ho, -, -, hn, -⟩ := O.o0
    cases q : b.b0 with
    | true => rfl
    | false =>
      have : 0 ∈ Region.ready .any ops b.l := (bready ho).2 ⟨q, by rw [hn]; simp [BB.l]⟩
      rw [hr] at this
      cases this
  have t2 : b.b2 = true := by
    obtain ⟨o, ho, -, -, hn, -⟩ := O.o2
    cases q : b.b2 with
    | true => rfl
    | false =>
      have : 2 ∈ Region.ready .any ops b.l := (bready ho).2 ⟨q, by rw [hn]; simp [BB.l]⟩
      rw [hr] at this
      cases this
  have t5 : b.b5 = true := by
    obtain ⟨o, ho, -, -, hn, -⟩ := O.o5
    cases q : b.b5 with
    | true => rfl
    | false =>
      have : 5 ∈ Region.ready .any ops b.l := (bready ho).2 ⟨q, by rw [hn]; simp [BB.l]⟩
      rw [hr] at this
      cases this
  have t6 : b.b6 = true := by
    obtain ⟨o, ho, -, -, hn, -⟩ := O.o6
    cases q : b.b6 with
    | true => rfl
    | false =>
      have : 6 ∈ Region.ready .any ops b.l := (bready ho).2 ⟨q, by rw [hn]; simp [BB.l, t2, t5]⟩
      rw [hr] at this
      cases this
  have t7 : b.b7 = true := by
    obtain ⟨o, ho, -, -, hn, -⟩ := O.o7
    cases q : b.b7 with
    | true => rfl
    | false =>
      have : 7 ∈ Region.ready .any ops b.l := (bready ho).2 ⟨q, by rw [hn]; simp [BB.l, t0, t6]⟩
      rw [hr] at this
      cases this
  have t9 : b.b9 = true := by
    obtain ⟨o, ho, -, -, hn, -⟩ := O.o9
    cases q : b.b9 with
    | true => rfl
    | false =>
      have : 9 ∈ Region.ready .any ops b.l := (bready ho).2 ⟨q, by rw [hn]; simp [BB.l, t6]⟩
      rw [hr] at this
      cases this
  have t12 : b.b12 = true := by
    obtain ⟨o, ho, -, -, hn, -⟩ := O.o12
    cases q : b.b12 with
    | true => rfl
    | false =>
      have : 12 ∈ Region.ready .any ops b.l := (bready ho).2 ⟨q, by rw [hn]; simp [BB.l]⟩
      rw [hr] at this
      cases this
  have t13 : b.b13 = true := by
    obtain ⟨o, ho, -, -, hn, -⟩ := O.o13
    cases q : b.b13 with
    | true => rfl
    | false =>
      have : 13 ∈ Region.ready .any ops b.l := (bready ho).2 ⟨q, by rw [hn]; simp [BB.l, t9, t12]⟩
      rw [hr] at this
      cases this
  have t14 : b.b14 = true := by
    obtain ⟨o, ho, -, -, hn, -⟩ := O.o14
    cases q : b.b14 with
    | true => rfl
    | false =>
      have : 14 ∈ Region.ready .any ops b.l := (bready ho).2 ⟨q, by rw [hn]; simp [BB.l, t0, t13]⟩
      rw [hr] at this
      cases this
  have t18 : b.b18 = true := by
    obtain ⟨o, ho, -, -, hn, -⟩ := O.o18
    cases q : b.b18 with
    | true => rfl
    | false =>
      have : 18 ∈ Region.ready .any ops b.l := (bready ho).2 ⟨q, by rw [hn]; simp [BB.l]⟩
      rw [hr] at this
      cases this
  have t19 : b.b19 = true := by
    obtain ⟨o, ho, -, -, hn, -⟩ := O.o19
    cases q : b.b19 with
    | true => rfl
    | false =>
      have : 19 ∈ Region.ready .any ops b.l := (bready ho).2 ⟨q, by rw [hn]; simp [BB.l, t0, t18]⟩
      rw [hr] at this
      cases this
  have t22 : b.b22 = true := by
    obtain ⟨o, ho, -, -, hn, -⟩ := O.o22
    cases q : b.b22 with
    | true => rfl
    | false =>
      have : 22 ∈ Region.ready .any ops b.l := (bready ho).2 ⟨q, by rw [hn]; simp [BB.l]⟩
      rw [hr] at this
      cases this
  have t23 : b.b23 = true := by
    obtain ⟨o, ho, -, -, hn, -⟩ := O.o23
    cases q : b.b23 with
    | true => rfl
    | false =>
      have : 23 ∈ Region.ready .any ops b.l := (bready ho).2 ⟨q, by rw [hn]; simp [BB.l, t0, t22]⟩
      rw [hr] at this
      cases this
  simp only [BB.n, t0, t2, t5, t6, t7, t9, t12, t13, t14, t18, t19, t22, t23, bnf_t] at hb
  omega
theorem bytes_inv (O : BOps ops) (HA : BAct A hi lo) (hend : ∀ x w, BI W0 gb box hi lo BB.all x w → wpAnyLast Try.prog .any ops Q (fun _ => True) [] 2 BB.all.l (A x) w) : ∀ n, BNext ops Q A hi lo W0 gb box n
  | 0 => fun b x w hb h => by
    obtain rfl := BB.zero hb
    exact hend x w h
  | n + 1 => fun b x w hb h => by
    have IH := bytes_inv O HA hend n
    refine ⟨fun hr => absurd hr (bne O hb), fun i hi => ?_⟩
    have hlt : i < 26 := by
      obtain ⟨-, o, ho, -⟩ := mem_ready.1 hi
      have := (Array.getElem?_eq_some_iff.1 ho).1
      rw [O.n] at this
      exact this
    have hno : ∀ j, b.l.getD j true = true → i ≠ j := fun j hj hij => by
      subst hij
      rw [(mem_ready.1 hi).1] at hj
      cases hj
    have hl : i ≠ 24 := by
      rintro rfl
      obtain ⟨o, ho, hn⟩ := O.o24
      obtain ⟨-, v⟩ := (bready ho).1 hi
      rw [hn] at v
      have t0 : b.b0 = true := v 0 (by decide)
      have t2 : b.b2 = true := v 2 (by decide)
      have t5 : b.b5 = true := v 5 (by decide)
      have t6 : b.b6 = true := v 6 (by decide)
      have t7 : b.b7 = true := v 7 (by decide)
      have t9 : b.b9 = true := v 9 (by decide)
      have t12 : b.b12 = true := v 12 (by decide)
      have t13 : b.b13 = true := v 13 (by decide)
      have t14 : b.b14 = true := v 14 (by decide)
      have t18 : b.b18 = true := v 18 (by decide)
      have t19 : b.b19 = true := v 19 (by decide)
      have t22 : b.b22 = true := v 22 (by decide)
      have t23 : b.b23 = true := v 23 (by decide)
      simp only [BB.n, t0, t2, t5, t6, t7, t9, t12, t13, t14, t18, t19, t22, t23, bnf_t] at hb
      omega
    have hl2 : i ≠ 25 := by
      rintro rfl
      obtain ⟨o, ho, hn⟩ := O.o25
      obtain ⟨-, v⟩ := (bready ho).1 hi
      have := v 24 hn
      simp [BB.l] at this
    have n1 := hno 1 rfl
    have n3 := hno 3 rfl
    have n4 := hno 4 rfl
    have n8 := hno 8 rfl
    have n10 := hno 10 rfl
    have n11 := hno 11 rfl
    have n15 := hno 15 rfl
    have n16 := hno 16 rfl
    have n17 := hno 17 rfl
    have n20 := hno 20 rfl
    have n21 := hno 21 rfl
    have hc : i = 0 ∨ i = 2 ∨ i = 5 ∨ i = 6 ∨ i = 7 ∨ i = 9 ∨ i = 12 ∨ i = 13 ∨ i = 14 ∨ i = 18 ∨ i = 19 ∨ i = 22 ∨ i = 23 := by omega
    rcases hc with rfl | rfl | rfl | rfl | rfl | rfl | rfl | rfl | rfl | rfl | rfl | rfl | rfl
    · exact bstep0 O HA IH hb h hi
    · exact bstep2 O HA IH hb h hi
    · exact bstep5 O HA IH hb h hi
    · exact bstep6 O HA IH hb h hi
    · exact bstep7 O HA IH hb h hi
    · exact bstep9 O HA IH hb h hi
    · exact bstep12 O HA IH hb h hi
    · exact bstep13 O HA IH hb h hi
    · exact bstep14 O HA IH hb h hi
    · exact bstep18 O HA IH hb h hi
    · exact bstep19 O HA IH hb h hi
    · exact bstep22 O HA IH hb h hi
    · exact bstep23 O HA IH hb h hi
end
def bytes_act (v0 v1 v2 v3 v4 v5 v6 v7 v8 v9 v10 v11 v12 v13 v14 v15 v16 v17 v18 v19 v20 v21 v22 v23 v24 v25 v26 v27 v28 v29 v30 v31 : Value) (hi lo : Int) (x : BX) : Act := { tmps := #[v0, v1, v2, v3, v4, v5, v6, v7, v8, v9, v10, v11, v12, v13, v14, v15, v16, v17, v18, v19, v20, v21, v22, v23, v24, v25, v26, v27, v28, v29, v30, v31, x.m, .agg #[.bool false, .bool false], x.p1, .int .u8 hi, .int .u8 lo, x.q1, x.r1, .agg #[.bool false, .bool true], x.p2, .int .u8 hi, .int .u8 lo, x.q2, x.r2, .agg #[.bool true, .bool false], .int .u8 hi, .int .u8 lo, x.s, .agg #[.bool true, .bool true], .int .u8 lo, x.t, undef, undef, undef, undef, undef, undef, undef, undef, undef, undef, undef, undef], defers := [] }
theorem bytes_act_ok (v0 v1 v2 v3 v4 v5 v6 v7 v8 v9 v10 v11 v12 v13 v14 v15 v16 v17 v18 v19 v20 v21 v22 v23 v24 v25 v26 v27 v28 v29 v30 v31 : Value) (hi lo : Int) : BAct (bytes_act v0 v1 v2 v3 v4 v5 v6 v7 v8 v9 v10 v11 v12 v13 v14 v15 v16 v17 v18 v19 v20 v21 v22 v23 v24 v25 v26 v27 v28 v29 v30 v31 hi lo) hi lo := by
  constructor <;> intros <;> rfl
/-- The head that is picked. -/
def bytes_pick (x : BX) (k : Bool × Bool) : Value := if k = (false, false) then x.r1 else if k = (false, true) then x.r2 else if k = (true, false) then x.s else x.t
def bytes_head (hi lo : Int) (sh : Bool) : List Int := if sh = true then (if (hi == 0) = true then [lo] else [hi, lo]) else [255, 3, hi, lo]
theorem bytes_got {x : BX} {W0 w : World} {gb : Nat} {box : Array Value} {hi lo : Int} (h : BI W0 gb box hi lo BB.all x w) (sh : Bool) : BRow w W0.heap.size (bytes_pick x (sh, hi == 0)) (bytes_head hi lo sh) := by
  cases sh <;> cases q : (hi == 0) <;> simp only [bytes_pick, bytes_head, q, if_true, if_false, Prod.mk.injEq, Bool.false_eq_true, Bool.true_eq_false, and_true, and_false, true_and, false_and, reduceIte]
  · exact h.f6 rfl
  · exact h.f13 rfl
  · exact h.f18 rfl
  · exact h.f22 rfl
theorem bytes_there (x : BX) (k : Bool × Bool) : BF BB.all x k = some (bytes_pick x k) := by
  obtain ⟨a, b⟩ := k
  cases a <;> cases b <;> simp [BF, BB.all, bytes_pick]
theorem bytes_C2 {w : World} {g c c2 : Nat} {A A2 : Option Addr} {l l2 : List Int} (hb : w.heap[g]? = some (Obj.cells #[.slice A l.length c, .slice A2 l2.length c2] 23 (0, 0))) (hc1 : l.length ≤ c) (h1 : (Kd.int .u8).C w A l.length l) (hc2 : l2.length ≤ c2) (h2 : (Kd.int .u8).C w A2 l2.length l2) :
    Kd.C (Kd.slice 5 (Kd.int .u8)) w (some ⟨g, 0, none⟩) 2 [l, l2] := by
  refine ⟨rfl, by decide, fun _ => ⟨_, rfl, fun j p hj => ?_⟩⟩
  rcases j with _ | _ | j
  · obtain rfl : l = p := by simpa using hj
    refine ⟨[.slice A l.length c], rfl, ⟨A, c, rfl, hc1, h1⟩, fun i u hi => ?_⟩
    rcases i with _ | i
    · exact (bk2 hb).1.trans (by simpa using hi)
    · simp at hi
  · obtain rfl : l2 = p := by simpa using hj
    refine ⟨[.slice A2 l2.length c2], rfl, ⟨A2, c2, rfl, hc2, h2⟩, fun i u hi => ?_⟩
    rcases i with _ | i
    · exact (bk2 hb).2.1.trans (by simpa using hi)
    · simp at hi
  · simp at hj
theorem bytes_lits (w : World) (A A2 : Option Addr) (n n2 c c2 : Nat) : (Instr.buildSlice 67 2 #[(0, .slice A n c), (1, .slice A2 n2 c2)]).run Try.prog w = .ok (.slice (some ⟨w.heap.size, 0, none⟩) 2 2) (w.alloc (.cells #[.slice A n c, .slice A2 n2 c2] 23)) := by kernel_rfl
theorem bytes_exl {o : Oper} {a : Act} {w : World} {v x y : Value} (hop : o.op = .lookup 56 (.tmp 53) (.tmp 57) false) (h1 : a.eval (.tmp 53) = x) (h2 : a.eval (.tmp 57) = y) (h : (Instr.lookup 56 x y false).run Try.prog w = .ok v w) : (execOp a.eval o).run Try.prog w = .ok (.value v) w := by
  subst h1
  subst h2
  unfold execOp
  rw [hop]
  simp [h, Result.andThen]
theorem bytes_exb {o : Oper} {a : Act} {w : World} {A A2 : Option Addr} {n n2 c c2 : Nat} (hop : o.op = .buildSlice 67 2 #[(0, .tmp 58), (1, .tmp 60)]) (h1 : a.eval (.tmp 58) = .slice A n c) (h2 : a.eval (.tmp 60) = .slice A2 n2 c2) :
    (execOp a.eval o).run Try.prog w = .ok (.value (.slice (some ⟨w.heap.size, 0, none⟩) 2 2)) (w.alloc (.cells #[.slice A n c, .slice A2 n2 c2] 23)) := by
  have h := bytes_lits w A A2 n n2 c c2
  rw [← h1, ← h2] at h ⊢
  unfold execOp
  rw [hop]
  simp [h, Result.andThen]
def frame_Bytes.f (k : Nat) (a0_0 : Int) (l0_1 : List Int) (a1 : Bool) : Option (List Int × Int) :=
  (frame_Proto.f a0_0).bind fun t => if t = true then (if (1500 : Int) < (l0_1.length : Int) then some ([], 1) else (slices_Concat_byte_byte.f k [bytes_head (a0_0 / 256 % 256) (a0_0 % 256) (a1 && a0_0 != 49185), l0_1]).bind fun c => (fcs_Put.f k c).bind fun r => some (r, 0)) else some ([], 1)
theorem frame_Bytes.mono : ∀ a0_0 l0_1 a1 k, LeO (frame_Bytes.f k a0_0 l0_1 a1) (frame_Bytes.f (k + 1) a0_0 l0_1 a1) := by
  intro a0_0 l0_1 a1 k
  unfold frame_Bytes.f
  exact LeO.bind (LeO.refl _) (fun _ => LeO.ite (LeO.ite (LeO.refl _) (LeO.bind (slices_Concat_byte_byte.mono _ _) (fun _ => LeO.bind (fcs_Put.mono _ _) (fun _ => LeO.refl _)))) (LeO.refl _))
set_option maxHeartbeats 8000000 in
set_option maxRecDepth 100000 in
theorem bytes_long (k : Nat) (a0_0 : Int) (A0_1 : Option Addr) (c0_1 : Nat) (l0_1 : List Int) (a1 : Bool) (w : World) (cat r1 : List Int) (hP : frame_Proto.f a0_0 = some true) (hr0_1 : Kd.C (Kd.int .u8) w A0_1 l0_1.length l0_1) (hc0_1 : l0_1.length ≤ c0_1) (hlen : ¬ (1500 : Int) < (l0_1.length : Int))
    (h1 : slices_Concat_byte_byte.f k [bytes_head (a0_0 / 256 % 256) (a0_0 % 256) (a1 && a0_0 != 49185), l0_1] = some cat) (h2 : fcs_Put.f k cat = some r1) :
    Calls Try.prog 9 #[.agg #[.int .u16 a0_0, .slice A0_1 l0_1.length c0_1], .bool a1] w fun e w' => ∃ v0_, e = .returned (.tuple #[v0_, .int .i64 0]) ∧ Kd.R (Kd.int .u8) 5 w' w.heap.size (fun _ => True) v0_ r1 ∧ Below w.heap.size w w' := by
  have hu25 := Try.underlying25
  have HP := Aside0.mk hP
  have HR0_1 := Aside0.mk hr0_1
  have HC0_1 := Aside0.mk hc0_1
  have H1 := Aside0.mk h1
  have H2 := Aside0.mk h2
  clear hr0_1 hP hc0_1 h1 h2
  cases a1
  all_goals
   simp only [Bool.true_and, Bool.false_and] at H1
   go_enter Try.func9, Try.ntmps9
   go_wp2_with (first | ((with_reducible refine gate_dst (N := 2) rfl ?_); refine box_event ?hg (N := 2) ?hd (cs := #[.int .u16 a0_0, .slice A0_1 l0_1.length c0_1]) (t := 25) ?hr ?_; (case hd => rfl); (case hg => rfl); (case hr => first | (go_simp; done) | (go_simp; rfl)); intro gb hg w1 hbox hb; have HB := Aside0.mk hb; have BK := Aside0.mk hbox; have GW := Aside0.mk hg; clear hb hbox hg; obtain ⟨hcz1, hcz2, hfz1, hfz2⟩ := bk2 BK.out) | (go_at_call 13; (with_reducible refine (frame_Proto.calls a0_0 true _ HP.out).mono ?_); rintro e w' ⟨rfl, ⟨nd, rfl⟩⟩))
   go_quiet (fail)
   go_upto_region 5 with (fail)
   refine start_ (n := 26) (S := fun _ => True) (ds := []) #[false, false, false, false, false, false, false, false, false, false, false, false, false, false, false, false, false, false, false, false, false, false, false, false, false, false] (by kernel_rfl) rfl rfl trivial (fun _ => ?_)
   refine pure_ (i := 1) (N := some 33) (v := ?_) (a' := ?_) #[false, true, false, false, false, false, false, false, false, false, false, false, false, false, false, false, false, false, false, false, false, false, false, false, false, false] rfl rfl (by kernel_rfl) (fun _ _ _ h => h) (Or.inl ⟨by rfl, ?_⟩) ?_ ?_
   rotate_left
   · intro w'
     go_simp
     with_reducible rfl
   rotate_left
   · simp only [Act.put, sT, s0, s1, i64_w, i32_w]
     rfl
   refine pure_ (i := 3) (N := some 35) (v := ?_) (a' := ?_) #[false, true, false, true, false, false, false, false, false, false, false, false, false, false, false, false, false, false, false, false, false, false, false, false, false, false] rfl rfl (by kernel_rfl) (fun _ _ _ h => h) (Or.inl ⟨by rfl, ?_⟩) ?_ ?_
   rotate_left
   · intro w'
     go_simp
     with_reducible rfl
   rotate_left
   · simp only [Act.put, sT, s0, s1, i64_w, i32_w]
     rfl
   refine pure_ (i := 4) (N := some 36) (v := ?_) (a' := ?_) #[false, true, false, true, true, false, false, false, false, false, false, false, false, false, false, false, false, false, false, false, false, false, false, false, false, false] rfl rfl (by kernel_rfl) (fun _ _ _ h => h) (Or.inl ⟨by rfl, ?_⟩) ?_ ?_
   rotate_left
   · intro w'
     go_simp
     with_reducible rfl
   rotate_left
   · simp only [Act.put, sT, s0, s1, i64_w, i32_w]
     rfl
   refine pure_ (i := 8) (N := some 39) (v := ?_) (a' := ?_) #[false, true, false, true, true, false, false, false, true, false, false, false, false, false, false, false, false, false, false, false, false, false, false, false, false, false] rfl rfl (by kernel_rfl) (fun _ _ _ h => h) (Or.inl ⟨by rfl, ?_⟩) ?_ ?_
   rotate_left
   · intro w'
     go_simp
     with_reducible rfl
   rotate_left
   · simp only [Act.put, sT, s0, s1, i64_w, i32_w]
     rfl
   refine pure_ (i := 10) (N := some 41) (v := ?_) (a' := ?_) #[false, true, false, true, true, false, false, false, true, false, true, false, false, false, false, false, false, false, false, false, false, false, false, false, false, false] rfl rfl (by kernel_rfl) (fun _ _ _ h => h) (Or.inl ⟨by rfl, ?_⟩) ?_ ?_
   rotate_left
   · intro w'
     go_simp
     with_reducible rfl
   rotate_left
   · simp only [Act.put, sT, s0, s1, i64_w, i32_w]
     rfl
   refine pure_ (i := 11) (N := some 42) (v := ?_) (a' := ?_) #[false, true, false, true, true, false, false, false, true, false, true, true, false, false, false, false, false, false, false, false, false, false, false, false, false, false] rfl rfl (by kernel_rfl) (fun _ _ _ h => h) (Or.inl ⟨by rfl, ?_⟩) ?_ ?_
   rotate_left
   · intro w'
     go_simp
     with_reducible rfl
   rotate_left
   · simp only [Act.put, sT, s0, s1, i64_w, i32_w]
     rfl
   refine pure_ (i := 15) (N := some 45) (v := ?_) (a' := ?_) #[false, true, false, true, true, false, false, false, true, false, true, true, false, false, false, true, false, false, false, false, false, false, false, false, false, false] rfl rfl (by kernel_rfl) (fun _ _ _ h => h) (Or.inl ⟨by rfl, ?_⟩) ?_ ?_
   rotate_left
   · intro w'
     go_simp
     with_reducible rfl
   rotate_left
   · simp only [Act.put, sT, s0, s1, i64_w, i32_w]
     rfl
   refine pure_ (i := 16) (N := some 46) (v := ?_) (a' := ?_) #[false, true, false, true, true, false, false, false, true, false, true, true, false, false, false, true, true, false, false, false, false, false, false, false, false, false] rfl rfl (by kernel_rfl) (fun _ _ _ h => h) (Or.inl ⟨by rfl, ?_⟩) ?_ ?_
   rotate_left
   · intro w'
     go_simp
     with_reducible rfl
   rotate_left
   · simp only [Act.put, sT, s0, s1, i64_w, i32_w]
     rfl
   refine pure_ (i := 17) (N := some 47) (v := ?_) (a' := ?_) #[false, true, false, true, true, false, false, false, true, false, true, true, false, false, false, true, true, true, false, false, false, false, false, false, false, false] rfl rfl (by kernel_rfl) (fun _ _ _ h => h) (Or.inl ⟨by rfl, ?_⟩) ?_ ?_
   rotate_left
   · intro w'
     go_simp
     with_reducible rfl
   rotate_left
   · simp only [Act.put, sT, s0, s1, i64_w, i32_w]
     rfl
   refine pure_ (i := 20) (N := some 49) (v := ?_) (a' := ?_) #[false, true, false, true, true, false, false, false, true, false, true, true, false, false, false, true, true, true, false, false, true, false, false, false, false, false] rfl rfl (by kernel_rfl) (fun _ _ _ h => h) (Or.inl ⟨by rfl, ?_⟩) ?_ ?_
   rotate_left
   · intro w'
     go_simp
     with_reducible rfl
   rotate_left
   · simp only [Act.put, sT, s0, s1, i64_w, i32_w]
     rfl
   refine pure_ (i := 21) (N := some 50) (v := ?_) (a' := ?_) #[false, true, false, true, true, false, false, false, true, false, true, true, false, false, false, true, true, true, false, false, true, true, false, false, false, false] rfl rfl (by kernel_rfl) (fun _ _ _ h => h) (Or.inl ⟨by rfl, ?_⟩) ?_ ?_
   rotate_left
   · intro w'
     go_simp
     with_reducible rfl
   rotate_left
   · simp only [Act.put, sT, s0, s1, i64_w, i32_w]
     rfl
   refine bytes_inv (W0 := w) (gb := gb) (box := #[.int .u16 a0_0, .slice A0_1 l0_1.length c0_1]) (A := bytes_act _ _ _ _ _ _ _ _ _ _ _ _ _ _ _ _ _ _ _ _ _ _ _ _ _ _ _ _ _ _ _ _ (a0_0 / 256 % 256) (a0_0 % 256)) ?hO (bytes_act_ok _ _ _ _ _ _ _ _ _ _ _ _ _ _ _ _ _ _ _ _ _ _ _ _ _ _ _ _ _ _ _ _ _ _) ?hE 13 BB.none ⟨undef, undef, undef, undef, undef, undef, undef, undef, undef⟩ _ rfl ?hI
   case hO => exact ⟨rfl, ⟨_, rfl, rfl, rfl, rfl, rfl⟩, ⟨_, rfl, rfl, rfl, rfl, rfl⟩, ⟨_, rfl, rfl, rfl, rfl, rfl⟩, ⟨_, rfl, rfl, rfl, rfl, rfl⟩, ⟨_, rfl, rfl, rfl, rfl, rfl⟩, ⟨_, rfl, rfl, rfl, rfl, rfl⟩, ⟨_, rfl, rfl, rfl, rfl, rfl⟩, ⟨_, rfl, rfl, rfl, rfl, rfl⟩, ⟨_, rfl, rfl, rfl, rfl, rfl⟩, ⟨_, rfl, rfl, rfl, rfl, rfl⟩, ⟨_, rfl, rfl, rfl, rfl, rfl⟩, ⟨_, rfl, rfl, rfl, rfl, rfl⟩, ⟨_, rfl, rfl, rfl, rfl, rfl⟩, ⟨_, rfl, rfl⟩, ⟨_, rfl, by decide⟩⟩
   case hI =>
     refine ⟨pD (pN HB.out _), qD (qN BK.out _), ?_, ?_, ?_, ?_, ?_, ?_, ?_, ?_, ?_, ?_, ?_, ?_, ?_⟩ <;> intro q <;> cases q
   case hE =>
     clear hcz1 hcz2 hfz1 hfz2
     intro x w2 hx
     have HX := Aside0.mk hx
     clear hx
     obtain ⟨m, p1, q1, y1, p2, q2, y2, s, t⟩ := x
     show wpAnyLast _ _ _ _ _ _ 2 #[true, true, true, true, true, true, true, true, true, true, true, true, true, true, true, true, true, true, true, true, true, true, true, true, false, false] _ _
     dsimp only [bytes_act]
     refine pure_ (i := 24) (N := some 52) (v := ?_) (a' := ?_) #[true, true, true, true, true, true, true, true, true, true, true, true, true, true, true, true, true, true, true, true, true, true, true, true, true, false] rfl rfl (by kernel_rfl) (fun _ _ _ h => h) (Or.inl ⟨by rfl, ?_⟩) ?_ ?_
     rotate_left
     · intro w'
       go_simp
       with_reducible rfl
     rotate_left
     · simp only [Act.put, sT, s0, s1, i64_w, i32_w]
       rfl
     refine pure_ (i := 25) (N := some 8) (v := ?_) (a' := ?_) #[true, true, true, true, true, true, true, true, true, true, true, true, true, true, true, true, true, true, true, true, true, true, true, true, true, true] rfl rfl (by kernel_rfl) (fun _ _ _ h => h) (Or.inl ⟨by rfl, ?_⟩) ?_ ?_
     rotate_left
     · intro w'
       go_simp
       with_reducible rfl
     rotate_left
     · simp only [Act.put, sT, s0, s1, i64_w, i32_w]
       rfl
     refine done_ (by kernel_rfl) ?_
     go_upto_region 6 with (fail)
     obtain ⟨mm, hm0, hm1, hm2⟩ := HX.out.f0 rfl
     replace hm0 : m = .map (some mm) := hm0
     subst hm0
     clear hm1 hm2
     generalize hX : (⟨.map (some mm), p1, q1, y1, p2, q2, y2, s, t⟩ : BX) = X at HX
     have hXm : X.m = .map (some mm) := by rw [← hX]
     clear hX
     first | (obtain ⟨sh, hsh⟩ : ∃ sh : Bool, sh = (a0_0 != 49185) := ⟨_, rfl⟩; rw [← hsh] at H1 ⊢; clear hsh) | (obtain ⟨sh, hsh⟩ : ∃ sh : Bool, sh = false := ⟨_, rfl⟩; rw [← hsh] at H1)
     have HRW := Aside0.mk (bytes_got HX.out sh)
     obtain ⟨Ah, ch, eh⟩ := Kd.R_slice HRW.out
     rw [eh] at HRW
     refine start_ (n := 13) (S := fun w' => BI w gb #[.int .u16 a0_0, .slice A0_1 l0_1.length c0_1] (a0_0 / 256 % 256) (a0_0 % 256) BB.all X w') (ds := [8, 9, 10]) #[false, false, false, false, false, false, false, false, false, false, false, false, false] (by kernel_rfl) rfl rfl (HX.out.keep (pD (Below.refl _ _))) (fun hHeld => ?_)
     have HRW3 := Aside0.mk (HRW.out.keep (BKp.of (pD (Below.refl _ w2))))
     clear HRW HX
     generalize w2.drew = w3 at hHeld HRW3 ⊢
     refine pure_ (i := 0) (N := some 53) (v := ?_) (a' := ?_) #[true, false, false, false, false, false, false, false, false, false, false, false, false] rfl rfl (by kernel_rfl) (fun _ _ _ h => h) (Or.inl ⟨by rfl, ?_⟩) ?_ ?_
     rotate_left
     · intro w'
       go_simp
       with_reducible rfl
     rotate_left
     · simp only [Act.put, sT, s0, s1, i64_w, i32_w]
       rfl
     refine pure_ (i := 1) (N := some 54) (v := ?_) (a' := ?_) #[true, true, false, false, false, false, false, false, false, false, false, false, false] rfl rfl (by kernel_rfl) (fun _ _ _ h => h) (Or.inl ⟨by rfl, ?_⟩) ?_ ?_
     rotate_left
     · intro w'
       go_simp
       with_reducible rfl
     rotate_left
     · simp only [Act.put, sT, s0, s1, i64_w, i32_w]
       rfl
     refine pure_ (i := 2) (N := some 55) (v := ?_) (a' := ?_) #[true, true, true, false, false, false, false, false, false, false, false, false, false] rfl rfl (by kernel_rfl) (fun _ _ _ h => h) (Or.inl ⟨by rfl, ?_⟩) ?_ ?_
     rotate_left
     · intro w'
       go_simp
       with_reducible rfl
     rotate_left
     · simp only [Act.put, sT, s0, s1, i64_w, i32_w]
       rfl
     refine pure_ (i := 3) (N := some 56) (v := ?_) (a' := ?_) #[true, true, true, true, false, false, false, false, false, false, false, false, false] rfl rfl (by kernel_rfl) (fun _ _ _ h => h) (Or.inl ⟨by rfl, ?_⟩) ?_ ?_
     rotate_left
     · intro w'
       go_simp
       with_reducible rfl
     rotate_left
     · simp only [Act.put, sT, s0, s1, i64_w, i32_w]
       rfl
     refine pure_ (i := 4) (N := some 57) (v := ?_) (a' := ?_) #[true, true, true, true, true, false, false, false, false, false, false, false, false] rfl rfl (by kernel_rfl) (fun _ _ _ h => h) (Or.inl ⟨by rfl, ?_⟩) ?_ ?_
     rotate_left
     · intro w'
       go_simp
       with_reducible rfl
     rotate_left
     · simp only [Act.put, sT, s0, s1, i64_w, i32_w]
       rfl
     refine pure_ (i := 6) (N := some 59) (v := ?_) (a' := ?_) #[true, true, true, true, true, false, true, false, false, false, false, false, false] rfl rfl (by kernel_rfl) (fun _ _ _ h => h) (Or.inl ⟨by rfl, ?_⟩) ?_ ?_
     rotate_left
     · intro w'
       go_simp
       with_reducible rfl
     rotate_left
     · simp only [Act.put, sT, s0, s1, i64_w, i32_w]
       rfl
     refine take_ (i := 5) (N := some 58) (v := .slice Ah (bytes_head (a0_0 / 256 % 256) (a0_0 % 256) sh).length ch) (a' := ?_) #[true, true, true, true, true, true, true, false, false, false, false, false, false] rfl rfl (by kernel_rfl) (fun _ _ _ h => h) (Or.inl ⟨by rfl, ?run⟩) hHeld ?ha ?h
     case run =>
       intro w' hS
       obtain ⟨m1, e1, e2, e3⟩ := hS.f0 rfl
       rw [hXm] at e1
       injection e1 with e1
       injection e1 with e1
       subst e1
       have := e3.get (bytes_there X (sh, a0_0 / 256 % 256 == 0))
       rw [eh] at this
       refine bytes_exl rfl ?_ ?_ this
       · rfl
       · try rw [hsh]
         rfl
     case ha =>
       simp only [Act.put, sT, s0, s1, i64_w, i32_w]
       rfl
     refine take_ (i := 7) (N := some 60) (v := ?_) (a' := ?_) #[true, true, true, true, true, true, true, true, false, false, false, false, false] rfl rfl (by kernel_rfl) (fun _ _ _ h => h) (Or.inl ⟨by rfl, ?_⟩) hHeld ?_ ?_
     rotate_left
     · intro w' hS
       obtain ⟨s0, s1, s2, s3⟩ := bk2 hS.bx
       go_simp
       with_reducible rfl
     rotate_left
     · simp only [Act.put, sT, s0, s1, i64_w, i32_w]
       rfl
     refine last_ (i := 8) (N := some 61) #[true, true, true, true, true, true, true, true, true, false, false, false, false] rfl rfl (by kernel_rfl) (by decide) (fun K hK => ?_)
     refine value_ (by rfl) rfl (bytes_exb rfl rfl rfl) ?_
     refine hK.out _ _ ?_
     clear hK K
     refine norm_ (a' := ?_) ?_ ?_
     rotate_left
     · show Act.put _ (some 61) _ = _
       simp only [Act.put, sT, s0, s1, i64_w, i32_w]
       rfl
     have HB4 := Aside0.mk (below_alloc hHeld.below (.cells #[.slice Ah (bytes_head (a0_0 / 256 % 256) (a0_0 % 256) sh).length ch, .slice A0_1 l0_1.length c0_1] 23))
     have HC4 := Aside0.mk (bytes_C2 (bytes_new w3 _) (Kd.R_reads' HRW3.out).2.1 (Kd.C_alloc (Kd.R_reads' HRW3.out).2.2 _) HC0_1.out (Kd.C_below HR0_1.out HB4.out))
     clear HRW3 hHeld
     refine last_ (i := 9) (N := some 62) #[true, true, true, true, true, true, true, true, true, true, false, false, false] rfl rfl (by kernel_rfl) (by decide) (fun K hK => ?_)
     refine goes_ Try.func24 (by kernel_rfl) rfl #[.slice (some ⟨w3.heap.size, 0, none⟩) 2 2] (by rfl) rfl rfl (by simp only [List.map_toArray, List.map_cons, List.map_nil]; rfl) ((slices_Concat_byte_byte.calls k _ _ _ _ _ HC4.out (Nat.le_refl _) H1.out).mono fun e w5 hh => ?_)
     obtain ⟨v5, rfl, ho5, hb5⟩ := hh
     obtain ⟨A5, c5, e5⟩ := Kd.R_slice ho5
     subst e5
     refine ⟨_, rfl, hK.out _ _ ?_⟩
     clear hK K
     refine norm_ (a' := ?_) ?_ ?_
     rotate_left
     · show Act.put _ (some 62) _ = _
       simp only [Act.put, sT, s0, s1, i64_w, i32_w]
       rfl
     have HB5 := Aside0.mk (below_step HB4.out hb5)
     have HO5 := Aside0.mk ho5
     clear hb5 ho5 HC4 HB4
     refine last_ (i := 10) (N := some 63) #[true, true, true, true, true, true, true, true, true, true, true, false, false] rfl rfl (by kernel_rfl) (by decide) (fun K hK => ?_)
     refine goes_ Try.func23 (by kernel_rfl) rfl #[.slice A5 cat.length c5] (by rfl) rfl rfl (by simp only [List.map_toArray, List.map_cons, List.map_nil]; rfl) ((fcs_Put.calls k A5 c5 cat r1 w5 (Kd.R_reads' HO5.out).2.2 (Kd.R_reads' HO5.out).2.1 H2.out).mono fun e w6 hh => ?_)
     obtain ⟨v6, rfl, ho6, hb6⟩ := hh
     refine ⟨_, rfl, hK.out _ _ ?_⟩
     clear hK K
     refine norm_ (a' := ?_) ?_ ?_
     rotate_left
     · show Act.put _ (some 63) _ = _
       simp only [Act.put, sT, s0, s1, i64_w, i32_w]
       rfl
     have HO6 := Aside0.mk (Kd.R_lower ho6 HB5.out.size)
     have HB6 := Aside0.mk (below_step HB5.out hb6)
     clear hb6 ho6 HB5 HO5
     refine pure_ (i := 11) (N := some 4) (v := ?_) (a' := ?_) #[true, true, true, true, true, true, true, true, true, true, true, true, false] rfl rfl (by kernel_rfl) (fun _ _ _ h => h) (Or.inl ⟨by rfl, ?_⟩) ?_ ?_
     rotate_left
     · intro w'
       go_simp
       with_reducible rfl
     rotate_left
     · simp only [Act.put, sT, s0, s1, i64_w, i32_w]
       rfl
     refine pure_ (i := 12) (N := some 5) (v := ?_) (a' := ?_) #[true, true, true, true, true, true, true, true, true, true, true, true, true] rfl rfl (by kernel_rfl) (fun _ _ _ h => h) (Or.inl ⟨by rfl, ?_⟩) ?_ ?_
     rotate_left
     · intro w'
       go_simp
       with_reducible rfl
     rotate_left
     · simp only [Act.put, sT, s0, s1, i64_w, i32_w]
       rfl
     refine done_ (by kernel_rfl) ?_
     try go_wp2
     go_ret2
     exact ⟨_, rfl, HO6.out, HB6.out⟩

set_option maxHeartbeats 8000000 in
set_option maxRecDepth 100000 in
theorem bytes_not (a0_0 : Int) (A0_1 : Option Addr) (c0_1 : Nat) (l0_1 : List Int) (a1 t : Bool) (w : World) (hP : frame_Proto.f a0_0 = some t) (ht : t = true → (1500 : Int) < (l0_1.length : Int)) :
    Calls Try.prog 9 #[.agg #[.int .u16 a0_0, .slice A0_1 l0_1.length c0_1], .bool a1] w fun e w' => ∃ v0_, e = .returned (.tuple #[v0_, .int .i64 1]) ∧ Kd.R (Kd.int .u8) 5 w' w.heap.size (fun _ => True) v0_ [] ∧ Below w.heap.size w w' := by
  have hu25 := Try.underlying25
  have HP := Aside0.mk hP
  clear hP
  cases t
  · clear ht
    go_enter Try.func9, Try.ntmps9
    go_wp2_with (first | ((with_reducible refine gate_dst (N := 2) rfl ?_); refine box_event ?hg (N := 2) ?hd (cs := #[.int .u16 a0_0, .slice A0_1 l0_1.length c0_1]) (t := 25) ?hr ?_; (case hd => rfl); (case hg => rfl); (case hr => first | (go_simp; done) | (go_simp; rfl)); intro gb hg w1 hbox hb; have HB := Aside0.mk hb; have BK := Aside0.mk hbox; have GW := Aside0.mk hg; clear hb hbox hg; obtain ⟨hcz1, hcz2, hfz1, hfz2⟩ := bk2 BK.out) | (go_at_call 13; (with_reducible refine (frame_Proto.calls a0_0 false _ HP.out).mono ?_); rintro e w' ⟨rfl, ⟨nd, rfl⟩⟩))
    go_ret2
    exact ⟨_, rfl, Kd.R_nil _ _ _ _ _, by repeat (first | (with_reducible first | exact HB.out | apply pA | apply pN | apply pD) | exact HB.out)⟩
  · replace ht := ht rfl
    go_enter Try.func9, Try.ntmps9
    go_wp2_with (first | ((with_reducible refine gate_dst (N := 2) rfl ?_); refine box_event ?hg (N := 2) ?hd (cs := #[.int .u16 a0_0, .slice A0_1 l0_1.length c0_1]) (t := 25) ?hr ?_; (case hd => rfl); (case hg => rfl); (case hr => first | (go_simp; done) | (go_simp; rfl)); intro gb hg w1 hbox hb; have HB := Aside0.mk hb; have BK := Aside0.mk hbox; have GW := Aside0.mk hg; clear hb hbox hg; obtain ⟨hcz1, hcz2, hfz1, hfz2⟩ := bk2 BK.out) | (go_at_call 13; (with_reducible refine (frame_Proto.calls a0_0 true _ HP.out).mono ?_); rintro e w' ⟨rfl, ⟨nd, rfl⟩⟩))
    go_ret2
    exact ⟨_, rfl, Kd.R_nil _ _ _ _ _, by repeat (first | (with_reducible first | exact HB.out | apply pA | apply pN | apply pD) | exact HB.out)⟩
theorem frame_Bytes.calls (k : Nat) (a0_0 : Int) (A0_1 : Option Addr) (c0_1 : Nat) (l0_1 : List Int) (a1 : Bool) (r1 : List Int) (r2 : Int) (w : World) (hr0_1 : Kd.C (Kd.int .u8) w A0_1 l0_1.length l0_1) (hc0_1 : l0_1.length ≤ c0_1) (h : frame_Bytes.f k a0_0 l0_1 a1 = some (r1, r2)) :
    Calls Try.prog 9 #[.agg #[.int .u16 a0_0, .slice A0_1 l0_1.length c0_1], .bool a1] w fun e w' => ∃ v0_, e = .returned (.tuple #[v0_, .int .i64 r2]) ∧ Kd.R (Kd.int .u8) 5 w' w.heap.size (fun _ => True) v0_ r1 ∧ Below w.heap.size w w' := by
  unfold frame_Bytes.f at h
  obtain ⟨t, hP, h⟩ := Option.bind_eq_some_iff.1 h
  by_cases ht : t = true
  · rw [if_pos ht] at h
    subst ht
    by_cases hl : (1500 : Int) < (l0_1.length : Int)
    · rw [if_pos hl] at h
      simp only [Option.some.injEq, Prod.mk.injEq] at h
      obtain ⟨rfl, rfl⟩ := h
      exact bytes_not a0_0 A0_1 c0_1 l0_1 a1 true w hP (fun _ => hl)
    · rw [if_neg hl] at h
      obtain ⟨cat, h1, h⟩ := Option.bind_eq_some_iff.1 h
      obtain ⟨r, h2, h⟩ := Option.bind_eq_some_iff.1 h
      simp only [Option.some.injEq, Prod.mk.injEq] at h
      obtain ⟨rfl, rfl⟩ := h
      exact bytes_long k a0_0 A0_1 c0_1 l0_1 a1 w cat r hP hr0_1 hc0_1 hl h1 h2
  · rw [if_neg ht] at h
    simp only [Option.some.injEq, Prod.mk.injEq] at h
    obtain ⟨rfl, rfl⟩ := h
    exact bytes_not a0_0 A0_1 c0_1 l0_1 a1 t w hP (fun q => absurd q ht)

end Go.Proofs.Ytangahcilefelaa.Q
