/- Maps that are known entry by entry: an insertion of a new key, a lookup. -/
import Derived.MapFrom
import Derived.MapKept
import Derived.Below
namespace Go.Proofs.YtoenogjedmnnlaaDoorM
open Go Go.RowKit

set_option linter.unusedSimpArgs false
section
variable {P : Program} {W : World} {t kt et : TypeId} {d : TypeDesc} {r c : Nat} {es : Array MapEntry} {key val : Value}
/-- A new key. -/
theorem put_new (hm : P.underlying t = some (.map kt et)) (hd : P.underlying kt = some d) (hb : W.heap[r]? = some (.map es c)) (hk : MapKept.IsKey d key) (hf : Instr.findNow d key es.toList 0 = some none) :
    ∃ W1, (Instr.mapUpdate t (.map (some r)) key val).run P W = .ok () W1 ∧ W1.heap[r]? = some (.map (es.push { key := key, val := val, born := c }) (c + 1)) ∧ ∀ B w0, B ≤ r → Below B w0 W → Below B w0 W1 := by
  refine ⟨{ W with heap := W.heap.setIfInBounds r (.map (es.push { key := key, val := val, born := c }) (c + 1)) }, ?_, ?_, ?_⟩
  · simp [Instr.mapUpdate, run_underlying hm, MapKept.run_getObj_map hb, MapKept.run_checkKey hd hk, MapKept.run_findKey hd hf, MapKept.run_setObj_map _ hb, Result.andThen]
  · have hlt : r < W.heap.size := (Array.getElem?_eq_some_iff.1 hb).1
    simp [Array.getElem?_setIfInBounds, hlt]
  · intro B w0 hB h
    refine ⟨h.os, h.tape, h.output, by simpa using h.size, fun k hk' => ?_⟩
    have := h.block k hk'
    rw [← this]
    simp only [Array.getElem?_setIfInBounds]
    rw [if_neg (by omega)]
theorem get_there {i : Nat} {v : Value} (hm : P.underlying t = some (.map kt et)) (hd : P.underlying kt = some d) (hb : W.heap[r]? = some (.map es c)) (hk : MapKept.IsKey d key) (hf : Instr.findNow d key es.toList 0 = some (some (i, v))) :
    (Instr.lookup t (.map (some r)) key true).run P W = .ok (.tuple #[v, .bool true]) W := by
  simp [Instr.lookup, run_underlying hm, MapKept.run_getObj_map hb, MapKept.run_checkKey hd hk, MapKept.run_findKey hd hf, Result.andThen]
theorem get_none {z : Value} (hm : P.underlying t = some (.map kt et)) (hd : P.underlying kt = some d) (hb : W.heap[r]? = some (.map es c)) (hk : MapKept.IsKey d key) (hf : Instr.findNow d key es.toList 0 = some none) (hz : (zeroValue et).run P W = .ok z W) :
    (Instr.lookup t (.map (some r)) key true).run P W = .ok (.tuple #[z, .bool false]) W := by
  simp [Instr.lookup, run_underlying hm, MapKept.run_getObj_map hb, MapKept.run_checkKey hd hk, MapKept.run_findKey hd hf, hz, Result.andThen]
theorem get1_there {i : Nat} {v : Value} (hm : P.underlying t = some (.map kt et)) (hd : P.underlying kt = some d) (hb : W.heap[r]? = some (.map es c)) (hk : MapKept.IsKey d key) (hf : Instr.findNow d key es.toList 0 = some (some (i, v))) :
    (Instr.lookup t (.map (some r)) key false).run P W = .ok v W := by
  simp [Instr.lookup, run_underlying hm, MapKept.run_getObj_map hb, MapKept.run_checkKey hd hk, MapKept.run_findKey hd hf, Result.andThen]
theorem get1_none {z : Value} (hm : P.underlying t = some (.map kt et)) (hd : P.underlying kt = some d) (hb : W.heap[r]? = some (.map es c)) (hk : MapKept.IsKey d key) (hf : Instr.findNow d key es.toList 0 = some none) (hz : (zeroValue et).run P W = .ok z W) :
    (Instr.lookup t (.map (some r)) key false).run P W = .ok z W := by
  simp [Instr.lookup, run_underlying hm, MapKept.run_getObj_map hb, MapKept.run_checkKey hd hk, MapKept.run_findKey hd hf, hz, Result.andThen]
end
end Go.Proofs.YtoenogjedmnnlaaDoorM
