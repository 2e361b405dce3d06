/- json.words. -/
import Derived.Test.YtiddjadfkpjpdaaGreatDoorHRow
import Derived.Maps.Range
import Derived.Maps.RangeRun
import Derived.Maps.OwnOps
import Derived.Carry
import Derived.StringKeys
import Derived.Laws.IdiomRangeMap
set_option linter.unusedVariables false
set_option linter.unusedSimpArgs false
namespace Go.Proofs.YtiddjadfkpjpdaaGreatDoor.Q
open Go.RowKit Go.Proofs.YtiddjadfkpjpdaaGreatDoorW.PrintWords Go.Maps Go.ChangeMaps Go.MapKept Go.WideMaps
set_option maxRecDepth 100000 in
theorem insert_run {w : World} {r : Nat} {es : Array MapEntry} {clock : Nat} (hb : w.heap[r]? = some (.map es clock)) (s : ByteArray) (v : Value) (hs : s.size ≤ 100) (hk : ∀ e ∈ es.toList, ∃ t, e.key = .string t ∧ t ≠ s ∧ t.size ≤ 100) :
    (Instr.mapUpdate 119 (.map (some r)) (.string s) v).run Tryz.prog w = .ok () (setBlock w r (.map (es.push ⟨.string s, v, clock⟩) (clock + 1))) := by
  have K := string_keyed Tryz.underlying9
  have key : ∀ t : ByteArray, t.size ≤ 100 → ∃ l, keyOf Tryz.prog 9 (.string t) = some l := fun t ht => ⟨_, keyOf_string_mk Tryz.underlying9 (by unfold maxLen; omega)⟩
  obtain ⟨lx, hlx⟩ := key s hs
  rcases K.find w hlx es.toList (fun e he => by obtain ⟨t, ht, _, hz⟩ := hk e he; rw [ht]; exact key t hz) with ⟨h1, _⟩ | ⟨j, e, h1, h2, h3⟩
  · simp [Instr.mapUpdate, run_underlying Tryz.underlying119, MapKept.run_getObj_map hb, K.check w false hlx, h1, MapKept.run_setObj_map _ hb, Result.andThen, setBlock]
  · obtain ⟨t, ht, hne, _⟩ := hk e (List.mem_of_getElem? h2)
    rw [h3] at ht
    injection ht with ht
    exact absurd ht.symm hne
def nullV : Value := .agg #[.int .i64 1, .int .i64 0, .string ⟨#[]⟩, .slice none 0 0, .slice none 0 0]
def trueV : Value := .agg #[.int .i64 2, .int .i64 1, .string ⟨#[]⟩, .slice none 0 0, .slice none 0 0]
def falseV : Value := .agg #[.int .i64 2, .int .i64 0, .string ⟨#[]⟩, .slice none 0 0, .slice none 0 0]
def wordE : Array MapEntry := #[⟨.string ⟨#[110, 117, 108, 108]⟩, .agg #[.int .i64 1, .int .i64 0, .string ⟨#[]⟩, .slice none 0 0, .slice none 0 0], 0⟩, ⟨.string ⟨#[116, 114, 117, 101]⟩, .agg #[.int .i64 2, .int .i64 1, .string ⟨#[]⟩, .slice none 0 0, .slice none 0 0], 1⟩,
  ⟨.string ⟨#[102, 97, 108, 115, 101]⟩, .agg #[.int .i64 2, .int .i64 0, .string ⟨#[]⟩, .slice none 0 0, .slice none 0 0], 2⟩]
theorem setBlock_same {w : World} {r : Nat} {o : Obj} (h : w.heap[r]? = some o) (o' : Obj) : (setBlock w r o').heap[r]? = some o' := (heap_set h).1
theorem setBlock_below {w0 w : World} {B r : Nat} {o : Obj} (hb : Below B w0 w) (h : w.heap[r]? = some o) (hr : B ≤ r) (o' : Obj) : Below B w0 (setBlock w r o') :=
  ⟨hb.os, hb.tape, hb.output, by have := hb.size; simpa [setBlock] using this, fun i hi => ((heap_set (o' := o') h).2 i (by omega)).trans (hb.block i hi)⟩
set_option maxRecDepth 100000 in
set_option maxHeartbeats 4000000 in
theorem words_calls (w : World) : Calls Tryz.prog 97 #[] w fun e w' => e = .returned (.map (some w.heap.size)) ∧ w'.heap[w.heap.size]? = some (.map wordE 3) ∧ Below w.heap.size w w' := by
  have hm := run_makeMap (P := Tryz.prog) 119 w
  obtain ⟨W0, hW0⟩ : ∃ W0, W0 = w.alloc (.map #[] 0) := ⟨_, rfl⟩
  have h0 : W0.heap[w.heap.size]? = some (.map #[] 0) := by rw [hW0]; exact World.alloc_heap_new w _
  have hb0 : Below w.heap.size w W0 := by rw [hW0]; exact ba _ _
  rw [← hW0] at hm
  clear hW0
  have i1 := insert_run h0 ⟨#[110, 117, 108, 108]⟩ (.agg #[.int .i64 1, .int .i64 0, .string ⟨#[]⟩, .slice none 0 0, .slice none 0 0]) (by decide) (by simp)
  have h1 := setBlock_same h0 (.map (#[].push ⟨.string ⟨#[110, 117, 108, 108]⟩, .agg #[.int .i64 1, .int .i64 0, .string ⟨#[]⟩, .slice none 0 0, .slice none 0 0], 0⟩) (0 + 1))
  have hb1 := setBlock_below hb0 h0 (Nat.le_refl _) (.map (#[].push ⟨.string ⟨#[110, 117, 108, 108]⟩, .agg #[.int .i64 1, .int .i64 0, .string ⟨#[]⟩, .slice none 0 0, .slice none 0 0], 0⟩) (0 + 1))
  generalize setBlock W0 w.heap.size _ = W1 at i1 h1 hb1
  have i2 := insert_run h1 ⟨#[116, 114, 117, 101]⟩ (.agg #[.int .i64 2, .int .i64 1, .string ⟨#[]⟩, .slice none 0 0, .slice none 0 0]) (by decide) (by simp; decide)
  have h2 := setBlock_same h1 (.map ((#[].push ⟨.string ⟨#[110, 117, 108, 108]⟩, .agg #[.int .i64 1, .int .i64 0, .string ⟨#[]⟩, .slice none 0 0, .slice none 0 0], 0⟩).push ⟨.string ⟨#[116, 114, 117, 101]⟩, .agg #[.int .i64 2, .int .i64 1, .string ⟨#[]⟩, .slice none 0 0, .slice none 0 0], 0 + 1⟩) (0 + 1 + 1))
  have hb2 := setBlock_below hb1 h1 (Nat.le_refl _) (.map ((#[].push ⟨.string ⟨#[110, 117, 108, 108]⟩, .agg #[.int .i64 1, .int .i64 0, .string ⟨#[]⟩, .slice none 0 0, .slice none 0 0], 0⟩).push ⟨.string ⟨#[116, 114, 117, 101]⟩, .agg #[.int .i64 2, .int .i64 1, .string ⟨#[]⟩, .slice none 0 0, .slice none 0 0], 0 + 1⟩) (0 + 1 + 1))
  generalize setBlock W1 w.heap.size _ = W2 at i2 h2 hb2
  have i3 := insert_run h2 ⟨#[102, 97, 108, 115, 101]⟩ (.agg #[.int .i64 2, .int .i64 0, .string ⟨#[]⟩, .slice none 0 0, .slice none 0 0]) (by decide) (by simp; decide)
  have h3 := setBlock_same h2 (.map wordE 3)
  have hb3 := setBlock_below hb2 h2 (Nat.le_refl _) (.map wordE 3)
  rw [show (((#[].push ⟨.string ⟨#[110, 117, 108, 108]⟩, .agg #[.int .i64 1, .int .i64 0, .string ⟨#[]⟩, .slice none 0 0, .slice none 0 0], 0⟩).push ⟨.string ⟨#[116, 114, 117, 101]⟩, .agg #[.int .i64 2, .int .i64 1, .string ⟨#[]⟩, .slice none 0 0, .slice none 0 0], 0 + 1⟩).push ⟨.string ⟨#[102, 97, 108, 115, 101]⟩, .agg #[.int .i64 2, .int .i64 0, .string ⟨#[]⟩, .slice none 0 0, .slice none 0 0], 0 + 1 + 1⟩ : Array MapEntry) = wordE from rfl] at i3
  generalize hW3 : setBlock W2 w.heap.size (.map wordE 3) = W3 at h3 hb3
  rw [show (0 + 1 + 1 + 1 : Nat) = 3 from rfl, hW3] at i3
  clear hW3
  have H3 := Lib.hid h3
  have HB3 := Lib.hid hb3
  clear h0 hb0 h1 hb1 h2 hb2 h3 hb3
  go_enter Tryz.func97, Tryz.ntmps97
  go_wp2_with fail
  go_ret
  exact ⟨rfl, H3.out, HB3.out⟩
end Go.Proofs.YtiddjadfkpjpdaaGreatDoor.Q
