/- json.reader.value, whole; json.Good; json.Print. -/
import Derived.Test.YtiddjadfkpjpdaaGreatDoorHValue
set_option linter.unusedVariables false
set_option linter.unusedSimpArgs false
namespace Go.Proofs.YtiddjadfkpjpdaaGreatDoor.Q
open Go.RowKit Go.Proofs.YtiddjadfkpjpdaaGreatDoorW.PrintWords
theorem value_all (p : Nat) (w0 : World) (n : Nat) : ∀ (l : List UInt8) (b : Bool) (w : World), l.length = n → Rd p w l b → l.length ≤ 1073741824 → Ctx p w0 w → Calls Tryz.prog 65 #[.pointer (some ⟨p, 0, none⟩)] w (ValP p l b w) := by
  induction n using Nat.strongRecOn with
  | _ n ih =>
    intro l b w hn h hl hC
    refine value_of p l b w0 w h hl hC ?_
    intro k ed hk l' b' W hlt hr hc
    refine row_of k ed hk p l' b' w0 W hr (by omega) hc ?_
    intro l2 b2 W2 hle hr2 hc2
    exact ih l2.length (by omega) l2 b2 W2 rfl hr2 (by omega) hc2
set_option maxRecDepth 100000 in
set_option maxHeartbeats 4000000 in
/-- json.Good. -/
theorem good_calls (x : S38) (A3 : Option Addr) (c3 : Nat) (A4 : Option Addr) (c4 : Nat) (w : World) (hv : VC w x A3 c3 A4 c4) (hw : x.wt ≤ 1099511627776) :
    Calls Tryz.prog 32 #[.agg #[.int .i64 x.f0, .int .i64 x.f1, .string x.f2, .slice A3 x.f3.length c3, .slice A4 x.f4.length c4]] w fun e w' => e = .returned (.bool (fitsB 8 x)) ∧ Below w.heap.size w w' := by
  have HF := Lib.hid (fits_any 8 8 x A3 c3 A4 c4 _ (by omega) (by omega) (by omega) (hv.below (ba w (Obj.cells #[Value.int IntKind.i64 x.f0, Value.int IntKind.i64 x.f1, Value.string x.f2, Value.slice A3 x.f3.length c3, Value.slice A4 x.f4.length c4] 38))) hw)
  clear hv
  go_enter Tryz.func32, Tryz.ntmps32
  go_wp2_with fail
  refine HF.out.mono ?_
  rintro e w2 ⟨rfl, b2⟩
  go_wp2_with fail
  go_ret
  exact ⟨rfl, (ba _ _).trans (b2.mono (by simp))⟩
/-- What Print tells. -/
def printL (x : S38) : List UInt8 := if fitsB 8 x then renderL x else []
set_option maxRecDepth 100000 in
set_option maxHeartbeats 4000000 in
/-- json.Print. -/
theorem print_calls (x : S38) (A3 : Option Addr) (c3 : Nat) (A4 : Option Addr) (c4 : Nat) (w : World) (hv : VC w x A3 c3 A4 c4) (hw : x.wt ≤ 1073741824) (hE : Env w) :
    Calls Tryz.prog 31 #[.agg #[.int .i64 x.f0, .int .i64 x.f1, .string x.f2, .slice A3 x.f3.length c3, .slice A4 x.f4.length c4]] w fun e w' => e = .returned (.string ⟨(printL x).toArray⟩) ∧ Below w.heap.size w w' := by
  obtain ⟨W1, hW1⟩ : ∃ W1, w.alloc (Obj.cells #[Value.int IntKind.i64 x.f0, Value.int IntKind.i64 x.f1, Value.string x.f2, Value.slice A3 x.f3.length c3, Value.slice A4 x.f4.length c4] 38) = W1 := ⟨_, rfl⟩
  have hb1 : Below w.heap.size w W1 := by rw [← hW1]; exact ba _ _
  have hB1 : W1.heap[w.heap.size]? = some (.cells #[Value.int IntKind.i64 x.f0, Value.int IntKind.i64 x.f1, Value.string x.f2, Value.slice A3 x.f3.length c3, Value.slice A4 x.f4.length c4] 38 (0, 0)) := by rw [← hW1]; exact World.alloc_heap_new w _
  have HG := Lib.hid (good_calls x A3 c3 A4 c4 W1 (hv.below hb1) (by omega))
  have HV1 := Lib.hid (hv.below hb1)
  have HE1 := Lib.hid (hE.below hb1)
  have HB1 := Lib.hid hB1
  have HBB := Lib.hid hb1
  have HW1 := Lib.hid hW1
  clear hv hE hW1 hB1 hb1
  cases hf : fitsB 8 x with
  | false =>
    rw [hf] at HG
    have hp : Hid (printL x = []) := by show _ = _; unfold printL; rw [hf]; rfl
    go_enter Tryz.func31, Tryz.ntmps31
    go_wp2_with fail
    rw [HW1.out]
    refine HG.out.mono ?_
    rintro e w2 ⟨rfl, b2⟩
    go_wp2_with fail
    go_ret
    exact ⟨by rw [hp.out]; rfl, HBB.out.trans (b2.mono HBB.out.size)⟩
  | true =>
    rw [hf] at HG
    have hp : Hid (printL x = renderL x) := by show _ = _; unfold printL; rw [hf]; rfl
    go_enter Tryz.func31, Tryz.ntmps31
    go_wp2_with fail
    rw [HW1.out]
    refine HG.out.mono ?_
    rintro e w2 ⟨rfl, b2⟩
    have hB2 := (b2.block _ (blk_lt HB1.out)).trans HB1.out
    have q0 := blk_cell hB2 0
    have q1 := blk_cell hB2 1
    have q2 := blk_cell hB2 2
    have q3 := blk_cell hB2 3
    have q4 := blk_cell hB2 4
    go_wp2_with fail
    refine (render_any 8 x A3 c3 A4 c4 w2 hf (HV1.out.below b2) hw (HE1.out.below b2)).mono ?_
    rintro e w3 ⟨rfl, b3⟩
    go_wp2_with fail
    go_ret
    exact ⟨by rw [hp.out]; rfl, HBB.out.trans ((b2.trans (b3.mono b2.size)).mono HBB.out.size)⟩
end Go.Proofs.YtiddjadfkpjpdaaGreatDoor.Q
