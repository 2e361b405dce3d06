/- The law JsonFields, walked. -/
import Derived.Test.YtiddjadfkpjpdaaGreatDoorHSmall
import Derived.Test.YtiddjadfkpjpdaaGreatDoorHAns5
import Derived.Test.YtiddjadfkpjpdaaGreatDoorHRObj
set_option linter.unusedVariables false
set_option linter.unusedSimpArgs false
namespace Go.Proofs.YtiddjadfkpjpdaaGreatDoor.Q
open Go.RowKit Go.Proofs.YtiddjadfkpjpdaaGreatDoorW.PrintWords Go.Proofs.YtiddjadfkpjpdaaGreatDoorW.PrintLast
theorem z38_vc (w : World) : VC w z38 none 0 none 0 := ⟨Nat.le_refl 0, cnil _ _ _, Nat.le_refl 0, cnil _ _ _⟩
theorem FieldJP.as {x : S38} {key : ByteArray} {w w' : World} {e : Ending} (h : FieldJP x key w e w') (o : S38) (ho : o = (fieldB x key).getD z38) :
    ∃ A3 c3 A4 c4, e = .returned (.tuple #[.agg #[.int .i64 o.f0, .int .i64 o.f1, .string o.f2, .slice A3 o.f3.length c3, .slice A4 o.f4.length c4], .bool (fieldB x key).isSome]) ∧ VC w' o A3 c3 A4 c4 ∧ Below w.heap.size w w' := by
  subst ho
  obtain ⟨hb, ⟨y, A3, c3, A4, hf, rfl, hv, _⟩ | ⟨hf, rfl⟩⟩ := h
  · rw [hf]; exact ⟨A3, c3, A4, _, rfl, hv.vc, hb⟩
  · rw [hf]; exact ⟨none, 0, none, 0, rfl, z38_vc _, hb⟩
theorem FieldP.as {x : S38} {key : ByteArray} {w w' : World} {e : Ending} (h : FieldP x key w e w') (o : S38) (ho : o = (fieldB x key).getD z38) :
    ∃ A3 c3 A4 c4, e = .returned (.tuple #[.agg #[.int .i64 o.f0, .int .i64 o.f1, .string o.f2, .slice A3 o.f3.length c3, .slice A4 o.f4.length c4], .bool (fieldB x key).isSome]) ∧ VC w' o A3 c3 A4 c4 ∧ Below w.heap.size w w' := by
  subst ho
  obtain ⟨hb, ⟨y, A3, c3, A4, c4, hf, rfl, hv, _⟩ | ⟨hf, rfl⟩⟩ := h
  · rw [hf]; exact ⟨A3, c3, A4, c4, rfl, hv, hb⟩
  · rw [hf]; exact ⟨none, 0, none, 0, rfl, z38_vc _, hb⟩
theorem fieldB_wt (x : S38) (key : ByteArray) : ((fieldB x key).getD z38).wt ≤ x.wt := by
  have hz : z38.wt = 1 := by decide +kernel
  have hp := wt_pos x
  cases hf : fieldB x key with
  | none => simp [hz]; omega
  | some y =>
    rw [fieldB_at] at hf
    split at hf
    · have hm := List.mem_of_getElem? hf
      obtain ⟨i, hi, rfl⟩ := List.mem_iff_getElem.1 hm
      have := wt_elem x i hi
      simp; omega
    · cases hf
/-- The memory of the law's last line. -/
structure FldM (w : World) (x y o : S38) (A3 : Option Addr) (c3 : Nat) (A4 : Option Addr) (c4 : Nat) (B3 : Option Addr) (d3 : Nat) (B4 : Option Addr) (d4 : Nat) (E3 : Option Addr) (e3 : Nat) (E4 : Option Addr) (e4 : Nat) (F3 : Option Addr) (f3 : Nat) (F4 : Option Addr) (f4 : Nat) (g7 g9 : Nat) (wr : World) : Prop where
  X : wr.heap[w.heap.size]? = some (.cells #[.int .i64 x.f0, .int .i64 x.f1, .string x.f2, .slice A3 x.f3.length c3, .slice A4 x.f4.length c4] 38 (0, 0))
  Y : wr.heap[w.heap.size + 1]? = some (.cells #[.int .i64 y.f0, .int .i64 y.f1, .string y.f2, .slice B3 y.f3.length d3, .slice B4 y.f4.length d4] 38 (0, 0))
  O1 : wr.heap[g7]? = some (.cells #[.int .i64 o.f0, .int .i64 o.f1, .string o.f2, .slice E3 o.f3.length e3, .slice E4 o.f4.length e4] 38 (0, 0))
  O2 : wr.heap[g9]? = some (.cells #[.int .i64 o.f0, .int .i64 o.f1, .string o.f2, .slice F3 o.f3.length f3, .slice F4 o.f4.length f4] 38 (0, 0))
  vx : VC wr x A3 c3 A4 c4
  vy : VC wr y B3 d3 B4 d4
  vo1 : VC wr o E3 e3 E4 e4
  vo2 : VC wr o F3 f3 F4 f4
  bw : Below w.heap.size w wr
section
variable {w : World} {x y o : S38} {A3 : Option Addr} {c3 : Nat} {A4 : Option Addr} {c4 : Nat} {B3 : Option Addr} {d3 : Nat} {B4 : Option Addr} {d4 : Nat} {E3 : Option Addr} {e3 : Nat} {E4 : Option Addr} {e4 : Nat} {F3 : Option Addr} {f3 : Nat} {F4 : Option Addr} {f4 : Nat} {g7 g9 : Nat} {wr : World}
theorem FldM.held (h : FldM w x y o A3 c3 A4 c4 B3 d3 B4 d4 E3 e3 E4 e4 F3 f3 F4 f4 g7 g9 wr) : wr.heap[w.heap.size]? = some (.cells #[.int .i64 x.f0, .int .i64 x.f1, .string x.f2, .slice A3 x.f3.length c3, .slice A4 x.f4.length c4] 38 (0, 0)) ∧ wr.heap[w.heap.size + 1]? = some (.cells #[.int .i64 y.f0, .int .i64 y.f1, .string y.f2, .slice B3 y.f3.length d3, .slice B4 y.f4.length d4] 38 (0, 0)) ∧ wr.heap[g7]? = some (.cells #[.int .i64 o.f0, .int .i64 o.f1, .string o.f2, .slice E3 o.f3.length e3, .slice E4 o.f4.length e4] 38 (0, 0)) ∧ wr.heap[g9]? = some (.cells #[.int .i64 o.f0, .int .i64 o.f1, .string o.f2, .slice F3 o.f3.length f3, .slice F4 o.f4.length f4] 38 (0, 0)) := ⟨h.X, h.Y, h.O1, h.O2⟩
theorem FldM.below (h : FldM w x y o A3 c3 A4 c4 B3 d3 B4 d4 E3 e3 E4 e4 F3 f3 F4 f4 g7 g9 wr) {w' : World} (hb : Below wr.heap.size wr w') : FldM w x y o A3 c3 A4 c4 B3 d3 B4 d4 E3 e3 E4 e4 F3 f3 F4 f4 g7 g9 w' :=
  ⟨(hb.block _ (blk_lt h.X)).trans h.X, (hb.block _ (blk_lt h.Y)).trans h.Y, (hb.block _ (blk_lt h.O1)).trans h.O1, (hb.block _ (blk_lt h.O2)).trans h.O2, h.vx.below hb, h.vy.below hb, h.vo1.below hb, h.vo2.below hb, h.bw.trans (hb.mono h.bw.size)⟩
theorem FldM.drew (h : FldM w x y o A3 c3 A4 c4 B3 d3 B4 d4 E3 e3 E4 e4 F3 f3 F4 f4 g7 g9 wr) : FldM w x y o A3 c3 A4 c4 B3 d3 B4 d4 E3 e3 E4 e4 F3 f3 F4 f4 g7 g9 wr.drew := h.below (below_drew1 (Below.refl _ _))
end
set_option maxRecDepth 100000 in
set_option maxHeartbeats 8000000 in
theorem fields_walk (x y : S38) (key : ByteArray) (A3 : Option Addr) (c3 : Nat) (A4 : Option Addr) (c4 : Nat) (B3 : Option Addr) (d3 : Nat) (B4 : Option Addr) (d4 : Nat) (w : World) (hx : VC w x A3 c3 A4 c4) (hy : VC w y B3 d3 B4 d4) (hwx : x.wt ≤ 1073741824) (hwy : y.wt ≤ 1073741824) (hE : Env w) :
    Calls Tryz.prog 11 #[.agg #[.int .i64 x.f0, .int .i64 x.f1, .string x.f2, .slice A3 x.f3.length c3, .slice A4 x.f4.length c4], .agg #[.int .i64 y.f0, .int .i64 y.f1, .string y.f2, .slice B3 y.f3.length d3, .slice B4 y.f4.length d4], .string key] w fun e w' => e = .returned (.bool true) ∧ Below w.heap.size w w' := by
  obtain ⟨w1, hw1⟩ : ∃ w1, w1 = (w.alloc (.cells #[.int .i64 x.f0, .int .i64 x.f1, .string x.f2, .slice A3 x.f3.length c3, .slice A4 x.f4.length c4] 38)).alloc (.cells #[.int .i64 y.f0, .int .i64 y.f1, .string y.f2, .slice B3 y.f3.length d3, .slice B4 y.f4.length d4] 38) := ⟨_, rfl⟩
  have hb1 : Below w.heap.size w w1 := by rw [hw1]; exact ba2 _ _ _
  have hV1 : w1.heap[w.heap.size]? = some (.cells #[.int .i64 x.f0, .int .i64 x.f1, .string x.f2, .slice A3 x.f3.length c3, .slice A4 x.f4.length c4] 38 (0, 0)) := by rw [hw1]; exact blk_alloc (World.alloc_heap_new _ _) _
  have hY1 : w1.heap[w.heap.size + 1]? = some (.cells #[.int .i64 y.f0, .int .i64 y.f1, .string y.f2, .slice B3 y.f3.length d3, .slice B4 y.f4.length d4] 38 (0, 0)) := by
    rw [hw1]
    have := World.alloc_heap_new (w.alloc (.cells #[.int .i64 x.f0, .int .i64 x.f1, .string x.f2, .slice A3 x.f3.length c3, .slice A4 x.f4.length c4] 38)) (.cells #[.int .i64 y.f0, .int .i64 y.f1, .string y.f2, .slice B3 y.f3.length d3, .slice B4 y.f4.length d4] 38)
    rwa [World.size_alloc] at this
  have HX := Lib.hid hx
  have HY := Lib.hid hy
  have HE := Lib.hid hE
  have HB1 := Lib.hid hb1
  have HV1 := Lib.hid hV1
  have HY1 := Lib.hid hY1
  have HW1 := Lib.hid hw1
  have v0 := blk_cell hV1 0
  have v1 := blk_cell hV1 1
  have v2 := blk_cell hV1 2
  have v3 := blk_cell hV1 3
  have v4 := blk_cell hV1 4
  clear hx hy hE hb1 hV1 hY1 hw1
  have HXW := Lib.hid (HX.out.below HB1.out)
  have HYW := Lib.hid (HY.out.below HB1.out)
  have hs1 : w.heap.size + 1 < w1.heap.size := blk_lt HY1.out
  obtain ⟨o, ho⟩ : ∃ o, o = (fieldB x key).getD z38 := ⟨_, rfl⟩
  have HWO : Hid (o.wt ≤ 1099511627776) := by show _ ≤ _; rw [ho]; have := fieldB_wt x key; omega
  have HO := Lib.hid ho
  obtain ⟨h, hh⟩ : ∃ h, h = (fieldB x key).isSome := ⟨_, rfl⟩
  have HH := Lib.hid hh
  clear ho hh
  go_enter Tryz.func11, Tryz.ntmps11
  go_wp2_with fail
  rw [← HW1.out]
  refine (small_any 12 x A3 c3 A4 c4 w1 HXW.out (by decide)).mono ?_
  rintro e w2 ⟨⟨b, rfl⟩, b2⟩
  have HB2 := Lib.hid (HB1.out.trans (b2.mono HB1.out.size))
  have HY2 := Lib.hid ((b2.block _ (blk_lt HY1.out)).trans HY1.out)
  have HV2 := Lib.hid ((b2.block _ (blk_lt HV1.out)).trans HV1.out)
  have HYW2 := Lib.hid (HYW.out.below b2)
  have HXW2 := Lib.hid (HXW.out.below b2)
  have hs2 : w1.heap.size ≤ w2.heap.size := b2.size
  clear b2 v0 v1 v2 v3 v4
  have y0 := blk_cell HY2.out 0
  have y1 := blk_cell HY2.out 1
  have y2 := blk_cell HY2.out 2
  have y3 := blk_cell HY2.out 3
  have y4 := blk_cell HY2.out 4
  cases b
  · go_wp2_with fail
    refine (answers5_calls _ (HE.out.below HB2.out)).mono ?_
    rintro e wz ⟨rfl, bz⟩
    go_wp2_with fail
    go_ret
    exact ⟨rfl, HB2.out.trans (bz.mono HB2.out.size)⟩
  · go_wp2_with fail
    refine (small_any 12 y B3 d3 B4 d4 w2 HYW2.out (by decide)).mono ?_
    rintro e w3 ⟨⟨b, rfl⟩, b3⟩
    have HB3 := Lib.hid (HB2.out.trans (b3.mono HB2.out.size))
    have HY3 := Lib.hid ((b3.block _ (blk_lt HY2.out)).trans HY2.out)
    have HV3 := Lib.hid ((b3.block _ (blk_lt HV2.out)).trans HV2.out)
    have HYW3 := Lib.hid (HYW2.out.below b3)
    have HXW3 := Lib.hid (HXW2.out.below b3)
    have hs3 : w2.heap.size ≤ w3.heap.size := b3.size
    clear b3 y0 y1 y2 y3 y4
    have v0 := blk_cell HV3.out 0
    have v1 := blk_cell HV3.out 1
    have v2 := blk_cell HV3.out 2
    have v3 := blk_cell HV3.out 3
    have v4 := blk_cell HV3.out 4
    cases b
    · go_wp2_with fail
      refine (answers5_calls _ (HE.out.below HB3.out)).mono ?_
      rintro e wz ⟨rfl, bz⟩
      go_wp2_with fail
      go_ret
      exact ⟨rfl, HB3.out.trans (bz.mono HB3.out.size)⟩
    · go_wp2_with fail
      refine (jfield_calls x key A3 c3 A4 c4 w3 HXW3.out hwx).mono ?_
      rintro e w4 h4
      obtain ⟨E3, e3, E4, e4, rfl, hvo, b4⟩ := FieldJP.as h4 o HO.out
      rw [← HH.out]
      have HVO := Lib.hid hvo
      have HB4 := Lib.hid (HB3.out.trans (b4.mono HB3.out.size))
      have HY4 := Lib.hid ((b4.block _ (blk_lt HY3.out)).trans HY3.out)
      have HV4 := Lib.hid ((b4.block _ (blk_lt HV3.out)).trans HV3.out)
      have HYW4 := Lib.hid (HYW3.out.below b4)
      have HXW4 := Lib.hid (HXW3.out.below b4)
      have hs4 : w3.heap.size ≤ w4.heap.size := b4.size
      have HB5 : Hid (Below w.heap.size w (w4.alloc (.cells #[.int .i64 o.f0, .int .i64 o.f1, .string o.f2, .slice E3 o.f3.length e3, .slice E4 o.f4.length e4] 38))) := HB4.out.trans ((ba _ _).mono HB4.out.size)
      have HV5 := Lib.hid (blk_alloc HV4.out (.cells #[.int .i64 o.f0, .int .i64 o.f1, .string o.f2, .slice E3 o.f3.length e3, .slice E4 o.f4.length e4] 38))
      have HY5 := Lib.hid (blk_alloc HY4.out (.cells #[.int .i64 o.f0, .int .i64 o.f1, .string o.f2, .slice E3 o.f3.length e3, .slice E4 o.f4.length e4] 38))
      have HO5 := Lib.hid (World.alloc_heap_new w4 (.cells #[.int .i64 o.f0, .int .i64 o.f1, .string o.f2, .slice E3 o.f3.length e3, .slice E4 o.f4.length e4] 38))
      have HYW5 := Lib.hid (HYW4.out.below (ba w4 (.cells #[.int .i64 o.f0, .int .i64 o.f1, .string o.f2, .slice E3 o.f3.length e3, .slice E4 o.f4.length e4] 38)))
      have HXW5 := Lib.hid (HXW4.out.below (ba w4 (.cells #[.int .i64 o.f0, .int .i64 o.f1, .string o.f2, .slice E3 o.f3.length e3, .slice E4 o.f4.length e4] 38)))
      have HVO5 := Lib.hid (HVO.out.below (ba w4 (.cells #[.int .i64 o.f0, .int .i64 o.f1, .string o.f2, .slice E3 o.f3.length e3, .slice E4 o.f4.length e4] 38)))
      clear h4 hvo b4 v0 v1 v2 v3 v4
      have v0 := blk_cell HV5.out 0
      have v1 := blk_cell HV5.out 1
      have v2 := blk_cell HV5.out 2
      have v3 := blk_cell HV5.out 3
      have v4 := blk_cell HV5.out 4
      have hne4 : ¬ w.heap.size = w4.heap.size := by omega
      by_cases h6 : x.f0 = 6
      · have e6 : (x.f0 == 6) = true := by simp [h6]
        by_cases hl : x.f4.length = x.f3.length
        · have el : ((x.f4.length : Int) != x.f3.length) = false := by simp [hl]
          clear h6 hl
          go_wp2_with fail
          refine (rfield_calls x key A3 c3 A4 c4 _ HXW5.out (by omega)).mono ?_
          rintro e w6 h6
          obtain ⟨F3, f3, F4, f4, rfl, hvf, b6⟩ := FieldP.as h6 o HO.out
          rw [← HH.out]
          have HF0 : Hid (FldM w x y o A3 c3 A4 c4 B3 d3 B4 d4 E3 e3 E4 e4 F3 f3 F4 f4 w4.heap.size w6.heap.size (w6.alloc (.cells #[.int .i64 o.f0, .int .i64 o.f1, .string o.f2, .slice F3 o.f3.length f3, .slice F4 o.f4.length f4] 38))) :=
            ⟨blk_alloc ((b6.block _ (blk_lt HV5.out)).trans HV5.out) _, blk_alloc ((b6.block _ (blk_lt HY5.out)).trans HY5.out) _, blk_alloc ((b6.block _ (blk_lt HO5.out)).trans HO5.out) _, World.alloc_heap_new _ _, (HXW5.out.below b6).below (ba _ _), (HYW5.out.below b6).below (ba _ _), (HVO5.out.below b6).below (ba _ _), hvf.below (ba _ _), (HB5.out.trans (b6.mono HB5.out.size)).trans ((ba _ _).mono (HB5.out.trans (b6.mono HB5.out.size)).size)⟩
          clear h6 hvf b6 v0 v1 v2 v3 v4
          go_wp2_with fail
          obtain ⟨w7, hw7⟩ : ∃ w7, w7 = w6.alloc (.cells #[.int .i64 o.f0, .int .i64 o.f1, .string o.f2, .slice F3 o.f3.length f3, .slice F4 o.f4.length f4] 38) := ⟨_, rfl⟩
          obtain ⟨g7, hg7⟩ : ∃ g7, g7 = w4.heap.size := ⟨_, rfl⟩
          obtain ⟨g9, hg9⟩ : ∃ g9, g9 = w6.heap.size := ⟨_, rfl⟩
          rw [← hw7, ← hg7, ← hg9] at HF0
          rw [← hw7, ← hg7, ← hg9]
          clear hw7 hg7 hg9
          refine start_ (n := 26) (S := fun w' => w'.heap[w.heap.size]? = some (.cells #[.int .i64 x.f0, .int .i64 x.f1, .string x.f2, .slice A3 x.f3.length c3, .slice A4 x.f4.length c4] 38 (0, 0)) ∧ w'.heap[w.heap.size + 1]? = some (.cells #[.int .i64 y.f0, .int .i64 y.f1, .string y.f2, .slice B3 y.f3.length d3, .slice B4 y.f4.length d4] 38 (0, 0)) ∧ w'.heap[g7]? = some (.cells #[.int .i64 o.f0, .int .i64 o.f1, .string o.f2, .slice E3 o.f3.length e3, .slice E4 o.f4.length e4] 38 (0, 0)) ∧ w'.heap[g9]? = some (.cells #[.int .i64 o.f0, .int .i64 o.f1, .string o.f2, .slice F3 o.f3.length f3, .slice F4 o.f4.length f4] 38 (0, 0))) (ds := []) #[false, false, false, false, false, false, false, false, false, false, false, false, false, false, false, false, false, false, false, false, false, false, false, false, false, false] (by kernel_rfl) rfl rfl HF0.out.drew.held (fun hHeld => ?_)
          refine one_ (i := 0) (N := some 45) #[true, false, false, false, false, false, false, false, false, false, false, false, false, false, false, false, false, false, false, false, false, false, false, false, false, false] rfl rfl (by kernel_rfl) (by decide) (fun K hK => ?_)
          refine goes_ Tryz.func30 (by kernel_rfl) rfl #[] (by rfl) rfl rfl (by (try simp only [List.map_toArray, List.map_cons, List.map_nil]); first | done | rfl) ?_
          refine (answers5_calls _ (HE.out.below HF0.out.drew.bw)).mono ?_
          rintro e q1 ⟨rfl, b1⟩
          have HF1 := Lib.hid (HF0.out.drew.below b1)
          clear b1
          refine ⟨_, rfl, ?_⟩
          refine hK.out _ _ HF1.out.held (fun hHeld => ?_)
          clear hK K
          refine norm_ (a' := ?_) ?_ ?_
          rotate_left
          · show Act.put _ (some 45) _ = _
            simp only [Act.put, List.setIfInBounds_toArray, List.set_cons_zero, List.set_cons_succ, Go.Proofs.YtiddjadfkpjpdaaGreatDoorW.PrintLast.i64_w, Go.Proofs.YtiddjadfkpjpdaaGreatDoorW.PrintLast.i32_w]
            rfl
          refine pure_ (i := 1) (N := some 46) (v := ?_) (a' := ?_) #[true, true, false, false, false, false, false, false, false, false, false, false, false, false, false, false, false, false, false, false, false, false, false, false, false, false] rfl rfl (by kernel_rfl) (fun _ _ _ h => h) (Or.inl ⟨by rfl, ?_⟩) ?_ ?_
          rotate_left
          · intro w'
            go_simp
            with_reducible rfl
          rotate_left
          · simp only [Act.put, List.setIfInBounds_toArray, List.set_cons_zero, List.set_cons_succ, Go.Proofs.YtiddjadfkpjpdaaGreatDoorW.PrintLast.i64_w, Go.Proofs.YtiddjadfkpjpdaaGreatDoorW.PrintLast.i32_w]
            rfl
          refine pure_ (i := 2) (N := some 47) (v := ?_) (a' := ?_) #[true, true, true, false, false, false, false, false, false, false, false, false, false, false, false, false, false, false, false, false, false, false, false, false, false, false] rfl rfl (by kernel_rfl) (fun _ _ _ h => h) (Or.inl ⟨by rfl, ?_⟩) ?_ ?_
          rotate_left
          · intro w'
            go_simp
            with_reducible rfl
          rotate_left
          · simp only [Act.put, List.setIfInBounds_toArray, List.set_cons_zero, List.set_cons_succ, Go.Proofs.YtiddjadfkpjpdaaGreatDoorW.PrintLast.i64_w, Go.Proofs.YtiddjadfkpjpdaaGreatDoorW.PrintLast.i32_w]
            rfl
          refine pure_ (i := 3) (N := some 48) (v := ?_) (a' := ?_) #[true, true, true, true, false, false, false, false, false, false, false, false, false, false, false, false, false, false, false, false, false, false, false, false, false, false] rfl rfl (by kernel_rfl) (fun _ _ _ h => h) (Or.inl ⟨by rfl, ?_⟩) ?_ ?_
          rotate_left
          · intro w'
            go_simp
            with_reducible rfl
          rotate_left
          · simp only [Act.put, List.setIfInBounds_toArray, List.set_cons_zero, List.set_cons_succ, Go.Proofs.YtiddjadfkpjpdaaGreatDoorW.PrintLast.i64_w, Go.Proofs.YtiddjadfkpjpdaaGreatDoorW.PrintLast.i32_w]
            rfl
          refine pure_ (i := 4) (N := some 49) (v := ?_) (a' := ?_) #[true, true, true, true, true, false, false, false, false, false, false, false, false, false, false, false, false, false, false, false, false, false, false, false, false, false] rfl rfl (by kernel_rfl) (fun _ _ _ h => h) (Or.inl ⟨by rfl, ?_⟩) ?_ ?_
          rotate_left
          · intro w'
            go_simp
            with_reducible rfl
          rotate_left
          · simp only [Act.put, List.setIfInBounds_toArray, List.set_cons_zero, List.set_cons_succ, Go.Proofs.YtiddjadfkpjpdaaGreatDoorW.PrintLast.i64_w, Go.Proofs.YtiddjadfkpjpdaaGreatDoorW.PrintLast.i32_w]
            rfl
          refine pure_ (i := 5) (N := some 50) (v := ?_) (a' := ?_) #[true, true, true, true, true, true, false, false, false, false, false, false, false, false, false, false, false, false, false, false, false, false, false, false, false, false] rfl rfl (by kernel_rfl) (fun _ _ _ h => h) (Or.inl ⟨by rfl, ?_⟩) ?_ ?_
          rotate_left
          · intro w'
            go_simp
            with_reducible rfl
          rotate_left
          · simp only [Act.put, List.setIfInBounds_toArray, List.set_cons_zero, List.set_cons_succ, Go.Proofs.YtiddjadfkpjpdaaGreatDoorW.PrintLast.i64_w, Go.Proofs.YtiddjadfkpjpdaaGreatDoorW.PrintLast.i32_w]
            rfl
          refine pure_ (i := 6) (N := some 51) (v := ?_) (a' := ?_) #[true, true, true, true, true, true, true, false, false, false, false, false, false, false, false, false, false, false, false, false, false, false, false, false, false, false] rfl rfl (by kernel_rfl) (fun _ _ _ h => h) (Or.inl ⟨by rfl, ?_⟩) ?_ ?_
          rotate_left
          · intro w'
            go_simp
            with_reducible rfl
          rotate_left
          · simp only [Act.put, List.setIfInBounds_toArray, List.set_cons_zero, List.set_cons_succ, Go.Proofs.YtiddjadfkpjpdaaGreatDoorW.PrintLast.i64_w, Go.Proofs.YtiddjadfkpjpdaaGreatDoorW.PrintLast.i32_w]
            rfl
          refine take_ (i := 7) (N := some 52) (v := ?_) (a' := ?_) #[true, true, true, true, true, true, true, true, false, false, false, false, false, false, false, false, false, false, false, false, false, false, false, false, false, false] rfl rfl (by kernel_rfl) (fun _ _ _ h => h) (Or.inl ⟨by rfl, ?_⟩) hHeld ?_ ?_
          rotate_left
          · rintro w' ⟨s0, s1, s2, s3⟩; have t0 := blk_cell s2 0; have t1 := blk_cell s2 1; have t2 := blk_cell s2 2; have t3 := blk_cell s2 3; have t4 := blk_cell s2 4
            go_simp
            with_reducible rfl
          rotate_left
          · simp only [Act.put, List.setIfInBounds_toArray, List.set_cons_zero, List.set_cons_succ, Go.Proofs.YtiddjadfkpjpdaaGreatDoorW.PrintLast.i64_w, Go.Proofs.YtiddjadfkpjpdaaGreatDoorW.PrintLast.i32_w]
            rfl
          refine take_ (i := 8) (N := some 53) (v := ?_) (a' := ?_) #[true, true, true, true, true, true, true, true, true, false, false, false, false, false, false, false, false, false, false, false, false, false, false, false, false, false] rfl rfl (by kernel_rfl) (fun _ _ _ h => h) (Or.inl ⟨by rfl, ?_⟩) hHeld ?_ ?_
          rotate_left
          · rintro w' ⟨s0, s1, s2, s3⟩; have t0 := blk_cell s3 0; have t1 := blk_cell s3 1; have t2 := blk_cell s3 2; have t3 := blk_cell s3 3; have t4 := blk_cell s3 4
            go_simp
            with_reducible rfl
          rotate_left
          · simp only [Act.put, List.setIfInBounds_toArray, List.set_cons_zero, List.set_cons_succ, Go.Proofs.YtiddjadfkpjpdaaGreatDoorW.PrintLast.i64_w, Go.Proofs.YtiddjadfkpjpdaaGreatDoorW.PrintLast.i32_w]
            rfl
          refine one_ (i := 9) (N := some 54) #[true, true, true, true, true, true, true, true, true, true, false, false, false, false, false, false, false, false, false, false, false, false, false, false, false, false] rfl rfl (by kernel_rfl) (by decide) (fun K hK => ?_)
          refine goes_ Tryz.func29 (by kernel_rfl) rfl #[.agg #[.int .i64 o.f0, .int .i64 o.f1, .string o.f2, .slice E3 o.f3.length e3, .slice E4 o.f4.length e4], .agg #[.int .i64 o.f0, .int .i64 o.f1, .string o.f2, .slice F3 o.f3.length f3, .slice F4 o.f4.length f4]] (by rfl) rfl rfl (by (try simp only [List.map_toArray, List.map_cons, List.map_nil]); first | done | rfl) ?_
          refine (rsame_any _ o o E3 e3 E4 e4 F3 f3 F4 f4 _ (Nat.le_refl _) HF1.out.vo1 HF1.out.vo2 HWO.out HWO.out).mono ?_
          rintro e q2 ⟨rfl, b2⟩
          rw [eqB_true rfl]
          have HF2 := Lib.hid (HF1.out.below b2)
          clear b2
          refine ⟨_, rfl, ?_⟩
          refine hK.out _ _ HF2.out.held (fun hHeld => ?_)
          clear hK K
          refine norm_ (a' := ?_) ?_ ?_
          rotate_left
          · show Act.put _ (some 54) _ = _
            simp only [Act.put, List.setIfInBounds_toArray, List.set_cons_zero, List.set_cons_succ, Go.Proofs.YtiddjadfkpjpdaaGreatDoorW.PrintLast.i64_w, Go.Proofs.YtiddjadfkpjpdaaGreatDoorW.PrintLast.i32_w]
            rfl
          refine pure_ (i := 10) (N := some 55) (v := ?_) (a' := ?_) #[true, true, true, true, true, true, true, true, true, true, true, false, false, false, false, false, false, false, false, false, false, false, false, false, false, false] rfl rfl (by kernel_rfl) (fun _ _ _ h => h) (Or.inl ⟨by rfl, ?_⟩) ?_ ?_
          rotate_left
          · intro w'
            go_simp
            with_reducible rfl
          rotate_left
          · simp only [Act.put, List.setIfInBounds_toArray, List.set_cons_zero, List.set_cons_succ, Go.Proofs.YtiddjadfkpjpdaaGreatDoorW.PrintLast.i64_w, Go.Proofs.YtiddjadfkpjpdaaGreatDoorW.PrintLast.i32_w]
            rfl
          refine pure_ (i := 11) (N := some 56) (v := ?_) (a' := ?_) #[true, true, true, true, true, true, true, true, true, true, true, true, false, false, false, false, false, false, false, false, false, false, false, false, false, false] rfl rfl (by kernel_rfl) (fun _ _ _ h => h) (Or.inl ⟨by rfl, ?_⟩) ?_ ?_
          rotate_left
          · intro w'
            go_simp
            with_reducible rfl
          rotate_left
          · simp only [Act.put, List.setIfInBounds_toArray, List.set_cons_zero, List.set_cons_succ, Go.Proofs.YtiddjadfkpjpdaaGreatDoorW.PrintLast.i64_w, Go.Proofs.YtiddjadfkpjpdaaGreatDoorW.PrintLast.i32_w]
            rfl
          refine take_ (i := 12) (N := some 57) (v := ?_) (a' := ?_) #[true, true, true, true, true, true, true, true, true, true, true, true, true, false, false, false, false, false, false, false, false, false, false, false, false, false] rfl rfl (by kernel_rfl) (fun _ _ _ h => h) (Or.inl ⟨by rfl, ?_⟩) hHeld ?_ ?_
          rotate_left
          · rintro w' ⟨s0, s1, s2, s3⟩; have t0 := blk_cell s0 0; have t1 := blk_cell s0 1; have t2 := blk_cell s0 2; have t3 := blk_cell s0 3; have t4 := blk_cell s0 4
            go_simp
            with_reducible rfl
          rotate_left
          · simp only [Act.put, List.setIfInBounds_toArray, List.set_cons_zero, List.set_cons_succ, Go.Proofs.YtiddjadfkpjpdaaGreatDoorW.PrintLast.i64_w, Go.Proofs.YtiddjadfkpjpdaaGreatDoorW.PrintLast.i32_w]
            rfl
          refine take_ (i := 13) (N := some 58) (v := ?_) (a' := ?_) #[true, true, true, true, true, true, true, true, true, true, true, true, true, true, false, false, false, false, false, false, false, false, false, false, false, false] rfl rfl (by kernel_rfl) (fun _ _ _ h => h) (Or.inl ⟨by rfl, ?_⟩) hHeld ?_ ?_
          rotate_left
          · rintro w' ⟨s0, s1, s2, s3⟩; have t0 := blk_cell s1 0; have t1 := blk_cell s1 1; have t2 := blk_cell s1 2; have t3 := blk_cell s1 3; have t4 := blk_cell s1 4
            go_simp
            with_reducible rfl
          rotate_left
          · simp only [Act.put, List.setIfInBounds_toArray, List.set_cons_zero, List.set_cons_succ, Go.Proofs.YtiddjadfkpjpdaaGreatDoorW.PrintLast.i64_w, Go.Proofs.YtiddjadfkpjpdaaGreatDoorW.PrintLast.i32_w]
            rfl
          refine take_ (i := 15) (N := some 60) (v := ?_) (a' := ?_) #[true, true, true, true, true, true, true, true, true, true, true, true, true, true, false, true, false, false, false, false, false, false, false, false, false, false] rfl rfl (by kernel_rfl) (fun _ _ _ h => h) (Or.inl ⟨by rfl, ?_⟩) hHeld ?_ ?_
          rotate_left
          · rintro w' ⟨s0, s1, s2, s3⟩; have t0 := blk_cell s0 0; have t1 := blk_cell s0 1; have t2 := blk_cell s0 2; have t3 := blk_cell s0 3; have t4 := blk_cell s0 4
            go_simp
            with_reducible rfl
          rotate_left
          · simp only [Act.put, List.setIfInBounds_toArray, List.set_cons_zero, List.set_cons_succ, Go.Proofs.YtiddjadfkpjpdaaGreatDoorW.PrintLast.i64_w, Go.Proofs.YtiddjadfkpjpdaaGreatDoorW.PrintLast.i32_w]
            rfl
          refine take_ (i := 16) (N := some 61) (v := ?_) (a' := ?_) #[true, true, true, true, true, true, true, true, true, true, true, true, true, true, false, true, true, false, false, false, false, false, false, false, false, false] rfl rfl (by kernel_rfl) (fun _ _ _ h => h) (Or.inl ⟨by rfl, ?_⟩) hHeld ?_ ?_
          rotate_left
          · rintro w' ⟨s0, s1, s2, s3⟩; have t0 := blk_cell s1 0; have t1 := blk_cell s1 1; have t2 := blk_cell s1 2; have t3 := blk_cell s1 3; have t4 := blk_cell s1 4
            go_simp
            with_reducible rfl
          rotate_left
          · simp only [Act.put, List.setIfInBounds_toArray, List.set_cons_zero, List.set_cons_succ, Go.Proofs.YtiddjadfkpjpdaaGreatDoorW.PrintLast.i64_w, Go.Proofs.YtiddjadfkpjpdaaGreatDoorW.PrintLast.i32_w]
            rfl
          refine one_ (i := 14) (N := some 59) #[true, true, true, true, true, true, true, true, true, true, true, true, true, true, true, true, true, false, false, false, false, false, false, false, false, false] rfl rfl (by kernel_rfl) (by decide) (fun K hK => ?_)
          refine goes_ Tryz.func39 (by kernel_rfl) rfl #[.agg #[.int .i64 x.f0, .int .i64 x.f1, .string x.f2, .slice A3 x.f3.length c3, .slice A4 x.f4.length c4], .agg #[.int .i64 y.f0, .int .i64 y.f1, .string y.f2, .slice B3 y.f3.length d3, .slice B4 y.f4.length d4]] (by rfl) rfl rfl (by (try simp only [List.map_toArray, List.map_cons, List.map_nil]); first | done | rfl) ?_
          refine (jsame_any _ x y A3 c3 A4 c4 B3 d3 B4 d4 _ (Nat.le_refl _) HF2.out.vx HF2.out.vy (Nat.le_trans hwx (by decide)) (Nat.le_trans hwy (by decide))).mono ?_
          rintro e q3 ⟨rfl, b3⟩
          have HF3 := Lib.hid (HF2.out.below b3)
          clear b3
          refine ⟨_, rfl, ?_⟩
          refine hK.out _ _ HF3.out.held (fun hHeld => ?_)
          clear hK K
          refine norm_ (a' := ?_) ?_ ?_
          rotate_left
          · show Act.put _ (some 59) _ = _
            simp only [Act.put, List.setIfInBounds_toArray, List.set_cons_zero, List.set_cons_succ, Go.Proofs.YtiddjadfkpjpdaaGreatDoorW.PrintLast.i64_w, Go.Proofs.YtiddjadfkpjpdaaGreatDoorW.PrintLast.i32_w]
            rfl
          refine one_ (i := 17) (N := some 62) #[true, true, true, true, true, true, true, true, true, true, true, true, true, true, true, true, true, true, false, false, false, false, false, false, false, false] rfl rfl (by kernel_rfl) (by decide) (fun K hK => ?_)
          refine goes_ Tryz.func29 (by kernel_rfl) rfl #[.agg #[.int .i64 x.f0, .int .i64 x.f1, .string x.f2, .slice A3 x.f3.length c3, .slice A4 x.f4.length c4], .agg #[.int .i64 y.f0, .int .i64 y.f1, .string y.f2, .slice B3 y.f3.length d3, .slice B4 y.f4.length d4]] (by rfl) rfl rfl (by (try simp only [List.map_toArray, List.map_cons, List.map_nil]); first | done | rfl) ?_
          refine (rsame_any _ x y A3 c3 A4 c4 B3 d3 B4 d4 _ (Nat.le_refl _) HF3.out.vx HF3.out.vy (Nat.le_trans hwx (by decide)) (Nat.le_trans hwy (by decide))).mono ?_
          rintro e q4 ⟨rfl, b4⟩
          have HF4 := Lib.hid (HF3.out.below b4)
          clear b4
          refine ⟨_, rfl, ?_⟩
          refine hK.out _ _ HF4.out.held (fun hHeld => ?_)
          clear hK K
          refine norm_ (a' := ?_) ?_ ?_
          rotate_left
          · show Act.put _ (some 62) _ = _
            simp only [Act.put, List.setIfInBounds_toArray, List.set_cons_zero, List.set_cons_succ, Go.Proofs.YtiddjadfkpjpdaaGreatDoorW.PrintLast.i64_w, Go.Proofs.YtiddjadfkpjpdaaGreatDoorW.PrintLast.i32_w]
            rfl
          refine pure_ (i := 18) (N := some 63) (v := ?_) (a' := ?_) #[true, true, true, true, true, true, true, true, true, true, true, true, true, true, true, true, true, true, true, false, false, false, false, false, false, false] rfl rfl (by kernel_rfl) (fun _ _ _ h => h) (Or.inl ⟨by rfl, ?_⟩) ?_ ?_
          rotate_left
          · intro w'
            go_simp
            with_reducible rfl
          rotate_left
          · simp only [Act.put, List.setIfInBounds_toArray, List.set_cons_zero, List.set_cons_succ, Go.Proofs.YtiddjadfkpjpdaaGreatDoorW.PrintLast.i64_w, Go.Proofs.YtiddjadfkpjpdaaGreatDoorW.PrintLast.i32_w]
            rfl
          refine pure_ (i := 19) (N := some 64) (v := ?_) (a' := ?_) #[true, true, true, true, true, true, true, true, true, true, true, true, true, true, true, true, true, true, true, true, false, false, false, false, false, false] rfl rfl (by kernel_rfl) (fun _ _ _ h => h) (Or.inl ⟨by rfl, ?_⟩) ?_ ?_
          rotate_left
          · intro w'
            go_simp
            with_reducible rfl
          rotate_left
          · simp only [Act.put, List.setIfInBounds_toArray, List.set_cons_zero, List.set_cons_succ, Go.Proofs.YtiddjadfkpjpdaaGreatDoorW.PrintLast.i64_w, Go.Proofs.YtiddjadfkpjpdaaGreatDoorW.PrintLast.i32_w]
            rfl
          refine pure_ (i := 20) (N := some 65) (v := ?_) (a' := ?_) #[true, true, true, true, true, true, true, true, true, true, true, true, true, true, true, true, true, true, true, true, true, false, false, false, false, false] rfl rfl (by kernel_rfl) (fun _ _ _ h => h) (Or.inl ⟨by rfl, ?_⟩) ?_ ?_
          rotate_left
          · intro w'
            go_simp
            with_reducible rfl
          rotate_left
          · simp only [Act.put, List.setIfInBounds_toArray, List.set_cons_zero, List.set_cons_succ, Go.Proofs.YtiddjadfkpjpdaaGreatDoorW.PrintLast.i64_w, Go.Proofs.YtiddjadfkpjpdaaGreatDoorW.PrintLast.i32_w]
            rfl
          refine take_ (i := 21) (N := some 66) (v := ?_) (a' := ?_) #[true, true, true, true, true, true, true, true, true, true, true, true, true, true, true, true, true, true, true, true, true, true, false, false, false, false] rfl rfl (by kernel_rfl) (fun _ _ _ h => h) (Or.inl ⟨by rfl, ?_⟩) hHeld ?_ ?_
          rotate_left
          · rintro w' ⟨s0, s1, s2, s3⟩; have t0 := blk_cell s0 0; have t1 := blk_cell s0 1; have t2 := blk_cell s0 2; have t3 := blk_cell s0 3; have t4 := blk_cell s0 4
            go_simp
            with_reducible rfl
          rotate_left
          · simp only [Act.put, List.setIfInBounds_toArray, List.set_cons_zero, List.set_cons_succ, Go.Proofs.YtiddjadfkpjpdaaGreatDoorW.PrintLast.i64_w, Go.Proofs.YtiddjadfkpjpdaaGreatDoorW.PrintLast.i32_w]
            rfl
          refine take_ (i := 22) (N := some 67) (v := ?_) (a' := ?_) #[true, true, true, true, true, true, true, true, true, true, true, true, true, true, true, true, true, true, true, true, true, true, true, false, false, false] rfl rfl (by kernel_rfl) (fun _ _ _ h => h) (Or.inl ⟨by rfl, ?_⟩) hHeld ?_ ?_
          rotate_left
          · rintro w' ⟨s0, s1, s2, s3⟩; have t0 := blk_cell s0 0; have t1 := blk_cell s0 1; have t2 := blk_cell s0 2; have t3 := blk_cell s0 3; have t4 := blk_cell s0 4
            go_simp
            with_reducible rfl
          rotate_left
          · simp only [Act.put, List.setIfInBounds_toArray, List.set_cons_zero, List.set_cons_succ, Go.Proofs.YtiddjadfkpjpdaaGreatDoorW.PrintLast.i64_w, Go.Proofs.YtiddjadfkpjpdaaGreatDoorW.PrintLast.i32_w]
            rfl
          refine one_ (i := 23) (N := some 68) #[true, true, true, true, true, true, true, true, true, true, true, true, true, true, true, true, true, true, true, true, true, true, true, true, false, false] rfl rfl (by kernel_rfl) (by decide) (fun K hK => ?_)
          refine goes_ Tryz.func39 (by kernel_rfl) rfl #[.agg #[.int .i64 x.f0, .int .i64 x.f1, .string x.f2, .slice A3 x.f3.length c3, .slice A4 x.f4.length c4], .agg #[.int .i64 x.f0, .int .i64 x.f1, .string x.f2, .slice A3 x.f3.length c3, .slice A4 x.f4.length c4]] (by rfl) rfl rfl (by (try simp only [List.map_toArray, List.map_cons, List.map_nil]); first | done | rfl) ?_
          refine (jsame_any _ x x A3 c3 A4 c4 A3 c3 A4 c4 _ (Nat.le_refl _) HF4.out.vx HF4.out.vx (Nat.le_trans hwx (by decide)) (Nat.le_trans hwx (by decide))).mono ?_
          rintro e q5 ⟨rfl, b5⟩
          rw [eqB_true rfl]
          have HF5 := Lib.hid (HF4.out.below b5)
          clear b5
          refine ⟨_, rfl, ?_⟩
          refine hK.out _ _ HF5.out.held (fun hHeld => ?_)
          clear hK K
          refine norm_ (a' := ?_) ?_ ?_
          rotate_left
          · show Act.put _ (some 68) _ = _
            simp only [Act.put, List.setIfInBounds_toArray, List.set_cons_zero, List.set_cons_succ, Go.Proofs.YtiddjadfkpjpdaaGreatDoorW.PrintLast.i64_w, Go.Proofs.YtiddjadfkpjpdaaGreatDoorW.PrintLast.i32_w]
            rfl
          refine pure_ (i := 24) (N := some 69) (v := ?_) (a' := ?_) #[true, true, true, true, true, true, true, true, true, true, true, true, true, true, true, true, true, true, true, true, true, true, true, true, true, false] rfl rfl (by kernel_rfl) (fun _ _ _ h => h) (Or.inl ⟨by rfl, ?_⟩) ?_ ?_
          rotate_left
          · intro w'
            go_simp
            with_reducible rfl
          rotate_left
          · simp only [Act.put, List.setIfInBounds_toArray, List.set_cons_zero, List.set_cons_succ, Go.Proofs.YtiddjadfkpjpdaaGreatDoorW.PrintLast.i64_w, Go.Proofs.YtiddjadfkpjpdaaGreatDoorW.PrintLast.i32_w]
            rfl
          refine pure_ (i := 25) (N := some 6) (v := ?_) (a' := ?_) #[true, true, true, true, true, true, true, true, true, true, true, true, true, true, true, true, true, true, true, true, true, true, true, true, true, true] rfl rfl (by kernel_rfl) (fun _ _ _ h => h) (Or.inl ⟨by rfl, ?_⟩) ?_ ?_
          rotate_left
          · intro w'
            go_simp
            with_reducible rfl
          rotate_left
          · simp only [Act.put, List.setIfInBounds_toArray, List.set_cons_zero, List.set_cons_succ, Go.Proofs.YtiddjadfkpjpdaaGreatDoorW.PrintLast.i64_w, Go.Proofs.YtiddjadfkpjpdaaGreatDoorW.PrintLast.i32_w]
            rfl
          refine done_ (by kernel_rfl) ?_
          simp only [Exit.then]
          apply_assumption
          go_wp2_with fail
          go_ret
          exact ⟨rfl, HF5.out.bw⟩
        · have el : ((x.f4.length : Int) != x.f3.length) = true := by simp; omega
          go_wp2_with fail
          refine (answers5_calls _ (HE.out.below HB5.out)).mono ?_
          rintro e wz ⟨rfl, bz⟩
          go_wp2_with fail
          go_ret
          exact ⟨rfl, HB5.out.trans (bz.mono HB5.out.size)⟩
      · have e6 : (x.f0 == 6) = false := by simp [h6]
        clear h6
        go_wp2_with fail
        refine (rfield_calls x key A3 c3 A4 c4 _ HXW5.out (by omega)).mono ?_
        rintro e w6 h6
        obtain ⟨F3, f3, F4, f4, rfl, hvf, b6⟩ := FieldP.as h6 o HO.out
        rw [← HH.out]
        have HF0 : Hid (FldM w x y o A3 c3 A4 c4 B3 d3 B4 d4 E3 e3 E4 e4 F3 f3 F4 f4 w4.heap.size w6.heap.size (w6.alloc (.cells #[.int .i64 o.f0, .int .i64 o.f1, .string o.f2, .slice F3 o.f3.length f3, .slice F4 o.f4.length f4] 38))) :=
          ⟨blk_alloc ((b6.block _ (blk_lt HV5.out)).trans HV5.out) _, blk_alloc ((b6.block _ (blk_lt HY5.out)).trans HY5.out) _, blk_alloc ((b6.block _ (blk_lt HO5.out)).trans HO5.out) _, World.alloc_heap_new _ _, (HXW5.out.below b6).below (ba _ _), (HYW5.out.below b6).below (ba _ _), (HVO5.out.below b6).below (ba _ _), hvf.below (ba _ _), (HB5.out.trans (b6.mono HB5.out.size)).trans ((ba _ _).mono (HB5.out.trans (b6.mono HB5.out.size)).size)⟩
        clear h6 hvf b6 v0 v1 v2 v3 v4
        go_wp2_with fail
        obtain ⟨w7, hw7⟩ : ∃ w7, w7 = w6.alloc (.cells #[.int .i64 o.f0, .int .i64 o.f1, .string o.f2, .slice F3 o.f3.length f3, .slice F4 o.f4.length f4] 38) := ⟨_, rfl⟩
        obtain ⟨g7, hg7⟩ : ∃ g7, g7 = w4.heap.size := ⟨_, rfl⟩
        obtain ⟨g9, hg9⟩ : ∃ g9, g9 = w6.heap.size := ⟨_, rfl⟩
        rw [← hw7, ← hg7, ← hg9] at HF0
        rw [← hw7, ← hg7, ← hg9]
        clear hw7 hg7 hg9
        refine start_ (n := 26) (S := fun w' => w'.heap[w.heap.size]? = some (.cells #[.int .i64 x.f0, .int .i64 x.f1, .string x.f2, .slice A3 x.f3.length c3, .slice A4 x.f4.length c4] 38 (0, 0)) ∧ w'.heap[w.heap.size + 1]? = some (.cells #[.int .i64 y.f0, .int .i64 y.f1, .string y.f2, .slice B3 y.f3.length d3, .slice B4 y.f4.length d4] 38 (0, 0)) ∧ w'.heap[g7]? = some (.cells #[.int .i64 o.f0, .int .i64 o.f1, .string o.f2, .slice E3 o.f3.length e3, .slice E4 o.f4.length e4] 38 (0, 0)) ∧ w'.heap[g9]? = some (.cells #[.int .i64 o.f0, .int .i64 o.f1, .string o.f2, .slice F3 o.f3.length f3, .slice F4 o.f4.length f4] 38 (0, 0))) (ds := []) #[false, false, false, false, false, false, false, false, false, false, false, false, false, false, false, false, false, false, false, false, false, false, false, false, false, false] (by kernel_rfl) rfl rfl HF0.out.drew.held (fun hHeld => ?_)
        refine one_ (i := 0) (N := some 45) #[true, false, false, false, false, false, false, false, false, false, false, false, false, false, false, false, false, false, false, false, false, false, false, false, false, false] rfl rfl (by kernel_rfl) (by decide) (fun K hK => ?_)
        refine goes_ Tryz.func30 (by kernel_rfl) rfl #[] (by rfl) rfl rfl (by (try simp only [List.map_toArray, List.map_cons, List.map_nil]); first | done | rfl) ?_
        refine (answers5_calls _ (HE.out.below HF0.out.drew.bw)).mono ?_
        rintro e q1 ⟨rfl, b1⟩
        have HF1 := Lib.hid (HF0.out.drew.below b1)
        clear b1
        refine ⟨_, rfl, ?_⟩
        refine hK.out _ _ HF1.out.held (fun hHeld => ?_)
        clear hK K
        refine norm_ (a' := ?_) ?_ ?_
        rotate_left
        · show Act.put _ (some 45) _ = _
          simp only [Act.put, List.setIfInBounds_toArray, List.set_cons_zero, List.set_cons_succ, Go.Proofs.YtiddjadfkpjpdaaGreatDoorW.PrintLast.i64_w, Go.Proofs.YtiddjadfkpjpdaaGreatDoorW.PrintLast.i32_w]
          rfl
        refine pure_ (i := 1) (N := some 46) (v := ?_) (a' := ?_) #[true, true, false, false, false, false, false, false, false, false, false, false, false, false, false, false, false, false, false, false, false, false, false, false, false, false] rfl rfl (by kernel_rfl) (fun _ _ _ h => h) (Or.inl ⟨by rfl, ?_⟩) ?_ ?_
        rotate_left
        · intro w'
          go_simp
          with_reducible rfl
        rotate_left
        · simp only [Act.put, List.setIfInBounds_toArray, List.set_cons_zero, List.set_cons_succ, Go.Proofs.YtiddjadfkpjpdaaGreatDoorW.PrintLast.i64_w, Go.Proofs.YtiddjadfkpjpdaaGreatDoorW.PrintLast.i32_w]
          rfl
        refine pure_ (i := 2) (N := some 47) (v := ?_) (a' := ?_) #[true, true, true, false, false, false, false, false, false, false, false, false, false, false, false, false, false, false, false, false, false, false, false, false, false, false] rfl rfl (by kernel_rfl) (fun _ _ _ h => h) (Or.inl ⟨by rfl, ?_⟩) ?_ ?_
        rotate_left
        · intro w'
          go_simp
          with_reducible rfl
        rotate_left
        · simp only [Act.put, List.setIfInBounds_toArray, List.set_cons_zero, List.set_cons_succ, Go.Proofs.YtiddjadfkpjpdaaGreatDoorW.PrintLast.i64_w, Go.Proofs.YtiddjadfkpjpdaaGreatDoorW.PrintLast.i32_w]
          rfl
        refine pure_ (i := 3) (N := some 48) (v := ?_) (a' := ?_) #[true, true, true, true, false, false, false, false, false, false, false, false, false, false, false, false, false, false, false, false, false, false, false, false, false, false] rfl rfl (by kernel_rfl) (fun _ _ _ h => h) (Or.inl ⟨by rfl, ?_⟩) ?_ ?_
        rotate_left
        · intro w'
          go_simp
          with_reducible rfl
        rotate_left
        · simp only [Act.put, List.setIfInBounds_toArray, List.set_cons_zero, List.set_cons_succ, Go.Proofs.YtiddjadfkpjpdaaGreatDoorW.PrintLast.i64_w, Go.Proofs.YtiddjadfkpjpdaaGreatDoorW.PrintLast.i32_w]
          rfl
        refine pure_ (i := 4) (N := some 49) (v := ?_) (a' := ?_) #[true, true, true, true, true, false, false, false, false, false, false, false, false, false, false, false, false, false, false, false, false, false, false, false, false, false] rfl rfl (by kernel_rfl) (fun _ _ _ h => h) (Or.inl ⟨by rfl, ?_⟩) ?_ ?_
        rotate_left
        · intro w'
          go_simp
          with_reducible rfl
        rotate_left
        · simp only [Act.put, List.setIfInBounds_toArray, List.set_cons_zero, List.set_cons_succ, Go.Proofs.YtiddjadfkpjpdaaGreatDoorW.PrintLast.i64_w, Go.Proofs.YtiddjadfkpjpdaaGreatDoorW.PrintLast.i32_w]
          rfl
        refine pure_ (i := 5) (N := some 50) (v := ?_) (a' := ?_) #[true, true, true, true, true, true, false, false, false, false, false, false, false, false, false, false, false, false, false, false, false, false, false, false, false, false] rfl rfl (by kernel_rfl) (fun _ _ _ h => h) (Or.inl ⟨by rfl, ?_⟩) ?_ ?_
        rotate_left
        · intro w'
          go_simp
          with_reducible rfl
        rotate_left
        · simp only [Act.put, List.setIfInBounds_toArray, List.set_cons_zero, List.set_cons_succ, Go.Proofs.YtiddjadfkpjpdaaGreatDoorW.PrintLast.i64_w, Go.Proofs.YtiddjadfkpjpdaaGreatDoorW.PrintLast.i32_w]
          rfl
        refine pure_ (i := 6) (N := some 51) (v := ?_) (a' := ?_) #[true, true, true, true, true, true, true, false, false, false, false, false, false, false, false, false, false, false, false, false, false, false, false, false, false, false] rfl rfl (by kernel_rfl) (fun _ _ _ h => h) (Or.inl ⟨by rfl, ?_⟩) ?_ ?_
        rotate_left
        · intro w'
          go_simp
          with_reducible rfl
        rotate_left
        · simp only [Act.put, List.setIfInBounds_toArray, List.set_cons_zero, List.set_cons_succ, Go.Proofs.YtiddjadfkpjpdaaGreatDoorW.PrintLast.i64_w, Go.Proofs.YtiddjadfkpjpdaaGreatDoorW.PrintLast.i32_w]
          rfl
        refine take_ (i := 7) (N := some 52) (v := ?_) (a' := ?_) #[true, true, true, true, true, true, true, true, false, false, false, false, false, false, false, false, false, false, false, false, false, false, false, false, false, false] rfl rfl (by kernel_rfl) (fun _ _ _ h => h) (Or.inl ⟨by rfl, ?_⟩) hHeld ?_ ?_
        rotate_left
        · rintro w' ⟨s0, s1, s2, s3⟩; have t0 := blk_cell s2 0; have t1 := blk_cell s2 1; have t2 := blk_cell s2 2; have t3 := blk_cell s2 3; have t4 := blk_cell s2 4
          go_simp
          with_reducible rfl
        rotate_left
        · simp only [Act.put, List.setIfInBounds_toArray, List.set_cons_zero, List.set_cons_succ, Go.Proofs.YtiddjadfkpjpdaaGreatDoorW.PrintLast.i64_w, Go.Proofs.YtiddjadfkpjpdaaGreatDoorW.PrintLast.i32_w]
          rfl
        refine take_ (i := 8) (N := some 53) (v := ?_) (a' := ?_) #[true, true, true, true, true, true, true, true, true, false, false, false, false, false, false, false, false, false, false, false, false, false, false, false, false, false] rfl rfl (by kernel_rfl) (fun _ _ _ h => h) (Or.inl ⟨by rfl, ?_⟩) hHeld ?_ ?_
        rotate_left
        · rintro w' ⟨s0, s1, s2, s3⟩; have t0 := blk_cell s3 0; have t1 := blk_cell s3 1; have t2 := blk_cell s3 2; have t3 := blk_cell s3 3; have t4 := blk_cell s3 4
          go_simp
          with_reducible rfl
        rotate_left
        · simp only [Act.put, List.setIfInBounds_toArray, List.set_cons_zero, List.set_cons_succ, Go.Proofs.YtiddjadfkpjpdaaGreatDoorW.PrintLast.i64_w, Go.Proofs.YtiddjadfkpjpdaaGreatDoorW.PrintLast.i32_w]
          rfl
        refine one_ (i := 9) (N := some 54) #[true, true, true, true, true, true, true, true, true, true, false, false, false, false, false, false, false, false, false, false, false, false, false, false, false, false] rfl rfl (by kernel_rfl) (by decide) (fun K hK => ?_)
        refine goes_ Tryz.func29 (by kernel_rfl) rfl #[.agg #[.int .i64 o.f0, .int .i64 o.f1, .string o.f2, .slice E3 o.f3.length e3, .slice E4 o.f4.length e4], .agg #[.int .i64 o.f0, .int .i64 o.f1, .string o.f2, .slice F3 o.f3.length f3, .slice F4 o.f4.length f4]] (by rfl) rfl rfl (by (try simp only [List.map_toArray, List.map_cons, List.map_nil]); first | done | rfl) ?_
        refine (rsame_any _ o o E3 e3 E4 e4 F3 f3 F4 f4 _ (Nat.le_refl _) HF1.out.vo1 HF1.out.vo2 HWO.out HWO.out).mono ?_
        rintro e q2 ⟨rfl, b2⟩
        rw [eqB_true rfl]
        have HF2 := Lib.hid (HF1.out.below b2)
        clear b2
        refine ⟨_, rfl, ?_⟩
        refine hK.out _ _ HF2.out.held (fun hHeld => ?_)
        clear hK K
        refine norm_ (a' := ?_) ?_ ?_
        rotate_left
        · show Act.put _ (some 54) _ = _
          simp only [Act.put, List.setIfInBounds_toArray, List.set_cons_zero, List.set_cons_succ, Go.Proofs.YtiddjadfkpjpdaaGreatDoorW.PrintLast.i64_w, Go.Proofs.YtiddjadfkpjpdaaGreatDoorW.PrintLast.i32_w]
          rfl
        refine pure_ (i := 10) (N := some 55) (v := ?_) (a' := ?_) #[true, true, true, true, true, true, true, true, true, true, true, false, false, false, false, false, false, false, false, false, false, false, false, false, false, false] rfl rfl (by kernel_rfl) (fun _ _ _ h => h) (Or.inl ⟨by rfl, ?_⟩) ?_ ?_
        rotate_left
        · intro w'
          go_simp
          with_reducible rfl
        rotate_left
        · simp only [Act.put, List.setIfInBounds_toArray, List.set_cons_zero, List.set_cons_succ, Go.Proofs.YtiddjadfkpjpdaaGreatDoorW.PrintLast.i64_w, Go.Proofs.YtiddjadfkpjpdaaGreatDoorW.PrintLast.i32_w]
          rfl
        refine pure_ (i := 11) (N := some 56) (v := ?_) (a' := ?_) #[true, true, true, true, true, true, true, true, true, true, true, true, false, false, false, false, false, false, false, false, false, false, false, false, false, false] rfl rfl (by kernel_rfl) (fun _ _ _ h => h) (Or.inl ⟨by rfl, ?_⟩) ?_ ?_
        rotate_left
        · intro w'
          go_simp
          with_reducible rfl
        rotate_left
        · simp only [Act.put, List.setIfInBounds_toArray, List.set_cons_zero, List.set_cons_succ, Go.Proofs.YtiddjadfkpjpdaaGreatDoorW.PrintLast.i64_w, Go.Proofs.YtiddjadfkpjpdaaGreatDoorW.PrintLast.i32_w]
          rfl
        refine take_ (i := 12) (N := some 57) (v := ?_) (a' := ?_) #[true, true, true, true, true, true, true, true, true, true, true, true, true, false, false, false, false, false, false, false, false, false, false, false, false, false] rfl rfl (by kernel_rfl) (fun _ _ _ h => h) (Or.inl ⟨by rfl, ?_⟩) hHeld ?_ ?_
        rotate_left
        · rintro w' ⟨s0, s1, s2, s3⟩; have t0 := blk_cell s0 0; have t1 := blk_cell s0 1; have t2 := blk_cell s0 2; have t3 := blk_cell s0 3; have t4 := blk_cell s0 4
          go_simp
          with_reducible rfl
        rotate_left
        · simp only [Act.put, List.setIfInBounds_toArray, List.set_cons_zero, List.set_cons_succ, Go.Proofs.YtiddjadfkpjpdaaGreatDoorW.PrintLast.i64_w, Go.Proofs.YtiddjadfkpjpdaaGreatDoorW.PrintLast.i32_w]
          rfl
        refine take_ (i := 13) (N := some 58) (v := ?_) (a' := ?_) #[true, true, true, true, true, true, true, true, true, true, true, true, true, true, false, false, false, false, false, false, false, false, false, false, false, false] rfl rfl (by kernel_rfl) (fun _ _ _ h => h) (Or.inl ⟨by rfl, ?_⟩) hHeld ?_ ?_
        rotate_left
        · rintro w' ⟨s0, s1, s2, s3⟩; have t0 := blk_cell s1 0; have t1 := blk_cell s1 1; have t2 := blk_cell s1 2; have t3 := blk_cell s1 3; have t4 := blk_cell s1 4
          go_simp
          with_reducible rfl
        rotate_left
        · simp only [Act.put, List.setIfInBounds_toArray, List.set_cons_zero, List.set_cons_succ, Go.Proofs.YtiddjadfkpjpdaaGreatDoorW.PrintLast.i64_w, Go.Proofs.YtiddjadfkpjpdaaGreatDoorW.PrintLast.i32_w]
          rfl
        refine take_ (i := 15) (N := some 60) (v := ?_) (a' := ?_) #[true, true, true, true, true, true, true, true, true, true, true, true, true, true, false, true, false, false, false, false, false, false, false, false, false, false] rfl rfl (by kernel_rfl) (fun _ _ _ h => h) (Or.inl ⟨by rfl, ?_⟩) hHeld ?_ ?_
        rotate_left
        · rintro w' ⟨s0, s1, s2, s3⟩; have t0 := blk_cell s0 0; have t1 := blk_cell s0 1; have t2 := blk_cell s0 2; have t3 := blk_cell s0 3; have t4 := blk_cell s0 4
          go_simp
          with_reducible rfl
        rotate_left
        · simp only [Act.put, List.setIfInBounds_toArray, List.set_cons_zero, List.set_cons_succ, Go.Proofs.YtiddjadfkpjpdaaGreatDoorW.PrintLast.i64_w, Go.Proofs.YtiddjadfkpjpdaaGreatDoorW.PrintLast.i32_w]
          rfl
        refine take_ (i := 16) (N := some 61) (v := ?_) (a' := ?_) #[true, true, true, true, true, true, true, true, true, true, true, true, true, true, false, true, true, false, false, false, false, false, false, false, false, false] rfl rfl (by kernel_rfl) (fun _ _ _ h => h) (Or.inl ⟨by rfl, ?_⟩) hHeld ?_ ?_
        rotate_left
        · rintro w' ⟨s0, s1, s2, s3⟩; have t0 := blk_cell s1 0; have t1 := blk_cell s1 1; have t2 := blk_cell s1 2; have t3 := blk_cell s1 3; have t4 := blk_cell s1 4
          go_simp
          with_reducible rfl
        rotate_left
        · simp only [Act.put, List.setIfInBounds_toArray, List.set_cons_zero, List.set_cons_succ, Go.Proofs.YtiddjadfkpjpdaaGreatDoorW.PrintLast.i64_w, Go.Proofs.YtiddjadfkpjpdaaGreatDoorW.PrintLast.i32_w]
          rfl
        refine one_ (i := 14) (N := some 59) #[true, true, true, true, true, true, true, true, true, true, true, true, true, true, true, true, true, false, false, false, false, false, false, false, false, false] rfl rfl (by kernel_rfl) (by decide) (fun K hK => ?_)
        refine goes_ Tryz.func39 (by kernel_rfl) rfl #[.agg #[.int .i64 x.f0, .int .i64 x.f1, .string x.f2, .slice A3 x.f3.length c3, .slice A4 x.f4.length c4], .agg #[.int .i64 y.f0, .int .i64 y.f1, .string y.f2, .slice B3 y.f3.length d3, .slice B4 y.f4.length d4]] (by rfl) rfl rfl (by (try simp only [List.map_toArray, List.map_cons, List.map_nil]); first | done | rfl) ?_
        refine (jsame_any _ x y A3 c3 A4 c4 B3 d3 B4 d4 _ (Nat.le_refl _) HF2.out.vx HF2.out.vy (Nat.le_trans hwx (by decide)) (Nat.le_trans hwy (by decide))).mono ?_
        rintro e q3 ⟨rfl, b3⟩
        have HF3 := Lib.hid (HF2.out.below b3)
        clear b3
        refine ⟨_, rfl, ?_⟩
        refine hK.out _ _ HF3.out.held (fun hHeld => ?_)
        clear hK K
        refine norm_ (a' := ?_) ?_ ?_
        rotate_left
        · show Act.put _ (some 59) _ = _
          simp only [Act.put, List.setIfInBounds_toArray, List.set_cons_zero, List.set_cons_succ, Go.Proofs.YtiddjadfkpjpdaaGreatDoorW.PrintLast.i64_w, Go.Proofs.YtiddjadfkpjpdaaGreatDoorW.PrintLast.i32_w]
          rfl
        refine one_ (i := 17) (N := some 62) #[true, true, true, true, true, true, true, true, true, true, true, true, true, true, true, true, true, true, false, false, false, false, false, false, false, false] rfl rfl (by kernel_rfl) (by decide) (fun K hK => ?_)
        refine goes_ Tryz.func29 (by kernel_rfl) rfl #[.agg #[.int .i64 x.f0, .int .i64 x.f1, .string x.f2, .slice A3 x.f3.length c3, .slice A4 x.f4.length c4], .agg #[.int .i64 y.f0, .int .i64 y.f1, .string y.f2, .slice B3 y.f3.length d3, .slice B4 y.f4.length d4]] (by rfl) rfl rfl (by (try simp only [List.map_toArray, List.map_cons, List.map_nil]); first | done | rfl) ?_
        refine (rsame_any _ x y A3 c3 A4 c4 B3 d3 B4 d4 _ (Nat.le_refl _) HF3.out.vx HF3.out.vy (Nat.le_trans hwx (by decide)) (Nat.le_trans hwy (by decide))).mono ?_
        rintro e q4 ⟨rfl, b4⟩
        have HF4 := Lib.hid (HF3.out.below b4)
        clear b4
        refine ⟨_, rfl, ?_⟩
        refine hK.out _ _ HF4.out.held (fun hHeld => ?_)
        clear hK K
        refine norm_ (a' := ?_) ?_ ?_
        rotate_left
        · show Act.put _ (some 62) _ = _
          simp only [Act.put, List.setIfInBounds_toArray, List.set_cons_zero, List.set_cons_succ, Go.Proofs.YtiddjadfkpjpdaaGreatDoorW.PrintLast.i64_w, Go.Proofs.YtiddjadfkpjpdaaGreatDoorW.PrintLast.i32_w]
          rfl
        refine pure_ (i := 18) (N := some 63) (v := ?_) (a' := ?_) #[true, true, true, true, true, true, true, true, true, true, true, true, true, true, true, true, true, true, true, false, false, false, false, false, false, false] rfl rfl (by kernel_rfl) (fun _ _ _ h => h) (Or.inl ⟨by rfl, ?_⟩) ?_ ?_
        rotate_left
        · intro w'
          go_simp
          with_reducible rfl
        rotate_left
        · simp only [Act.put, List.setIfInBounds_toArray, List.set_cons_zero, List.set_cons_succ, Go.Proofs.YtiddjadfkpjpdaaGreatDoorW.PrintLast.i64_w, Go.Proofs.YtiddjadfkpjpdaaGreatDoorW.PrintLast.i32_w]
          rfl
        refine pure_ (i := 19) (N := some 64) (v := ?_) (a' := ?_) #[true, true, true, true, true, true, true, true, true, true, true, true, true, true, true, true, true, true, true, true, false, false, false, false, false, false] rfl rfl (by kernel_rfl) (fun _ _ _ h => h) (Or.inl ⟨by rfl, ?_⟩) ?_ ?_
        rotate_left
        · intro w'
          go_simp
          with_reducible rfl
        rotate_left
        · simp only [Act.put, List.setIfInBounds_toArray, List.set_cons_zero, List.set_cons_succ, Go.Proofs.YtiddjadfkpjpdaaGreatDoorW.PrintLast.i64_w, Go.Proofs.YtiddjadfkpjpdaaGreatDoorW.PrintLast.i32_w]
          rfl
        refine pure_ (i := 20) (N := some 65) (v := ?_) (a' := ?_) #[true, true, true, true, true, true, true, true, true, true, true, true, true, true, true, true, true, true, true, true, true, false, false, false, false, false] rfl rfl (by kernel_rfl) (fun _ _ _ h => h) (Or.inl ⟨by rfl, ?_⟩) ?_ ?_
        rotate_left
        · intro w'
          go_simp
          with_reducible rfl
        rotate_left
        · simp only [Act.put, List.setIfInBounds_toArray, List.set_cons_zero, List.set_cons_succ, Go.Proofs.YtiddjadfkpjpdaaGreatDoorW.PrintLast.i64_w, Go.Proofs.YtiddjadfkpjpdaaGreatDoorW.PrintLast.i32_w]
          rfl
        refine take_ (i := 21) (N := some 66) (v := ?_) (a' := ?_) #[true, true, true, true, true, true, true, true, true, true, true, true, true, true, true, true, true, true, true, true, true, true, false, false, false, false] rfl rfl (by kernel_rfl) (fun _ _ _ h => h) (Or.inl ⟨by rfl, ?_⟩) hHeld ?_ ?_
        rotate_left
        · rintro w' ⟨s0, s1, s2, s3⟩; have t0 := blk_cell s0 0; have t1 := blk_cell s0 1; have t2 := blk_cell s0 2; have t3 := blk_cell s0 3; have t4 := blk_cell s0 4
          go_simp
          with_reducible rfl
        rotate_left
        · simp only [Act.put, List.setIfInBounds_toArray, List.set_cons_zero, List.set_cons_succ, Go.Proofs.YtiddjadfkpjpdaaGreatDoorW.PrintLast.i64_w, Go.Proofs.YtiddjadfkpjpdaaGreatDoorW.PrintLast.i32_w]
          rfl
        refine take_ (i := 22) (N := some 67) (v := ?_) (a' := ?_) #[true, true, true, true, true, true, true, true, true, true, true, true, true, true, true, true, true, true, true, true, true, true, true, false, false, false] rfl rfl (by kernel_rfl) (fun _ _ _ h => h) (Or.inl ⟨by rfl, ?_⟩) hHeld ?_ ?_
        rotate_left
        · rintro w' ⟨s0, s1, s2, s3⟩; have t0 := blk_cell s0 0; have t1 := blk_cell s0 1; have t2 := blk_cell s0 2; have t3 := blk_cell s0 3; have t4 := blk_cell s0 4
          go_simp
          with_reducible rfl
        rotate_left
        · simp only [Act.put, List.setIfInBounds_toArray, List.set_cons_zero, List.set_cons_succ, Go.Proofs.YtiddjadfkpjpdaaGreatDoorW.PrintLast.i64_w, Go.Proofs.YtiddjadfkpjpdaaGreatDoorW.PrintLast.i32_w]
          rfl
        refine one_ (i := 23) (N := some 68) #[true, true, true, true, true, true, true, true, true, true, true, true, true, true, true, true, true, true, true, true, true, true, true, true, false, false] rfl rfl (by kernel_rfl) (by decide) (fun K hK => ?_)
        refine goes_ Tryz.func39 (by kernel_rfl) rfl #[.agg #[.int .i64 x.f0, .int .i64 x.f1, .string x.f2, .slice A3 x.f3.length c3, .slice A4 x.f4.length c4], .agg #[.int .i64 x.f0, .int .i64 x.f1, .string x.f2, .slice A3 x.f3.length c3, .slice A4 x.f4.length c4]] (by rfl) rfl rfl (by (try simp only [List.map_toArray, List.map_cons, List.map_nil]); first | done | rfl) ?_
        refine (jsame_any _ x x A3 c3 A4 c4 A3 c3 A4 c4 _ (Nat.le_refl _) HF4.out.vx HF4.out.vx (Nat.le_trans hwx (by decide)) (Nat.le_trans hwx (by decide))).mono ?_
        rintro e q5 ⟨rfl, b5⟩
        rw [eqB_true rfl]
        have HF5 := Lib.hid (HF4.out.below b5)
        clear b5
        refine ⟨_, rfl, ?_⟩
        refine hK.out _ _ HF5.out.held (fun hHeld => ?_)
        clear hK K
        refine norm_ (a' := ?_) ?_ ?_
        rotate_left
        · show Act.put _ (some 68) _ = _
          simp only [Act.put, List.setIfInBounds_toArray, List.set_cons_zero, List.set_cons_succ, Go.Proofs.YtiddjadfkpjpdaaGreatDoorW.PrintLast.i64_w, Go.Proofs.YtiddjadfkpjpdaaGreatDoorW.PrintLast.i32_w]
          rfl
        refine pure_ (i := 24) (N := some 69) (v := ?_) (a' := ?_) #[true, true, true, true, true, true, true, true, true, true, true, true, true, true, true, true, true, true, true, true, true, true, true, true, true, false] rfl rfl (by kernel_rfl) (fun _ _ _ h => h) (Or.inl ⟨by rfl, ?_⟩) ?_ ?_
        rotate_left
        · intro w'
          go_simp
          with_reducible rfl
        rotate_left
        · simp only [Act.put, List.setIfInBounds_toArray, List.set_cons_zero, List.set_cons_succ, Go.Proofs.YtiddjadfkpjpdaaGreatDoorW.PrintLast.i64_w, Go.Proofs.YtiddjadfkpjpdaaGreatDoorW.PrintLast.i32_w]
          rfl
        refine pure_ (i := 25) (N := some 6) (v := ?_) (a' := ?_) #[true, true, true, true, true, true, true, true, true, true, true, true, true, true, true, true, true, true, true, true, true, true, true, true, true, true] rfl rfl (by kernel_rfl) (fun _ _ _ h => h) (Or.inl ⟨by rfl, ?_⟩) ?_ ?_
        rotate_left
        · intro w'
          go_simp
          with_reducible rfl
        rotate_left
        · simp only [Act.put, List.setIfInBounds_toArray, List.set_cons_zero, List.set_cons_succ, Go.Proofs.YtiddjadfkpjpdaaGreatDoorW.PrintLast.i64_w, Go.Proofs.YtiddjadfkpjpdaaGreatDoorW.PrintLast.i32_w]
          rfl
        refine done_ (by kernel_rfl) ?_
        simp only [Exit.then]
        apply_assumption
        go_wp2_with fail
        go_ret
        exact ⟨rfl, HF5.out.bw⟩
end Go.Proofs.YtiddjadfkpjpdaaGreatDoor.Q
