/- slices.Index, slices.Contains over texts; json.Field. -/
import Derived.Test.YtiddjadfkpjpdaaGreatDoorHCopied
set_option linter.unusedVariables false
set_option linter.unusedSimpArgs false
namespace Go.Proofs.YtiddjadfkpjpdaaGreatDoor.Q
open Go.RowKit Go.Proofs.YtiddjadfkpjpdaaGreatDoorW.PrintWords Go.Proofs.YtiddjadfkpjpdaaGreatDoorW.PrintLast
/-- the place of a key; -1: nowhere -/
def idxK (ks : List ByteArray) (key : ByteArray) : Int := if atK ks key < ks.length then atK ks key else -1
theorem idxK_hit {ks : List ByteArray} {key : ByteArray} (k : Nat) (hk : k < ks.length) (h : ks[k] = key) (hn : ∀ j, (hj : j < k) → ks[j]'(by omega) ≠ key) : idxK ks key = k := by
  unfold idxK; rw [atK_at k hk h hn, if_pos hk]
theorem idxK_no {ks : List ByteArray} {key : ByteArray} (hn : ∀ j, (hj : j < ks.length) → ks[j] ≠ key) : idxK ks key = -1 := by
  unfold idxK; rw [if_neg (atK_no hn)]
theorem idxK_lo (ks : List ByteArray) (key : ByteArray) : -1 ≤ idxK ks key := by unfold idxK; split <;> omega
theorem idxK_hi (ks : List ByteArray) (key : ByteArray) : idxK ks key < ks.length + 1 := by unfold idxK; split <;> omega
set_option maxRecDepth 100000 in
set_option maxHeartbeats 8000000 in
theorem index_calls (ks : List ByteArray) (key : ByteArray) (A : Option Addr) (c : Nat) (w : World) (hx : Kd.string.C w A ks.length ks) (hm : ks.length ≤ 1099511627776) :
    Calls Tryz.prog 70 #[.slice A ks.length c, .string key] w fun e w' => e = .returned (.int .i64 (idxK ks key)) ∧ w = w' := by
  go_enter Tryz.func70, Tryz.ntmps70
  go_wp2_with fail
  go_loop [8] (fun i => ∃ k : Nat, k ≤ ks.length ∧ i = .int .i64 k ∧ Hid (∀ j, (hj : j < k) → (hk : k ≤ ks.length) → ks[j]'(by omega) ≠ key)) (fun i => ks.length - (intOf i).toNat)
  case atStart => exact ⟨0, Nat.zero_le _, rfl, fun j hj => by omega⟩
  case round =>
    obtain ⟨k, hk, rfl, hN⟩ := hrel
    by_cases hlt : k < ks.length
    · obtain ⟨b1, o1, rfl, hb1, hc1⟩ := at_str hx k hlt
      by_cases he : ks[k] = key
      · have e5 : (key.toList == ks[k].toList) = true := by simp [he]
        have hr : Hid (idxK ks key = k) := idxK_hit k hlt he (fun j hj => hN.out j hj hk)
        clear he
        go_wp2_with fail
        go_ret
        exact ⟨by rw [hr.out]; rfl, rfl⟩
      · have e5 := str_ne (Ne.symm he)
        have HE := Lib.hid he
        clear he
        go_wp2_with fail
        go_round
        case rel =>
          refine ⟨k + 1, by omega, by go_num, ?_⟩
          intro j hj hk1
          by_cases e : j = k
          · subst e; exact HE.out
          · exact hN.out j (by omega) hk
        case measure => simp [intOf]; omega
    · have hr : Hid (idxK ks key = -1) := idxK_no (fun j hj => hN.out j (by omega) hk)
      go_wp2_with fail
      go_ret
      exact ⟨by rw [hr.out]; rfl, rfl⟩
set_option maxRecDepth 100000 in
set_option maxHeartbeats 8000000 in
theorem contains_calls (ks : List ByteArray) (key : ByteArray) (A : Option Addr) (c : Nat) (w : World) (hx : Kd.string.C w A ks.length ks) (hm : ks.length ≤ 1099511627776) :
    Calls Tryz.prog 72 #[.slice A ks.length c, .string key] w fun e w' => e = .returned (.bool (decide (0 ≤ idxK ks key))) ∧ w = w' := by
  have H := Lib.hid (index_calls ks key A c w hx hm)
  clear hx
  go_enter Tryz.func72, Tryz.ntmps72
  go_wp2_with fail
  refine H.out.mono ?_
  rintro e w' ⟨rfl, rfl⟩
  go_wp2_with fail
  go_ret
  exact ⟨rfl, rfl⟩
/-- What Field tells. -/
def FieldJP (x : S38) (key : ByteArray) (w : World) (e : Ending) (w' : World) : Prop :=
  Below w.heap.size w w' ∧ ((∃ y A3 c3 A4, fieldB x key = some y ∧ e = .returned (.tuple #[.agg #[.int .i64 y.f0, .int .i64 y.f1, .string y.f2, .slice A3 y.f3.length c3, .slice A4 y.f4.length y.f4.length], .bool true]) ∧ Own w' w.heap.size y A3 c3 A4 ∧ y.wt < x.wt) ∨
   (fieldB x key = none ∧ e = .returned (.tuple #[.agg #[.int .i64 0, .int .i64 0, .string ⟨#[]⟩, .slice none 0 0, .slice none 0 0], .bool false])))
theorem fieldB_at (x : S38) (key : ByteArray) : fieldB x key = if x.f0 = 6 ∧ 0 ≤ idxK x.f4 key then x.f3[(idxK x.f4 key).toNat]? else none := by
  unfold fieldB idxK
  by_cases h : atK x.f4 key < x.f4.length
  · simp [h]
  · simp [h]
theorem Own.far {w w' : World} {base : Nat} {x : S38} {A3 : Option Addr} {c3 : Nat} {A4 : Option Addr} (h : Own w base x A3 c3 A4) (hf : ∀ q, base ≤ q → q < w.heap.size → w'.heap[q]? = w.heap[q]?) : Own w' base x A3 c3 A4 := by
  obtain ⟨cap, h4⟩ := h.r4
  exact ⟨Kd.R_mono (Kd.R_step (Kd.R_bound h.r3) (fun q hq hl => hf q hq.2.1 hl)) (fun _ _ => trivial), cap, Kd.R_mono (Kd.R_step (Kd.R_bound h4) (fun q hq hl => hf q hq.2.1 hl)) (fun _ _ => trivial)⟩
set_option maxRecDepth 100000 in
set_option maxHeartbeats 8000000 in
theorem jfield_calls (x : S38) (key : ByteArray) (A3 : Option Addr) (c3 : Nat) (A4 : Option Addr) (c4 : Nat) (w : World) (hx : VC w x A3 c3 A4 c4) (hwx : x.wt ≤ 1073741824) :
    Calls Tryz.prog 33 #[.agg #[.int .i64 x.f0, .int .i64 x.f1, .string x.f2, .slice A3 x.f3.length c3, .slice A4 x.f4.length c4], .string key] w (FieldJP x key w) := by
  have hl3 := wt_len3 x
  have hl4 := wt_len4 x
  have hi1 := idxK_lo x.f4 key
  have hi2 := idxK_hi x.f4 key
  have hfb := Lib.hid (fieldB_at x key)
  obtain ⟨W1, hW1⟩ : ∃ W1, (w.alloc (.cells #[.int .i64 x.f0, .int .i64 x.f1, .string x.f2, .slice A3 x.f3.length c3, .slice A4 x.f4.length c4] 38)).alloc (.cells #[.int .i64 0, .int .i64 0, .string ⟨#[]⟩, .slice none 0 0, .slice none 0 0] 38) = W1 := ⟨_, rfl⟩
  have hb1 : Below w.heap.size w W1 := by rw [← hW1]; exact ba2 _ _ _
  have hs1 : w.heap.size + 1 < W1.heap.size := by rw [← hW1]; simp
  have hV1 : W1.heap[w.heap.size]? = some (.cells #[.int .i64 x.f0, .int .i64 x.f1, .string x.f2, .slice A3 x.f3.length c3, .slice A4 x.f4.length c4] 38 (0, 0)) := by
    rw [← hW1]; exact ((ba _ _).block _ (by simp)).trans (World.alloc_heap_new w _)
  have hZ1 : W1.heap[w.heap.size + 1]? = some (.cells #[.int .i64 0, .int .i64 0, .string ⟨#[]⟩, .slice none 0 0, .slice none 0 0] 38 (0, 0)) := by
    rw [← hW1]; have := World.alloc_heap_new (w.alloc (.cells #[.int .i64 x.f0, .int .i64 x.f1, .string x.f2, .slice A3 x.f3.length c3, .slice A4 x.f4.length c4] 38)) (.cells #[.int .i64 0, .int .i64 0, .string ⟨#[]⟩, .slice none 0 0, .slice none 0 0] 38); rwa [World.size_alloc] at this
  have HX1 := Lib.hid (hx.below hb1)
  have HB1 := Lib.hid hb1
  have HW1 := Lib.hid hW1
  have HZ1 := Lib.hid hZ1
  have HIX := Lib.hid (index_calls x.f4 key A4 c4 W1 (hx.below hb1).g4 (by omega))
  have r0 := blk_cell hV1 0
  have r3 := blk_cell hV1 3
  have r4 := blk_cell hV1 4
  have z0 := blk_cell hZ1 0
  have z1 := blk_cell hZ1 1
  have z2 := blk_cell hZ1 2
  have z3 := blk_cell hZ1 3
  have z4 := blk_cell hZ1 4
  have y0 := blk_frozen hZ1 0
  have y1 := blk_frozen hZ1 1
  have y2 := blk_frozen hZ1 2
  have y3 := blk_frozen hZ1 3
  have y4 := blk_frozen hZ1 4
  clear hW1 hb1 hx hV1 hZ1
  by_cases h6 : x.f0 = 6
  · have e6 : (x.f0 != 6) = false := by simp [h6]
    by_cases h0 : 0 ≤ idxK x.f4 key
    · have n0 : ¬ idxK x.f4 key < 0 := by omega
      obtain ⟨k, hkk⟩ : ∃ k : Nat, idxK x.f4 key = k := ⟨(idxK x.f4 key).toNat, by omega⟩
      rw [hkk] at HIX hfb n0
      by_cases hlt : k < x.f3.length
      · have n1 : ¬ (x.f3.length : Int) ≤ (k : Int) := by omega
        have hr : Hid (fieldB x key = some x.f3[k]) := by
          show _ = _
          rw [hfb.out, if_pos ⟨h6, by omega⟩, Int.toNat_natCast, List.getElem?_eq_getElem hlt]
        obtain ⟨b2, o2, A3', c3', A4', c4', rfl, hb2, g0, g1, g2, g3, g4, gv⟩ := at_val HX1.out.g3 k hlt
        have hwi := wt_elem x k hlt
        clear h6 hkk h0 hi1 hi2 hfb
        go_enter Tryz.func33, Tryz.ntmps33
        go_wp2_with fail
        rw [HW1.out]
        refine HIX.out.mono ?_
        rintro e w' ⟨rfl, rfl⟩
        go_wp2_with fail
        refine (copied_any _ x.f3[k] A3' c3' A4' c4' W1 (Nat.le_refl _) gv (by omega)).mono ?_
        rintro e w3 ⟨E3, e3, E4, rfl, ho3, b3⟩
        have HO3 := Lib.hid ho3
        have HB3 := Lib.hid (HB1.out.trans (b3.mono HB1.out.size))
        have hZ3 := (b3.block _ hs1).trans HZ1.out
        have HZ3 := Lib.hid hZ3
        have z0 := blk_cell hZ3 0
        have z1 := blk_cell hZ3 1
        have z2 := blk_cell hZ3 2
        have z3 := blk_cell hZ3 3
        have z4 := blk_cell hZ3 4
        have y0 := blk_frozen hZ3 0
        have y1 := blk_frozen hZ3 1
        have y2 := blk_frozen hZ3 2
        have y3 := blk_frozen hZ3 3
        have y4 := blk_frozen hZ3 4
        clear ho3 b3 hZ3
        go_wp2_with fail
        refine bodyPost_ret (res_two rfl rfl (set5_blk HZ3.out (.int .i64 x.f3[k].f0) (.int .i64 x.f3[k].f1) (.string x.f3[k].f2) (.slice E3 x.f3[k].f3.length e3) (.slice E4 x.f3[k].f4.length x.f3[k].f4.length)) rfl rfl) rfl ?_
        exact ⟨set5_below HB3.out _ (by omega) _ _ _ _ _, .inl ⟨_, _, _, _, hr.out, rfl, (HO3.out.far (fun q hq _ => set5_far _ _ _ _ _ _ _ q (by omega))).lower (by omega), hwi⟩⟩
      · have n1 : (x.f3.length : Int) ≤ (k : Int) := by omega
        have hr : Hid (fieldB x key = none) := by
          show _ = _
          rw [hfb.out, if_pos ⟨h6, by omega⟩, Int.toNat_natCast, List.getElem?_eq_none (by omega)]
        clear h6 hkk h0 hi1 hi2 hfb
        go_enter Tryz.func33, Tryz.ntmps33
        go_wp2_with fail
        rw [HW1.out]
        refine HIX.out.mono ?_
        rintro e w' ⟨rfl, rfl⟩
        go_wp2_with fail
        refine bodyPost_ret (res_two rfl rfl (set5_blk HZ1.out (.int .i64 0) (.int .i64 0) (.string ⟨#[]⟩) (.slice none 0 0) (.slice none 0 0)) rfl rfl) rfl ?_
        exact ⟨set5_below HB1.out _ (by omega) _ _ _ _ _, .inr ⟨hr.out, rfl⟩⟩
    · have n0 : idxK x.f4 key < 0 := by omega
      have hr : Hid (fieldB x key = none) := by show _ = _; rw [hfb.out, if_neg (fun h => h0 h.2)]
      clear h6 h0 hfb
      go_enter Tryz.func33, Tryz.ntmps33
      go_wp2_with fail
      rw [HW1.out]
      refine HIX.out.mono ?_
      rintro e w' ⟨rfl, rfl⟩
      go_wp2_with fail
      refine bodyPost_ret (res_two rfl rfl (set5_blk HZ1.out (.int .i64 0) (.int .i64 0) (.string ⟨#[]⟩) (.slice none 0 0) (.slice none 0 0)) rfl rfl) rfl ?_
      exact ⟨set5_below HB1.out _ (by omega) _ _ _ _ _, .inr ⟨hr.out, rfl⟩⟩
  · have hr : Hid (fieldB x key = none) := fieldB_kind h6
    have e6 : (x.f0 != 6) = true := by simp [h6]
    clear h6
    go_enter Tryz.func33, Tryz.ntmps33
    go_wp2_with fail
    rw [HW1.out]
    refine HIX.out.mono ?_
    rintro e w' ⟨rfl, rfl⟩
    go_wp2_with fail
    refine bodyPost_ret (res_two rfl rfl (set5_blk HZ1.out (.int .i64 0) (.int .i64 0) (.string ⟨#[]⟩) (.slice none 0 0) (.slice none 0 0)) rfl rfl) rfl ?_
    exact ⟨set5_below HB1.out _ (by omega) _ _ _ _ _, .inr ⟨hr.out, rfl⟩⟩
end Go.Proofs.YtiddjadfkpjpdaaGreatDoor.Q
