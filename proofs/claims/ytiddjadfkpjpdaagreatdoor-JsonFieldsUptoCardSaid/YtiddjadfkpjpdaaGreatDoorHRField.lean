/- ref.Field: of an object the value of a key. -/
import Derived.Test.YtiddjadfkpjpdaaGreatDoorHSameJ
import Derived.Laws.ResultCell
import Derived.RangeFuncRecord
set_option linter.unusedVariables false
set_option linter.unusedSimpArgs false
namespace Go.Proofs.YtiddjadfkpjpdaaGreatDoor.Q
open Go.RowKit Go.Proofs.YtiddjadfkpjpdaaGreatDoorW.PrintWords Go.Proofs.YtiddjadfkpjpdaaGreatDoorW.PrintLast
/-- A value and a number or a bool as results. -/
theorem res_two {f : Func} {p u : Tmp} (h : f.results = #[.cell p 38, .tmp u]) {tmps : Array Value} {w : World} {g : Nat} {cs : Array Value} {n : Value} (hp : tmps.getD p undef = .pointer (some ⟨g, 0, none⟩)) (hg : w.heap[g]? = some (.cells cs 38 (0, 0))) (hc : cs.size = 5) (h3 : tmps.getD u undef = n) :
    (results f tmps).run Tryz.prog w = .ok (.tuple #[.agg cs, n]) w := by
  rw [results_cell_tmp h, hp, h3]
  have := run_loadVar_row (P := Tryz.prog) w g 38 38 cs (0, 0) _ hg Tryz.underlying38 rfl (by rw [hc]; kernel_rfl)
  simp [asAddr, this, Result.andThen]
theorem set5_below {B : Nat} {w0 w : World} (h : Below B w0 w) (g : Nat) (hg : B ≤ g) (v0 v1 v2 v3 v4 : Value) : Below B w0 (set5 w g v0 v1 v2 v3 v4) := by
  unfold set5
  exact ((((h.setCell hg _).setCell hg _).setCell hg _).setCell hg _).setCell hg _
/-- the first place of a key -/
def atK (ks : List ByteArray) (key : ByteArray) : Nat := ks.findIdx (fun s => decide (s = key))
theorem atK_lt {ks : List ByteArray} {key : ByteArray} (h : key ∈ ks) : atK ks key < ks.length := by
  unfold atK; exact List.findIdx_lt_length.2 ⟨key, h, by simp⟩
theorem atK_at {ks : List ByteArray} {key : ByteArray} (k : Nat) (hk : k < ks.length) (h : ks[k] = key) (hn : ∀ j, (hj : j < k) → ks[j]'(by omega) ≠ key) : atK ks key = k := by
  unfold atK
  rw [List.findIdx_eq hk]
  exact ⟨by simp [h], fun j hj => by simp [hn j hj]⟩
theorem atK_hit {ks : List ByteArray} {key : ByteArray} (h : atK ks key < ks.length) : ks[atK ks key] = key := by
  have := List.findIdx_getElem (xs := ks) (p := fun s => decide (s = key)) (w := h)
  exact of_decide_eq_true this
theorem atK_no {ks : List ByteArray} {key : ByteArray} (hn : ∀ j, (hj : j < ks.length) → ks[j] ≠ key) : ¬ atK ks key < ks.length := fun h => hn _ h (atK_hit h)
/-- of an object the value of a key -/
def fieldB (x : S38) (key : ByteArray) : Option S38 := if x.f0 = 6 ∧ atK x.f4 key < x.f4.length then x.f3[atK x.f4 key]? else none
theorem fieldB_some {x : S38} {key : ByteArray} {k : Nat} (h6 : x.f0 = 6) (hk : k < x.f4.length) (hk3 : k < x.f3.length) (h : x.f4[k] = key) (hn : ∀ j, (hj : j < k) → x.f4[j]'(by omega) ≠ key) : fieldB x key = some x.f3[k] := by
  unfold fieldB
  rw [if_pos ⟨h6, by rw [atK_at k hk h hn]; exact hk⟩, atK_at k hk h hn, List.getElem?_eq_getElem hk3]
theorem fieldB_kind {x : S38} {key : ByteArray} (h6 : x.f0 ≠ 6) : fieldB x key = none := by unfold fieldB; rw [if_neg (fun h => h6 h.1)]
theorem fieldB_keys {x : S38} {key : ByteArray} (hn : ∀ j, (hj : j < x.f4.length) → x.f4[j] ≠ key) : fieldB x key = none := by
  unfold fieldB; rw [if_neg (fun h => atK_no hn h.2)]
theorem fieldB_list {x : S38} {key : ByteArray} (hl : x.f3.length ≤ x.f4.length) (hn : ∀ j, (hj : j < x.f3.length) → x.f4[j]'(by omega) ≠ key) : fieldB x key = none := by
  unfold fieldB
  split
  · rename_i h
    rw [List.getElem?_eq_none]
    rcases Nat.lt_or_ge (atK x.f4 key) x.f3.length with hh | hh
    · exfalso
      have hlt := h.2
      exact hn _ hh (atK_hit hlt)
    · exact hh
  · rfl
/-- What Field tells. -/
def FieldP (x : S38) (key : ByteArray) (w : World) (e : Ending) (w' : World) : Prop :=
  Below w.heap.size w w' ∧ ((∃ y A3 c3 A4 c4, fieldB x key = some y ∧ e = .returned (.tuple #[.agg #[.int .i64 y.f0, .int .i64 y.f1, .string y.f2, .slice A3 y.f3.length c3, .slice A4 y.f4.length c4], .bool true]) ∧ VC w' y A3 c3 A4 c4 ∧ y.wt < x.wt) ∨
   (fieldB x key = none ∧ e = .returned (.tuple #[.agg #[.int .i64 0, .int .i64 0, .string ⟨#[]⟩, .slice none 0 0, .slice none 0 0], .bool false])))
set_option maxRecDepth 100000 in
set_option maxHeartbeats 8000000 in
theorem rfield_calls (x : S38) (key : ByteArray) (A3 : Option Addr) (c3 : Nat) (A4 : Option Addr) (c4 : Nat) (w : World) (hx : VC w x A3 c3 A4 c4) (hwx : x.wt ≤ 1099511627776) :
    Calls Tryz.prog 40 #[.agg #[.int .i64 x.f0, .int .i64 x.f1, .string x.f2, .slice A3 x.f3.length c3, .slice A4 x.f4.length c4], .string key] w (FieldP x key w) := by
  have hl3 := wt_len3 x
  have hl4 := wt_len4 x
  obtain ⟨W1, hW1⟩ : ∃ W1, (w.alloc (.cells #[.int .i64 x.f0, .int .i64 x.f1, .string x.f2, .slice A3 x.f3.length c3, .slice A4 x.f4.length c4] 38)).alloc (.cells #[.int .i64 0, .int .i64 0, .string ⟨#[]⟩, .slice none 0 0, .slice none 0 0] 38) = W1 := ⟨_, rfl⟩
  have hb1 : Below w.heap.size w W1 := by rw [← hW1]; exact ba2 _ _ _
  have hs1 : w.heap.size + 1 < W1.heap.size := by rw [← hW1]; simp
  have hV1 : W1.heap[w.heap.size]? = some (.cells #[.int .i64 x.f0, .int .i64 x.f1, .string x.f2, .slice A3 x.f3.length c3, .slice A4 x.f4.length c4] 38 (0, 0)) := by
    rw [← hW1]; exact ((ba _ _).block _ (by simp)).trans (World.alloc_heap_new w _)
  have hZ1 : W1.heap[w.heap.size + 1]? = some (.cells #[.int .i64 0, .int .i64 0, .string ⟨#[]⟩, .slice none 0 0, .slice none 0 0] 38 (0, 0)) := by
    rw [← hW1]; have := World.alloc_heap_new (w.alloc (.cells #[.int .i64 x.f0, .int .i64 x.f1, .string x.f2, .slice A3 x.f3.length c3, .slice A4 x.f4.length c4] 38)) (.cells #[.int .i64 0, .int .i64 0, .string ⟨#[]⟩, .slice none 0 0, .slice none 0 0] 38); rwa [World.size_alloc] at this
  have HX1 := Lib.hid (hx.below hb1)
  have HX0 := Lib.hid hx
  have HB1 := Lib.hid hb1
  have HW1 := Lib.hid hW1
  have HV1 := Lib.hid hV1
  have HZ1 := Lib.hid hZ1
  clear hW1 hb1 hx hV1 hZ1
  by_cases h6 : x.f0 = 6
  · have e6 : (x.f0 == 6) = true := by simp [h6]
    have H6 := Lib.hid h6
    clear h6
    go_enter Tryz.func40, Tryz.ntmps40
    go_wp2_with fail
    rw [HW1.out]
    go_loopw [6] (fun i wr => ∃ k : Nat, k ≤ x.f4.length ∧ k ≤ x.f3.length ∧ i = .int .i64 k ∧ Hid (∀ j, (hj : j < k) → (hk : k ≤ x.f4.length) → x.f4[j]'(by omega) ≠ key) ∧ Below W1.heap.size W1 wr) (fun i _ => x.f4.length - (intOf i).toNat)
    case atStart => exact ⟨0, Nat.zero_le _, Nat.zero_le _, rfl, fun j hj => by omega, Below.refl _ _⟩
    case round =>
      obtain ⟨k, hk, hk3, rfl, hN, hbw⟩ := hrel
      have hVr := (hbw.block _ (by omega)).trans HV1.out
      have hZr := (hbw.block _ (by omega)).trans HZ1.out
      have HVr := Lib.hid hVr
      have HZr := Lib.hid hZr
      have hsr : w.heap.size + 1 < wr.heap.size := by have := hbw.size; omega
      have r0 := blk_cell hVr 0
      have r3 := blk_cell hVr 3
      have r4 := blk_cell hVr 4
      have z0 := blk_cell hZr 0
      have z1 := blk_cell hZr 1
      have z2 := blk_cell hZr 2
      have z3 := blk_cell hZr 3
      have z4 := blk_cell hZr 4
      have y0 := blk_frozen hZr 0
      have y1 := blk_frozen hZr 1
      have y2 := blk_frozen hZr 2
      have y3 := blk_frozen hZr 3
      have y4 := blk_frozen hZr 4
      clear hVr hZr
      by_cases hlt : k < x.f4.length
      · by_cases hlt3 : k < x.f3.length
        · obtain ⟨b1, o1, rfl, hb1, hc1⟩ := at_str (Kd.C_below HX1.out.g4 hbw) k hlt
          obtain ⟨b2, o2, A3', c3', A4', c4', rfl, hb2, g0, g1, g2, g3, g4, gv⟩ := at_val HX0.out.g3 k hlt3
          have hbW : Below w.heap.size w wr := HB1.out.trans (hbw.mono HB1.out.size)
          replace g0 := (hbW.cell (p := ⟨b2, o2 + k * 5, none⟩) hb2).trans g0
          replace g1 := (hbW.cell (p := ⟨b2, o2 + k * 5 + 1, none⟩) hb2).trans g1
          replace g2 := (hbW.cell (p := ⟨b2, o2 + k * 5 + 2, none⟩) hb2).trans g2
          replace g3 := (hbW.cell (p := ⟨b2, o2 + k * 5 + 3, none⟩) hb2).trans g3
          replace g4 := (hbW.cell (p := ⟨b2, o2 + k * 5 + 4, none⟩) hb2).trans g4
          have HBW := Lib.hid hbW
          clear hbW
          have hwi := wt_elem x k hlt3
          by_cases he : x.f4[k] = key
          · have e5 : (x.f4[k].toList == key.toList) = true := by simp [he]
            have HE : Hid (fieldB x key = some x.f3[k]) := fieldB_some H6.out hlt hlt3 he (fun j hj => hN.out j hj hk)
            clear he
            go_wp2_with fail
            refine bodyPost_ret (res_two rfl rfl (set5_blk HZr.out (.int .i64 x.f3[k].f0) (.int .i64 x.f3[k].f1) (.string x.f3[k].f2) (.slice A3' x.f3[k].f3.length c3') (.slice A4' x.f3[k].f4.length c4')) rfl rfl) rfl ?_
            have hbs := set5_below HBW.out (w.heap.size + 1) (by omega) (.int .i64 x.f3[k].f0) (.int .i64 x.f3[k].f1) (.string x.f3[k].f2) (.slice A3' x.f3[k].f3.length c3') (.slice A4' x.f3[k].f4.length c4')
            exact ⟨hbs, .inl ⟨_, _, _, _, _, HE.out, rfl, gv.below hbs, hwi⟩⟩
          · have e5 := str_ne he
            have HE := Lib.hid he
            clear he
            go_wp2_with fail
            go_roundw
            case rel =>
              refine ⟨k + 1, by omega, by omega, by go_num, ?_, hbw⟩
              intro j hj hk1
              by_cases e : j = k
              · subst e; exact HE.out
              · exact hN.out j (by omega) hk
            case measure => simp [intOf]; omega
        · have hr : Hid (fieldB x key = none) := fieldB_list (by omega) (fun j hj => hN.out j (by omega) hk)
          go_wp2_with fail
          refine bodyPost_ret (res_two rfl rfl (set5_blk HZr.out (.int .i64 0) (.int .i64 0) (.string ⟨#[]⟩) (.slice none 0 0) (.slice none 0 0)) rfl rfl) rfl ?_
          exact ⟨set5_below (HB1.out.trans (hbw.mono HB1.out.size)) _ (by omega) _ _ _ _ _, .inr ⟨hr.out, rfl⟩⟩
      · have hr : Hid (fieldB x key = none) := fieldB_keys (fun j hj => hN.out j (by omega) hk)
        go_wp2_with fail
        refine bodyPost_ret (res_two rfl rfl (set5_blk HZr.out (.int .i64 0) (.int .i64 0) (.string ⟨#[]⟩) (.slice none 0 0) (.slice none 0 0)) rfl rfl) rfl ?_
        exact ⟨set5_below (HB1.out.trans (hbw.mono HB1.out.size)) _ (by omega) _ _ _ _ _, .inr ⟨hr.out, rfl⟩⟩
  · have hr : Hid (fieldB x key = none) := fieldB_kind h6
    have e6 : (x.f0 == 6) = false := by simp [h6]
    have z0 := blk_cell HZ1.out 0
    have z1 := blk_cell HZ1.out 1
    have z2 := blk_cell HZ1.out 2
    have z3 := blk_cell HZ1.out 3
    have z4 := blk_cell HZ1.out 4
    have y0 := blk_frozen HZ1.out 0
    have y1 := blk_frozen HZ1.out 1
    have y2 := blk_frozen HZ1.out 2
    have y3 := blk_frozen HZ1.out 3
    have y4 := blk_frozen HZ1.out 4
    have r0 := blk_cell HV1.out 0
    go_enter Tryz.func40, Tryz.ntmps40
    go_wp2_with fail
    rw [HW1.out]
    go_loopw [6] (fun i wr => i = .int .i64 0 ∧ wr = W1) (fun i _ => 0)
    case atStart => exact ⟨rfl, rfl⟩
    case round =>
      obtain ⟨rfl, rfl⟩ := hrel
      go_wp2_with fail
      refine bodyPost_ret (res_two rfl rfl (set5_blk HZ1.out (.int .i64 0) (.int .i64 0) (.string ⟨#[]⟩) (.slice none 0 0) (.slice none 0 0)) rfl rfl) rfl ?_
      exact ⟨set5_below HB1.out _ (by omega) _ _ _ _ _, .inr ⟨hr.out, rfl⟩⟩
end Go.Proofs.YtiddjadfkpjpdaaGreatDoor.Q
