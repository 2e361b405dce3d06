/- json.copied: a value of its own memory. -/
import Derived.Test.YtiddjadfkpjpdaaGreatDoorHKf
set_option linter.unusedVariables false
set_option linter.unusedSimpArgs false
namespace Go.Proofs.YtiddjadfkpjpdaaGreatDoor.Q
open Go.RowKit Go.Proofs.YtiddjadfkpjpdaaGreatDoorW.PrintWords Go.Proofs.YtiddjadfkpjpdaaGreatDoorW.PrintLast
/-- A value of the call's own: its list's row, its keys' row, which is full. -/
structure Own (w : World) (base : Nat) (x : S38) (A3 : Option Addr) (c3 : Nat) (A4 : Option Addr) : Prop where
  r3 : kf.R 38 w base (fun _ => True) (.slice A3 x.f3.length c3) x.f3
  r4 : ∃ cap, Kd.string.R 9 w base (fun _ => True) (.slice A4 x.f4.length cap) x.f4
theorem Own.vc {w : World} {base : Nat} {x : S38} {A3 : Option Addr} {c3 : Nat} {A4 : Option Addr} (h : Own w base x A3 c3 A4) : VC w x A3 c3 A4 x.f4.length := by
  obtain ⟨cap, h4⟩ := h.r4
  obtain ⟨_, a, b⟩ := kf_C h.r3
  obtain ⟨_, _, d⟩ := Kd.R_reads' h4
  exact ⟨a, b, Nat.le_refl _, d⟩
theorem Own.below {w w' : World} {base : Nat} {x : S38} {A3 : Option Addr} {c3 : Nat} {A4 : Option Addr} (h : Own w base x A3 c3 A4) (hb : Below w.heap.size w w') : Own w' base x A3 c3 A4 := by
  obtain ⟨cap, h4⟩ := h.r4
  exact ⟨Kd.R_below h.r3 hb, cap, Kd.R_below h4 hb⟩
theorem Own.lower {w : World} {base b : Nat} {x : S38} {A3 : Option Addr} {c3 : Nat} {A4 : Option Addr} (h : Own w base x A3 c3 A4) (hb : b ≤ base) : Own w b x A3 c3 A4 := by
  obtain ⟨cap, h4⟩ := h.r4
  exact ⟨Kd.R_lower h.r3 hb, cap, Kd.R_lower h4 hb⟩
theorem Own.mk' {w : World} {base : Nat} {x : S38} {A3 : Option Addr} {c3 : Nat} {A4 : Option Addr} (h : Own w base x A3 c3 A4) : kf.M w base (fun _ => True) x [.int .i64 x.f0, .int .i64 x.f1, .string x.f2, .slice A3 x.f3.length c3, .slice A4 x.f4.length x.f4.length] := by
  obtain ⟨cap, h4⟩ := h.r4
  exact kf_mk h.r3 h4 (Nat.le_refl _)
def CopiedP (x : S38) (w : World) (e : Ending) (w' : World) : Prop :=
  ∃ A3 c3 A4, e = .returned (.agg #[.int .i64 x.f0, .int .i64 x.f1, .string x.f2, .slice A3 x.f3.length c3, .slice A4 x.f4.length x.f4.length]) ∧ Own w' w.heap.size x A3 c3 A4 ∧ Below w.heap.size w w'
set_option maxRecDepth 100000 in
set_option maxHeartbeats 8000000 in
theorem copied_any (n : Nat) : ∀ (x : S38) (A3 : Option Addr) (c3 : Nat) (A4 : Option Addr) (c4 : Nat) (w : World), x.wt ≤ n → VC w x A3 c3 A4 c4 → x.wt ≤ 1073741824 →
    Calls Tryz.prog 71 #[.agg #[.int .i64 x.f0, .int .i64 x.f1, .string x.f2, .slice A3 x.f3.length c3, .slice A4 x.f4.length c4]] w (CopiedP x w) := by
  induction n with
  | zero => intro x A3 c3 A4 c4 w h; have := wt_pos x; omega
  | succ n ih =>
    intro x A3 c3 A4 c4 w hn hx hwx
    have hl3 := wt_len3 x
    have hl4 := wt_len4 x
    obtain ⟨W1, hW1⟩ : ∃ W1, (w.alloc (.cells #[.int .i64 x.f0, .int .i64 x.f1, .string x.f2, .slice A3 x.f3.length c3, .slice A4 x.f4.length c4] 38)).alloc (.cells #[.int .i64 0, .int .i64 0, .string ⟨#[]⟩, .slice none 0 0, .slice none 0 0] 38) = W1 := ⟨_, rfl⟩
    have hb1 : Below w.heap.size w W1 := by rw [← hW1]; exact ba2 _ _ _
    have hs1 : w.heap.size + 1 < W1.heap.size := by rw [← hW1]; simp
    have hV1 : W1.heap[w.heap.size]? = some (.cells #[.int .i64 x.f0, .int .i64 x.f1, .string x.f2, .slice A3 x.f3.length c3, .slice A4 x.f4.length c4] 38 (0, 0)) := by
      rw [← hW1]; exact ((ba _ _).block _ (by simp)).trans (World.alloc_heap_new w _)
    have hZ1 : W1.heap[w.heap.size + 1]? = some (.cells #[.int .i64 0, .int .i64 0, .string ⟨#[]⟩, .slice none 0 0, .slice none 0 0] 38 (0, 0)) := by
      rw [← hW1]; have := World.alloc_heap_new (w.alloc (.cells #[.int .i64 x.f0, .int .i64 x.f1, .string x.f2, .slice A3 x.f3.length c3, .slice A4 x.f4.length c4] 38)) (.cells #[.int .i64 0, .int .i64 0, .string ⟨#[]⟩, .slice none 0 0, .slice none 0 0] 38); rwa [World.size_alloc] at this
    have HX := Lib.hid hx
    have HX1 := Lib.hid (hx.below hb1)
    have HB1 := Lib.hid hb1
    have HW1 := Lib.hid hW1
    have HV1 := Lib.hid hV1
    have HZ1 := Lib.hid hZ1
    have IH := Lib.hid ih
    clear hW1 hb1 hx hV1 hZ1 ih
    have v4 := blk_cell HV1.out 4
    have v3 := blk_cell HV1.out 3
    go_enter Tryz.func71, Tryz.ntmps71
    go_wp2_with fail
    rw [HW1.out]
    refine (clone_calls x.f4 A4 c4 W1 HX1.out.g4 (by omega)).mono ?_
    rintro e w2 ⟨B4, d4, rfl, hk2, b2⟩
    have hd4 : x.f4.length ≤ d4 := (Kd.R_reads' hk2).2.1
    have HK2 := Lib.hid hk2
    have HB2 := Lib.hid (HB1.out.trans (b2.mono HB1.out.size))
    have HV2 := Lib.hid ((b2.block _ (by omega)).trans HV1.out)
    have HZ2 := Lib.hid ((b2.block _ (by omega)).trans HZ1.out)
    have hs2 : w.heap.size + 1 < w2.heap.size := by have := b2.size; omega
    have HS2 := Lib.hid b2.size
    clear hk2 b2 v3 v4
    have f4 := blk_frozen HV2.out 4
    have v4 := blk_cell HV2.out 4
    have v3 := blk_cell HV2.out 3
    go_wp2_with fail
    refine (clip_calls B4 x.f4.length d4 w2 hd4).mono ?_
    rintro e w3 ⟨rfl, rfl⟩
    go_wp2_with fail
    obtain ⟨W2, hW2⟩ : ∃ W2, W2 = w2.setCell ⟨w.heap.size, 4, none⟩ (.slice B4 x.f4.length x.f4.length) := ⟨_, rfl⟩
    have hV := blk_set HV2.out 4 (.slice B4 x.f4.length x.f4.length)
    rw [← hW2] at hV
    have hZ : W2.heap[w.heap.size + 1]? = some (.cells #[.int .i64 0, .int .i64 0, .string ⟨#[]⟩, .slice none 0 0, .slice none 0 0] 38 (0, 0)) := by
      rw [hW2, Below.heap_setCell _ _ _ _ (by simp)]; exact HZ2.out
    have hK : Kd.string.R 9 W2 W1.heap.size (fun _ => True) (.slice B4 x.f4.length d4) x.f4 := by
      rw [hW2]
      exact Kd.R_set HK2.out HV2.out (by simp [Kd.string, Kd.scalar]) _ _
    have hB : Below w.heap.size w W2 := by rw [hW2]; exact HB2.out.setCell (Nat.le_refl _) _
    have hsz : W2.heap.size = w2.heap.size := by rw [hW2]; simp [World.setCell]
    have hsW : W1.heap.size ≤ W2.heap.size := by rw [hsz]; exact HS2.out
    have HV := Lib.hid hV
    have HZ := Lib.hid hZ
    have HK := Lib.hid hK
    have HB := Lib.hid hB
    rw [← hW2]
    clear hW2 hV hZ hK hB hsz v3 v4 f4
    go_loopw [3, 14] (fun v i wr => ∃ k AL cL, k ≤ x.f3.length ∧ i = .int .i64 (k : Nat) ∧ v = .slice AL k cL ∧ kf.R 38 wr W1.heap.size (fun _ => True) (.slice AL k cL) (x.f3.take k) ∧ Kd.string.R 9 wr W1.heap.size (fun _ => True) (.slice B4 x.f4.length d4) x.f4 ∧ Below W1.heap.size W2 wr) (fun _ i _ => x.f3.length - (intOf i).toNat)
    case atStart => exact ⟨0, none, 0, Nat.zero_le _, rfl, rfl, Kd.R_nil _ _ _ _ _, HK.out, Below.refl _ _⟩
    case round =>
      obtain ⟨k, AL, cL, hk, rfl, rfl, hR, hK, hbw⟩ := hrel
      have hVr := (hbw.block w.heap.size (by omega)).trans HV.out
      have hZr := (hbw.block (w.heap.size + 1) (by omega)).trans HZ.out
      by_cases hlt : k < x.f3.length
      · have hbW : Below w.heap.size w wr := HB.out.trans (hbw.mono (by omega))
        obtain ⟨b2, o2, A3', c3', A4', c4', rfl, hb2, g0, g1, g2, g3, g4, gv⟩ := at_val HX.out.g3 k hlt
        replace g0 := (hbW.cell (p := ⟨b2, o2 + k * 5, none⟩) hb2).trans g0
        replace g1 := (hbW.cell (p := ⟨b2, o2 + k * 5 + 1, none⟩) hb2).trans g1
        replace g2 := (hbW.cell (p := ⟨b2, o2 + k * 5 + 2, none⟩) hb2).trans g2
        replace g3 := (hbW.cell (p := ⟨b2, o2 + k * 5 + 3, none⟩) hb2).trans g3
        replace g4 := (hbW.cell (p := ⟨b2, o2 + k * 5 + 4, none⟩) hb2).trans g4
        have hwi := wt_elem x k hlt
        have HR := Lib.hid hR
        have HKr := Lib.hid hK
        have HBW := Lib.hid hbW
        have HVr := Lib.hid hVr
        have HZr := Lib.hid hZr
        have HBw := Lib.hid hbw
        have HGV := Lib.hid gv
        have hsr : W1.heap.size ≤ wr.heap.size := by have := hbw.size; omega
        clear hR hK hbW hVr hZr hbw gv
        go_wp2_with fail
        refine (IH.out x.f3[k] A3' c3' A4' c4' _ (by omega) (HGV.out.below (HBW.out.trans ((ba _ _).mono HBW.out.size))) (by omega)).mono ?_
        rintro e w4 ⟨E3, e3, E4, rfl, ho4, b4⟩
        have hb4 : Below wr.heap.size wr w4 := (ba _ _).trans (b4.mono (by simp))
        have HO4 := Lib.hid ho4
        have HB4 := Lib.hid hb4
        have hs4 := hb4.size
        clear ho4 b4 hb4
        have hl : (x.f3.take k).length = k := by rw [List.length_take]; omega
        have HLT := Lib.hid hl
        have HTK : Hid (x.f3.take (k + 1) = x.f3.take k ++ [x.f3[k]]) := by show _ = _; rw [List.take_succ_eq_append_getElem hlt]
        clear hl
        have hM4 : kf.M w4 W1.heap.size (fun q => wr.heap.size ≤ q) x.f3[k] [.int .i64 x.f3[k].f0, .int .i64 x.f3[k].f1, .string x.f3[k].f2, .slice E3 x.f3[k].f3.length e3, .slice E4 x.f3[k].f4.length x.f3[k].f4.length] :=
          kf.M_lower (by simp; omega) (kf.M_mono (fun q hq => by have := hq.2.1; simp at this; omega) (kf.M_bound HO4.out.mk'))
        have HM4 := Lib.hid hM4
        have HR4 := Lib.hid (Kd.R_below HR.out HB4.out)
        have HK4 := Lib.hid (Kd.R_below HKr.out HB4.out)
        have HBw4 : Hid (Below W1.heap.size W2 w4) := HBw.out.trans (HB4.out.mono hsr)
        have hlen : Hid ((x.f3.take k).length = k) := HLT.out
        clear hM4
        go_wp2_with (at_builtin; refine Kd.R_append kf (w0 := W2) W1.heap.size rfl (.tmp 18) (.tmp 21) 36 38 (.agg #[(.int .i64 0), (.int .i64 0), (.string ⟨#[]⟩), (.slice none 0 0), (.slice none 0 0)]) 80 rfl Tryz.underlying36 info38 rfl (by decide) (by decide) (.slice AL k cL) (x.f3.take k) x.f3[k] [.int .i64 x.f3[k].f0, .int .i64 x.f3[k].f1, .string x.f3[k].f2, .slice E3 x.f3[k].f3.length e3, .slice E4 x.f3[k].f4.length x.f3[k].f4.length] (fun _ => True) (fun q => wr.heap.size ≤ q) rfl rfl HM4.out ?hokp (fun _ _ => trivial) HR4.out HBw4.out ?hbase ?hl ?_)
        case hokp => exact fun q hq => ⟨trivial, fun e => by have := Kd.R_lt HR.out q e.symm; omega⟩
        case hbase => have := hs4; omega
        case hl => have := hlen.out; rw [this]; omega
        intro v1 w5 hR5 hB5 hg5 hat5
        have hK5 := Kd.R_over HK4.out HR4.out (by simp [Kd.string, Kd.scalar]) hg5
        obtain ⟨A5, c5, hv5⟩ := Kd.R_slice hR5
        have hR6 : kf.R 38 w5 W1.heap.size (fun _ => True) v1 (x.f3.take (k + 1)) := by first | exact hR5 | (rw [HTK.out]; exact hR5)
        have hv6 : v1 = .slice A5 (k + 1) c5 := by
          rw [hv5]
          first
          | (rw [List.length_append, HLT.out]; rfl)
          | (rw [List.length_take, Nat.min_eq_left (by omega)])
        clear hv5 hR5
        have hR5 := hR6
        clear hR6
        rw [hv6] at hR5 ⊢
        clear hv6 hg5 hat5
        have HR5 := Lib.hid hR5
        have HB5 := Lib.hid hB5
        have HK5 := Lib.hid hK5
        clear hR5 hB5 hK5
        go_wp2_with fail
        go_roundw
        case rel => exact ⟨k + 1, A5, c5, by omega, by go_num, rfl, HR5.out, HK5.out, HB5.out⟩
        case measure => simp [intOf]; omega
      · obtain rfl : k = x.f3.length := by omega
        rw [List.take_length] at hR
        have HVr := Lib.hid hVr
        have HBW := Lib.hid (HB.out.trans (hbw.mono (by omega)))
        have hsr : W1.heap.size ≤ wr.heap.size := by have := hbw.size; omega
        have hV9 := blk_set hVr 3 (.slice AL x.f3.length cL)
        obtain ⟨w9, hw9⟩ : ∃ w9, w9 = wr.setCell ⟨w.heap.size, 3, none⟩ (.slice AL x.f3.length cL) := ⟨_, rfl⟩
        have hZ9 : w9.heap[w.heap.size + 1]? = some (.cells #[.int .i64 0, .int .i64 0, .string ⟨#[]⟩, .slice none 0 0, .slice none 0 0] 38 (0, 0)) := by
          rw [hw9, Below.heap_setCell _ _ _ _ (by simp)]; exact hZr
        rw [← hw9] at hV9
        have hZ10 := set5_blk hZ9 (.int .i64 x.f0) (.int .i64 x.f1) (.string x.f2) (.slice AL x.f3.length cL) (.slice B4 x.f4.length x.f4.length)
        obtain ⟨w10, hw10⟩ : ∃ w10, w10 = set5 w9 (w.heap.size + 1) (.int .i64 x.f0) (.int .i64 x.f1) (.string x.f2) (.slice AL x.f3.length cL) (.slice B4 x.f4.length x.f4.length) := ⟨_, rfl⟩
        have hfar : ∀ q, W1.heap.size ≤ q → w10.heap[q]? = wr.heap[q]? := by
          intro q hq
          rw [hw10, set5_far _ _ _ _ _ _ _ _ (by omega), hw9, Below.heap_setCell _ _ _ _ (by simp; omega)]
        have hfin : Own w10 w.heap.size x AL cL B4 :=
          ⟨Kd.R_lower (Kd.R_mono (Kd.R_step (Kd.R_bound hR) (fun q hq _ => hfar q hq.2.1)) (fun _ _ => trivial)) (by omega), d4, Kd.R_lower (Kd.R_mono (Kd.R_step (Kd.R_bound hK) (fun q hq _ => hfar q hq.2.1)) (fun _ _ => trivial)) (by omega)⟩
        have hB10 : Below w.heap.size w w10 := by rw [hw10, hw9]; exact set5_below (HBW.out.setCell (Nat.le_refl _) _) _ (by omega) _ _ _ _ _
        have HFIN := Lib.hid (And.intro hfin hB10)
        have hVX := blk_set hVr 3 (.slice AL x.f3.length cL)
        have hZX : (wr.setCell ⟨w.heap.size, 3, none⟩ (.slice AL x.f3.length cL)).heap[w.heap.size + 1]? = some (.cells #[.int .i64 0, .int .i64 0, .string ⟨#[]⟩, .slice none 0 0, .slice none 0 0] 38 (0, 0)) := by rw [Below.heap_setCell _ _ _ _ (by simp)]; exact hZr
        have v0 := blk_cell hVX 0
        have v1 := blk_cell hVX 1
        have v2 := blk_cell hVX 2
        have v3 := blk_cell hVX 3
        have v4 := blk_cell hVX 4
        have z0 := blk_cell hZX 0
        have y0 := blk_frozen hZX 0
        have z1 := blk_cell hZX 1
        have y1 := blk_frozen hZX 1
        have z2 := blk_cell hZX 2
        have y2 := blk_frozen hZX 2
        have z3 := blk_cell hZX 3
        have y3 := blk_frozen hZX 3
        have z4 := blk_cell hZX 4
        have y4 := blk_frozen hZX 4
        have u3 := blk_frozen HVr.out 3
        have p3 := blk_cell HVr.out 3
        have HZ10 := Lib.hid hZ10
        clear hV9 hVX hZX
        rw [hw10, hw9] at HFIN
        rw [hw9] at HZ10
        clear hR hK hVr hZr hbw hZ9 hZ10 hfar hfin hB10 hw10
        clear hw9
        clear w10
        clear w9
        go_wp2_with fail
        refine bodyPost_ret (results_cell_row rfl _ _ (w.heap.size + 1) 38 _ (0, 0) _ rfl HZ10.out Tryz.underlying38 rfl (by kernel_rfl)) rfl ?_
        exact ⟨AL, cL, B4, rfl, HFIN.out.1, HFIN.out.2⟩
end Go.Proofs.YtiddjadfkpjpdaaGreatDoor.Q
