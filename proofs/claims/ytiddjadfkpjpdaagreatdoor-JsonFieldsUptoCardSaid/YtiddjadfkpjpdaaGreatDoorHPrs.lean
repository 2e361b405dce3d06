/- json.Parse. -/
import Derived.Test.YtiddjadfkpjpdaaGreatDoorHParse
import Derived.Test.YtiddjadfkpjpdaaGreatDoorHDepth
import Derived.Laws.ResultCell
import Derived.Test.YtiddjadfkpjpdaaGreatDoorHField
set_option linter.unusedVariables false
set_option linter.unusedSimpArgs false
namespace Go.Proofs.YtiddjadfkpjpdaaGreatDoor.Q
open Go.RowKit Go.Proofs.YtiddjadfkpjpdaaGreatDoorW.PrintWords
/-- What a text's value is: its value, and why not. -/
def ParseQ (l : List UInt8) (x : S38) (code : Int) : Prop :=
  (4096 < l.length ∧ code = 3 ∧ x = z38) ∨ (l.length ≤ 4096 ∧ code = 2 ∧ x = z38 ∧ ∀ d y, fitsB d y = true → renderL y ≠ l) ∨
  (l.length ≤ 4096 ∧ code = 4 ∧ x = z38 ∧ ∃ y, fitsB (l.length + 1) y = true ∧ renderL y = l ∧ fitsB 8 y = false ∧ ∀ d z, fitsB d z = true → renderL z = l → z = y) ∨ (l.length ≤ 4096 ∧ code = 0 ∧ fitsB 8 x = true ∧ renderL x = l ∧ ∀ d z, fitsB d z = true → renderL z = l → z = x)
def ParseP (l : List UInt8) (w : World) (e : Ending) (w' : World) : Prop :=
  ∃ (x : S38) (v3 v4 : Value) (code : Int), e = .returned (.tuple #[.agg #[.int .i64 x.f0, .int .i64 x.f1, .string x.f2, v3, v4], .int .i64 code]) ∧ k38.R 38 w' w.heap.size (fun _ => True) v3 x.f3 ∧ Kd.string.R 9 w' w.heap.size (fun _ => True) v4 x.f4 ∧ Below w.heap.size w w' ∧ x.wt ≤ 16400 ∧ ParseQ l x code
theorem parse_res {tmps : Array Value} {w : World} {g : Nat} {cs : Array Value} {n : Value} (hp : tmps.getD 2 undef = .pointer (some ⟨g, 0, none⟩)) (hg : w.heap[g]? = some (.cells cs 38 (0, 0))) (hc : cs.size = 5) (h3 : tmps.getD 3 undef = n) :
    (results Tryz.f27 tmps).run Tryz.prog w = .ok (.tuple #[.agg cs, n]) w := by
  rw [results_cell_tmp (p := 2) (u := 3) (ty := 38) rfl, hp, h3]
  have := run_loadVar_row (P := Tryz.prog) w g 38 38 cs (0, 0) _ hg Tryz.underlying38 rfl (by rw [hc]; kernel_rfl)
  simp [asAddr, this, Result.andThen]
/-- A text that is a value's: it is told, or too deep. -/
theorem ParseQ.of {l : List UInt8} {x : S38} {code : Int} (h : ParseQ l x code) (hl : l.length ≤ 4096) {d : Nat} {y : S38} (hf : fitsB d y = true) (hr : renderL y = l) : (fitsB 8 y = true ∧ code = 0 ∧ x = y) ∨ (fitsB 8 y = false ∧ code = 4 ∧ x = z38) := by
  rcases h with ⟨h, _⟩ | ⟨_, _, _, h⟩ | ⟨_, hc, hx, z, _, _, h8, hu⟩ | ⟨_, hc, h8, _, hu⟩
  · omega
  · exact absurd hr (h d y hf)
  · have := hu d y hf hr
    subst this
    exact .inr ⟨h8, hc, hx⟩
  · have := hu d y hf hr
    subst this
    exact .inl ⟨h8, hc, rfl⟩
theorem ParseP.zero {l : List UInt8} {w w' : World} {code : Int} (hb : Below w.heap.size w w') (h : ParseQ l z38 code) : ParseP l w (.returned (.tuple #[.agg #[.int .i64 0, .int .i64 0, .string ⟨#[]⟩, .slice none 0 0, .slice none 0 0], .int .i64 code])) w' :=
  ⟨z38, .slice none 0 0, .slice none 0 0, code, rfl, Kd.R_nil _ _ _ _ _, Kd.R_nil _ _ _ _ _, hb, by have hz : (⟨#[]⟩ : ByteArray).size = 0 := rfl
                                                                                                    simp [z38, S38.wt, wtsL, hz], h⟩
set_option maxRecDepth 100000 in
set_option maxHeartbeats 8000000 in
theorem parse_calls (l : List UInt8) (w : World) (hl : l.length ≤ 1073741824) (hE : Env w) : Calls Tryz.prog 27 #[.string ⟨l.toArray⟩] w (ParseP l w) := by
  by_cases h4 : 4096 < l.length
  · have h4i : (4096 : Int) < (l.length : Int) := by omega
    go_enter Tryz.func27, Tryz.ntmps27
    go_wp2_with fail
    refine bodyPost_ret (parse_res rfl (World.alloc_heap_new w _) rfl rfl) rfl ?_
    exact ⟨z38, .slice none 0 0, .slice none 0 0, 3, rfl, Kd.R_nil _ _ _ _ _, Kd.R_nil _ _ _ _ _, ba _ _, by have hz : (⟨#[]⟩ : ByteArray).size = 0 := rfl
                                                                                                             simp [z38, S38.wt, wtsL, hz], .inl ⟨h4, rfl, rfl⟩⟩
  · have h4i : ¬ (4096 : Int) < (l.length : Int) := by omega
    go_enter Tryz.func27, Tryz.ntmps27
    go_wp2_with fail
    obtain ⟨W2, hW2⟩ : ∃ W2, W2 = (w.alloc (Obj.cells #[Value.int IntKind.i64 0, Value.int IntKind.i64 0, Value.string { data := #[] }, Value.slice none 0 0, Value.slice none 0 0] 38)).alloc (Obj.cells #[Value.string { data := l.toArray }, Value.bool false] 83) := ⟨_, rfl⟩
    have hb2 : Below w.heap.size w W2 := by rw [hW2]; exact (ba _ _).trans ((ba _ _).mono (by simp))
    have hZ2 : W2.heap[w.heap.size]? = some (.cells #[.int .i64 0, .int .i64 0, .string ⟨#[]⟩, .slice none 0 0, .slice none 0 0] 38 (0, 0)) := by rw [hW2]; exact ((ba _ _).block _ (by simp)).trans (World.alloc_heap_new w _)
    have hR2 : Rd (w.heap.size + 1) W2 l false := by
      rw [hW2]
      have := World.alloc_heap_new (w.alloc (Obj.cells #[Value.int IntKind.i64 0, Value.int IntKind.i64 0, Value.string { data := #[] }, Value.slice none 0 0, Value.slice none 0 0] 38)) (Obj.cells #[Value.string { data := l.toArray }, Value.bool false] 83)
      rw [World.size_alloc] at this
      exact this
    rw [← hW2]
    have HS2 : Hid (W2.heap.size = w.heap.size + 2) := by show _ = _; rw [hW2]; simp
    clear hW2
    refine (value_all (w.heap.size + 1) w l.length l false W2 rfl hR2 hl ⟨hE, hb2, by omega⟩).mono ?_
    rintro e w3 ⟨x, v3, v4, r, b3, rfl, hL3, hK3, hr3, hg3, hl3, hw3, hb3, hc3⟩
    obtain ⟨A3, c3, rfl⟩ := Kd.R_slice hL3
    obtain ⟨A4, c4, rfl⟩ := Kd.R_slice hK3
    have HB3 : Hid (Below w.heap.size w w3) := hb2.grown hg3 hb2.size (fun k e => by cases e; omega)
    have HZ3 := Lib.hid (blk_grown hZ2 hg3 (by simp))
    have HL7 := Lib.hid (Kd.R_lower hL3 (show w.heap.size + 1 ≤ W2.heap.size by have := HS2.out; omega))
    have HK7 := Lib.hid (Kd.R_lower hK3 (show w.heap.size + 1 ≤ W2.heap.size by have := HS2.out; omega))
    have HL3 := Lib.hid (Kd.R_lower hL3 hb2.size)
    have HK3 := Lib.hid (Kd.R_lower hK3 hb2.size)
    have HR3 := Lib.hid hr3
    have HW3 := Lib.hid hw3
    have HC3 := Lib.hid hc3
    clear hL3 hK3 hr3 hg3 hl3 hw3 hb3 hc3 hb2 hZ2 hR2
    obtain ⟨c0, c1, f0, f1⟩ := HR3.out.cells
    have hlt3 : w.heap.size + 1 < w3.heap.size := HR3.out.lt
    have hlt4 : w.heap.size < w3.heap.size := by omega
    have hne3 : ¬ w.heap.size + 1 = w3.heap.size := by omega
    have z0 := blk_cell HZ3.out 0
    have z1 := blk_cell HZ3.out 1
    have z2 := blk_cell HZ3.out 2
    have z3 := blk_cell HZ3.out 3
    have z4 := blk_cell HZ3.out 4
    have y0 := blk_frozen HZ3.out 0
    have y1 := blk_frozen HZ3.out 1
    have y2 := blk_frozen HZ3.out 2
    have y3 := blk_frozen HZ3.out 3
    have y4 := blk_frozen HZ3.out 4
    have hsE : ∀ (m : List UInt8), m ≠ [] → (⟨m.toArray⟩ : ByteArray).toList.isEmpty = false := by
      intro m hm
      rw [ByteArray.toList_eq]
      cases m with
      | nil => exact absurd rfl hm
      | cons a b => rfl
    cases b3 with
    | true =>
      have HN : Hid (∀ d y, fitsB d y = true → renderL y ≠ l) := fun d y hf he => by
        have := (HC3.out d y [] (by simp) hf (fun c t' h => by cases h) (by rw [he]; simp)).2.2
        cases this
      clear hsE
      go_wp2_with fail
      refine bodyPost_ret (parse_res rfl (blk_alloc (set5_blk HZ3.out (.int .i64 0) (.int .i64 0) (.string ⟨#[]⟩) (.slice none 0 0) (.slice none 0 0)) _) rfl rfl) rfl ?_
      exact ParseP.zero ((set5_below HB3.out _ (Nat.le_refl _) _ _ _ _ _).alloc (by simp [set5, World.setCell]; omega) _) (.inr (.inl ⟨by omega, rfl, rfl, HN.out⟩))
    | false =>
      by_cases hr : r = []
      · subst hr
        clear hsE
        have hHV : VC w3 x A3 c3 A4 c4 := by
          obtain ⟨_, a, b⟩ := Kd.R_reads' HL3.out
          obtain ⟨_, c, d⟩ := Kd.R_reads' HK3.out
          exact ⟨a, b, c, d⟩
        have hwx : x.wt ≤ 16400 := by have := HW3.out; unfold phi at this; simp at this; omega
        have HV3 := Lib.hid hHV
        have HWX := Lib.hid hwx
        have HFA := Lib.hid (fits_any (l.length + 1) ((l.length : Int) + 1) x A3 c3 A4 c4 _ (by omega) (by omega) (by omega) (hHV.below (ba w3 (.cells #[.int .i64 x.f0, .int .i64 x.f1, .string x.f2, .slice A3 x.f3.length c3, .slice A4 x.f4.length c4] 38))) (by omega))
        clear hHV hwx
        cases hf : fitsB (l.length + 1) x with
        | false =>
          have hfn : fitsB ((l.length : Int) + 1).toNat x = false := by rw [show ((l.length : Int) + 1).toNat = l.length + 1 from by omega]; exact hf
          rw [hfn] at HFA
          have HN : Hid (∀ d y, fitsB d y = true → renderL y ≠ l) := fun d y hfy he => by
            have h1 := (HC3.out d y [] (by simp) hfy (fun c t' h => by cases h) (by rw [he]; simp)).1
            subst h1
            have := fits_depth d x hfy
            rw [he, hf] at this
            cases this
          clear hf hfn
          go_wp2_with fail
          refine HFA.out.mono ?_
          rintro e w5 ⟨rfl, b5⟩
          have HB5 := Lib.hid (HB3.out.trans (((ba _ _).trans (b5.mono (by simp))).mono HB3.out.size))
          have hZ5 := (((ba w3 (.cells #[.int .i64 x.f0, .int .i64 x.f1, .string x.f2, .slice A3 x.f3.length c3, .slice A4 x.f4.length c4] 38)).trans (b5.mono (by simp))).block _ hlt4).trans HZ3.out
          have HZ5 := Lib.hid hZ5
          have z0 := blk_cell hZ5 0
          have z1 := blk_cell hZ5 1
          have z2 := blk_cell hZ5 2
          have z3 := blk_cell hZ5 3
          have z4 := blk_cell hZ5 4
          have y0 := blk_frozen hZ5 0
          have y1 := blk_frozen hZ5 1
          have y2 := blk_frozen hZ5 2
          have y3 := blk_frozen hZ5 3
          have y4 := blk_frozen hZ5 4
          clear b5 hZ5
          go_wp2_with fail
          refine bodyPost_ret (parse_res rfl (set5_blk HZ5.out (.int .i64 0) (.int .i64 0) (.string ⟨#[]⟩) (.slice none 0 0) (.slice none 0 0)) rfl rfl) rfl ?_
          exact ParseP.zero (set5_below HB5.out _ (Nat.le_refl _) _ _ _ _ _) (.inr (.inl ⟨by omega, rfl, rfl, HN.out⟩))
        | true =>
          have hfn : fitsB ((l.length : Int) + 1).toNat x = true := by rw [show ((l.length : Int) + 1).toNat = l.length + 1 from by omega]; exact hf
          rw [hfn] at HFA
          have HF := Lib.hid hf
          clear hf hfn
          go_wp2_with fail
          refine HFA.out.mono ?_
          rintro e w5 ⟨rfl, b5⟩
          have hb5 : Below w3.heap.size w3 w5 := (ba _ _).trans (b5.mono (by simp))
          have HB5 := Lib.hid (HB3.out.trans (hb5.mono HB3.out.size))
          have hX5 := (b5.block w3.heap.size (by simp)).trans (World.alloc_heap_new w3 _)
          have hZ5 := (hb5.block _ hlt4).trans HZ3.out
          have HZ5 := Lib.hid hZ5
          have HX5 := Lib.hid hX5
          have HV5 := Lib.hid (HV3.out.below hb5)
          have HBB5 := Lib.hid hb5
          have x0 := blk_cell hX5 0
          have x1 := blk_cell hX5 1
          have x2 := blk_cell hX5 2
          have x3 := blk_cell hX5 3
          have x4 := blk_cell hX5 4
          clear b5 hZ5 hX5 hb5
          go_wp2_with fail
          refine (render_any _ x A3 c3 A4 c4 w5 HF.out HV5.out (by have := HWX.out; omega) (hE.below HB5.out)).mono ?_
          rintro e w6 ⟨rfl, b6⟩
          have HB6 := Lib.hid (HB5.out.trans (b6.mono HB5.out.size))
          have hZ6 := (b6.block _ (blk_lt HZ5.out)).trans HZ5.out
          have hX6 := (b6.block _ (blk_lt HX5.out)).trans HX5.out
          have HV6 := Lib.hid (HV5.out.below b6)
          have HBB6 := Lib.hid (HBB5.out.trans (b6.mono HBB5.out.size))
          have HZ6 := Lib.hid hZ6
          have HX6 := Lib.hid hX6
          have x0 := blk_cell hX6 0
          have x1 := blk_cell hX6 1
          have x2 := blk_cell hX6 2
          have x3 := blk_cell hX6 3
          have x4 := blk_cell hX6 4
          have z0 := blk_cell hZ6 0
          have z1 := blk_cell hZ6 1
          have z2 := blk_cell hZ6 2
          have z3 := blk_cell hZ6 3
          have z4 := blk_cell hZ6 4
          have y0 := blk_frozen hZ6 0
          have y1 := blk_frozen hZ6 1
          have y2 := blk_frozen hZ6 2
          have y3 := blk_frozen hZ6 3
          have y4 := blk_frozen hZ6 4
          clear b6 hZ6 hX6
          by_cases hq : renderL x = l
          · have eq : (renderL x == l) = true := by simp [hq]
            have HQ := Lib.hid hq
            have HUN : Hid (∀ d z, fitsB d z = true → renderL z = l → z = x) := fun d z hfz hz => ((HC3.out d z [] (by simp) hfz (fun c t' h => by cases h) (by rw [hz]; simp)).1).symm
            clear hq
            have HG := Lib.hid (good_calls x A3 c3 A4 c4 w6 HV6.out (by have := HWX.out; omega))
            cases hf8 : fitsB 8 x with
            | false =>
              rw [hf8] at HG
              have HF8 := Lib.hid hf8
              clear hf8
              go_wp2_with fail
              refine HG.out.mono ?_
              rintro e w7 ⟨rfl, b7⟩
              have HB7 := Lib.hid (HB6.out.trans (b7.mono HB6.out.size))
              have hZ7 := (b7.block _ (blk_lt HZ6.out)).trans HZ6.out
              have HZ7 := Lib.hid hZ7
              have z0 := blk_cell hZ7 0
              have z1 := blk_cell hZ7 1
              have z2 := blk_cell hZ7 2
              have z3 := blk_cell hZ7 3
              have z4 := blk_cell hZ7 4
              have y0 := blk_frozen hZ7 0
              have y1 := blk_frozen hZ7 1
              have y2 := blk_frozen hZ7 2
              have y3 := blk_frozen hZ7 3
              have y4 := blk_frozen hZ7 4
              clear b7 hZ7
              go_wp2_with fail
              refine bodyPost_ret (parse_res rfl (set5_blk HZ7.out (.int .i64 0) (.int .i64 0) (.string ⟨#[]⟩) (.slice none 0 0) (.slice none 0 0)) rfl rfl) rfl ?_
              exact ParseP.zero (set5_below HB7.out _ (Nat.le_refl _) _ _ _ _ _) (.inr (.inr (.inl ⟨by omega, rfl, rfl, x, HF.out, HQ.out, HF8.out, HUN.out⟩)))
            | true =>
              rw [hf8] at HG
              have HF8 := Lib.hid hf8
              clear hf8
              go_wp2_with fail
              refine HG.out.mono ?_
              rintro e w7 ⟨rfl, b7⟩
              have HB7 := Lib.hid (HB6.out.trans (b7.mono HB6.out.size))
              have HBB7 := Lib.hid (HBB6.out.trans (b7.mono HBB6.out.size))
              have hZ7 := (b7.block _ (blk_lt HZ6.out)).trans HZ6.out
              have hX7 := (b7.block _ (blk_lt HX6.out)).trans HX6.out
              have HZ7 := Lib.hid hZ7
              have x0 := blk_cell hX7 0
              have x1 := blk_cell hX7 1
              have x2 := blk_cell hX7 2
              have x3 := blk_cell hX7 3
              have x4 := blk_cell hX7 4
              have z0 := blk_cell hZ7 0
              have z1 := blk_cell hZ7 1
              have z2 := blk_cell hZ7 2
              have z3 := blk_cell hZ7 3
              have z4 := blk_cell hZ7 4
              have y0 := blk_frozen hZ7 0
              have y1 := blk_frozen hZ7 1
              have y2 := blk_frozen hZ7 2
              have y3 := blk_frozen hZ7 3
              have y4 := blk_frozen hZ7 4
              clear b7 hZ7 hX7
              go_wp2_with fail
              refine bodyPost_ret (parse_res rfl (set5_blk HZ7.out (.int .i64 x.f0) (.int .i64 x.f1) (.string x.f2) (.slice A3 x.f3.length c3) (.slice A4 x.f4.length c4)) rfl rfl) rfl ?_
              have hfar : ∀ q, w.heap.size + 1 ≤ q → (set5 w7 w.heap.size (.int .i64 x.f0) (.int .i64 x.f1) (.string x.f2) (.slice A3 x.f3.length c3) (.slice A4 x.f4.length c4)).heap[q]? = w7.heap[q]? := fun q hq => set5_far _ _ _ _ _ _ _ q (by omega)
              exact ⟨x, _, _, 0, rfl, Kd.R_lower (Kd.R_mono (Kd.R_step (Kd.R_bound (Kd.R_below HL7.out HBB7.out)) (fun q hq _ => hfar q hq.2.1)) (fun _ _ => trivial)) (by omega), Kd.R_lower (Kd.R_mono (Kd.R_step (Kd.R_bound (Kd.R_below HK7.out HBB7.out)) (fun q hq _ => hfar q hq.2.1)) (fun _ _ => trivial)) (by omega), set5_below HB7.out _ (Nat.le_refl _) _ _ _ _ _, HWX.out, .inr (.inr (.inr ⟨by omega, rfl, HF8.out, HQ.out, HUN.out⟩))⟩
          · have eq : (renderL x == l) = false := by simp [hq]
            have HN : Hid (∀ d y, fitsB d y = true → renderL y ≠ l) := fun d y hfy he => by
              have h1 := (HC3.out d y [] (by simp) hfy (fun c t' h => by cases h) (by rw [he]; simp)).1
              subst h1
              exact hq he
            clear hq
            go_wp2_with fail
            refine bodyPost_ret (parse_res rfl (set5_blk HZ6.out (.int .i64 0) (.int .i64 0) (.string ⟨#[]⟩) (.slice none 0 0) (.slice none 0 0)) rfl rfl) rfl ?_
            exact ParseP.zero (set5_below HB6.out _ (Nat.le_refl _) _ _ _ _ _) (.inr (.inl ⟨by omega, rfl, rfl, HN.out⟩))
      · have eE := hsE r hr
        have HN : Hid (∀ d y, fitsB d y = true → renderL y ≠ l) := fun d y hf he => by
          have := (HC3.out d y [] (by simp) hf (fun c t' h => by cases h) (by rw [he]; simp)).2.1
          exact hr this
        clear hsE eE
        go_wp2_with fail
        refine bodyPost_ret (parse_res rfl (blk_alloc (set5_blk HZ3.out (.int .i64 0) (.int .i64 0) (.string ⟨#[]⟩) (.slice none 0 0) (.slice none 0 0)) _) rfl rfl) rfl ?_
        exact ParseP.zero ((set5_below HB3.out _ (Nat.le_refl _) _ _ _ _ _).alloc (by simp [set5, World.setCell]; omega) _) (.inr (.inl ⟨by omega, rfl, rfl, HN.out⟩))
end Go.Proofs.YtiddjadfkpjpdaaGreatDoor.Q
