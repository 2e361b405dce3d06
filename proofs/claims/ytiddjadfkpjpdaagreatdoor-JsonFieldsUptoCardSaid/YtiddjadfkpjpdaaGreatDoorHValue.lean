/- json.reader.value. -/
import Derived.Test.YtiddjadfkpjpdaaGreatDoorHWords
import Derived.Test.YtiddjadfkpjpdaaGreatDoorHCases
set_option linter.unusedVariables false
set_option linter.unusedSimpArgs false
namespace Go.Proofs.YtiddjadfkpjpdaaGreatDoor.Q
open Go.RowKit Go.Proofs.YtiddjadfkpjpdaaGreatDoorW.PrintWords Go.Maps Go.ChangeMaps Go.MapKept
/-- How a good value's text begins, by its kind. -/
theorem head_kind {d : Nat} {x : S38} (h : fitsB d x = true) : ∃ c r, renderL x = c :: r ∧
    ((c = 110 ∧ x = ⟨1, 0, ⟨#[]⟩, [], []⟩) ∨ (c = 116 ∧ x = ⟨2, 1, ⟨#[]⟩, [], []⟩) ∨ (c = 102 ∧ x = ⟨2, 0, ⟨#[]⟩, [], []⟩) ∨ (isNum c = true ∧ ∃ n, -9007199254740992 ≤ n ∧ n ≤ 9007199254740992 ∧ x = ⟨3, n, ⟨#[]⟩, [], []⟩) ∨
     (c = 34 ∧ ∃ t, x = ⟨4, 0, t, [], []⟩) ∨ (c = 91 ∧ ∃ xs, x = ⟨5, 0, ⟨#[]⟩, xs, []⟩ ∧ ∃ e, ∀ y ∈ xs, fitsB e y = true) ∨ (c = 123 ∧ ∃ xs ks, x = ⟨6, 0, ⟨#[]⟩, xs, ks⟩ ∧ ks.length = xs.length ∧ ∃ e, ∀ y ∈ xs, fitsB e y = true)) := by
  cases kind_of h with
  | null h => subst h; exact ⟨110, _, by simp [renderL, nullT]; rfl, .inl ⟨rfl, rfl⟩⟩
  | tru h => subst h; exact ⟨116, _, by simp [renderL, trueT]; rfl, .inr (.inl ⟨rfl, rfl⟩)⟩
  | fls h => subst h; exact ⟨102, _, by simp [renderL, falseT]; rfl, .inr (.inr (.inl ⟨rfl, rfl⟩))⟩
  | num n h0 h1 h =>
    subst h
    obtain ⟨c, r, hc, hn⟩ := head_itoa n
    exact ⟨c, r, by simp [renderL, hc], .inr (.inr (.inr (.inl ⟨hn, n, h0, h1, rfl⟩)))⟩
  | text t h => subst h; exact ⟨34, _, by simp [renderL, quoteL]; rfl, .inr (.inr (.inr (.inr (.inl ⟨rfl, t, rfl⟩))))⟩
  | list e he xs hx h64 h => subst h; exact ⟨91, _, by simp [renderL]; rfl, .inr (.inr (.inr (.inr (.inr (.inl ⟨rfl, xs, rfl, e, hx⟩)))))⟩
  | object e he xs ks hx hl hu h64 h => subst h; exact ⟨123, _, by simp [renderL]; rfl, .inr (.inr (.inr (.inr (.inr (.inr ⟨rfl, xs, ks, rfl, hl, e, hx⟩)))))⟩
/-- The words, one by one. -/
theorem word_spec : ∀ e ∈ wordE.toList, ∃ (t : List UInt8) (k n : Int), t ≠ [] ∧ t.length ≤ 5 ∧ e.key = .string ⟨t.toArray⟩ ∧ e.val = .agg #[.int .i64 k, .int .i64 n, .string ⟨#[]⟩, .slice none 0 0, .slice none 0 0] ∧
    (∀ d x0 tt, fitsB d x0 = true → t.isPrefixOf (renderL x0 ++ tt) = true → x0 = ⟨k, n, ⟨#[]⟩, [], []⟩ ∧ renderL x0 = t) := by
  have key : ∀ (c : UInt8) (r : List UInt8) (k n : Int) (hc : c = 110 ∧ k = 1 ∧ n = 0 ∧ r = [117, 108, 108] ∨ c = 116 ∧ k = 2 ∧ n = 1 ∧ r = [114, 117, 101] ∨ c = 102 ∧ k = 2 ∧ n = 0 ∧ r = [97, 108, 115, 101]) (d : Nat) (x0 : S38) (tt : List UInt8), fitsB d x0 = true → (c :: r).isPrefixOf (renderL x0 ++ tt) = true → x0 = ⟨k, n, ⟨#[]⟩, [], []⟩ ∧ renderL x0 = c :: r := by
    intro c r k n hc d x0 tt hf hp
    obtain ⟨c', r', he, hcase⟩ := head_kind hf
    rw [he] at hp
    simp only [List.cons_append, List.isPrefixOf, Bool.and_eq_true, beq_iff_eq] at hp
    obtain ⟨rfl, -⟩ := hp
    rcases hc with ⟨rfl, rfl, rfl, rfl⟩ | ⟨rfl, rfl, rfl, rfl⟩ | ⟨rfl, rfl, rfl, rfl⟩ <;>
    rcases hcase with ⟨h1, rfl⟩ | ⟨h1, rfl⟩ | ⟨h1, rfl⟩ | ⟨h1, _⟩ | ⟨h1, _⟩ | ⟨h1, _⟩ | ⟨h1, _⟩ <;>
    first
    | exact ⟨rfl, by simp [renderL, nullT, trueT, falseT]⟩
    | exact absurd h1 (by decide)
  intro e he
  have : e ∈ [wordE[0], wordE[1], wordE[2]] := he
  simp only [List.mem_cons, List.not_mem_nil, or_false] at this
  rcases this with rfl | rfl | rfl
  · exact ⟨[110, 117, 108, 108], 1, 0, by simp, by simp, rfl, rfl, key 110 _ 1 0 (.inl ⟨rfl, rfl, rfl, rfl⟩)⟩
  · exact ⟨[116, 114, 117, 101], 2, 1, by simp, by simp, rfl, rfl, key 116 _ 2 1 (.inr (.inl ⟨rfl, rfl, rfl, rfl⟩))⟩
  · exact ⟨[102, 97, 108, 115, 101], 2, 0, by simp, by simp, rfl, rfl, key 102 _ 2 0 (.inr (.inr ⟨rfl, rfl, rfl, rfl⟩))⟩
set_option maxRecDepth 100000 in
set_option maxHeartbeats 8000000 in
theorem has_calls (l t : List UInt8) (w : World) (hl : l.length ≤ 1099511627776) : Calls Tryz.prog 99 #[.string ⟨l.toArray⟩, .string ⟨t.toArray⟩] w fun e w' => e = .returned (.bool (t.isPrefixOf l)) ∧ w' = w := by
  have HC := Lib.hid (hp_calls l t w hl)
  go_enter Tryz.func99, Tryz.ntmps99
  go_wp2_with fail
  refine HC.out.mono ?_
  rintro e w' ⟨rfl, rfl⟩
  go_wp2_with fail
  go_ret
  exact ⟨rfl, rfl⟩
set_option maxRecDepth 100000 in
set_option maxHeartbeats 8000000 in
theorem value_of (p : Nat) (l : List UInt8) (b : Bool) (w0 w : World) (h : Rd p w l b) (hl : l.length ≤ 1073741824) (hC : Ctx p w0 w)
    (HR : ∀ (k : Int) (ed : UInt8), (k = 5 ∧ ed = 93 ∨ k = 6 ∧ ed = 125) → ∀ (l' : List UInt8) (b' : Bool) (W : World), l'.length < l.length → Rd p W l' b' → Ctx p w0 W →
      Calls Tryz.prog 101 #[.pointer (some ⟨p, 0, none⟩), .agg #[.int .i64 k, .int .i64 0, .string ⟨#[]⟩, .slice none 0 0, .slice none 0 0], .string ⟨#[ed]⟩] W (RowP k ed p l' b' W)) :
    Calls Tryz.prog 65 #[.pointer (some ⟨p, 0, none⟩)] w (ValP p l b w) := by
  have hpl := h.lt
  obtain ⟨W1, hW1⟩ : ∃ W1, w.alloc (.cells #[.int .i64 0, .int .i64 0, .string ⟨#[]⟩, .slice none 0 0, .slice none 0 0] 38) = W1 := ⟨_, rfl⟩
  have hs1 : W1.heap.size = w.heap.size + 1 := by rw [← hW1]; simp
  have hZ1 : W1.heap[w.heap.size]? = some (.cells #[.int .i64 0, .int .i64 0, .string ⟨#[]⟩, .slice none 0 0, .slice none 0 0] 38 (0, 0)) := by rw [← hW1]; exact World.alloc_heap_new w _
  have hb1 : Below w.heap.size w W1 := by rw [← hW1]; exact ba _ _
  have hR1 := h.kept hb1
  have HW1 := Lib.hid hW1
  have HRR := Lib.hid HR
  have HZ1 := Lib.hid hZ1
  have HR1 := Lib.hid hR1
  have HB1 := Lib.hid hb1
  have HC := Lib.hid hC
  obtain ⟨d0, d1, e0, e1⟩ := h.cells
  obtain ⟨c0, c1, f0, f1⟩ := hR1.cells
  have z0 := blk_cell hZ1 0
  have z1 := blk_cell hZ1 1
  have z2 := blk_cell hZ1 2
  have z3 := blk_cell hZ1 3
  have z4 := blk_cell hZ1 4
  have y0 := blk_frozen hZ1 0
  have y1 := blk_frozen hZ1 1
  have y2 := blk_frozen hZ1 2
  have y3 := blk_frozen hZ1 3
  have y4 := blk_frozen hZ1 4
  clear h hR1 hW1 HR hZ1 hb1 hC
  cases b with
  | true =>
    go_enter Tryz.func65, Tryz.ntmps65
    go_wp2_with fail
    rw [HW1.out]
    refine bodyPost_ret (results_cell_row rfl _ _ w.heap.size 38 _ (0, 0) _ rfl HZ1.out Tryz.underlying38 rfl (by kernel_rfl)) rfl ?_
    refine ⟨z38, .slice none 0 0, .slice none 0 0, l, true, rfl, Kd.R_nil _ _ _ _ _, Kd.R_nil _ _ _ _ _, HR1.out, gbelow HB1.out _, Nat.le_refl _, ?_, fun h => h, fun d x0 t hb => by cases hb⟩
    have hz : (⟨#[]⟩ : ByteArray).size = 0 := rfl
    simp [z38, S38.wt, wtsL, hz]
  | false =>
    go_enter Tryz.func65, Tryz.ntmps65
    go_wp2_with fail
    rw [HW1.out]
    refine (words_calls W1).mono ?_
    rintro e w2 ⟨rfl, hm2, b2⟩
    rw [hs1] at hm2
    have HM2 := Lib.hid hm2
    have HR2 := Lib.hid (HR1.out.kept b2)
    have HZ2 := Lib.hid ((b2.block _ (by omega)).trans HZ1.out)
    have HB2 := Lib.hid (HB1.out.trans (b2.mono HB1.out.size))
    have hrange := run_range_map (P := Tryz.prog) w2 119 9 38 (w.heap.size + 1) wordE 3 Tryz.underlying119 hm2
    have hsw := b2.size
    have hlt2 : w.heap.size + 1 < w2.heap.size := by
      rcases Nat.lt_or_ge (w.heap.size + 1) w2.heap.size with hh | hh
      · exact hh
      · rw [Array.getElem?_eq_none hh] at hm2; cases hm2
    clear hm2
    go_wp2_with fail
    clear hrange
    obtain ⟨W3, hW3⟩ : ∃ W3, W3 = w2.alloc (.mapIter (some (w.heap.size + 1)) 3 #[] 3) := ⟨_, rfl⟩
    have hb3 : Below w2.heap.size w2 W3 := by rw [hW3]; exact ba _ _
    have HI3 : Hid (W3.heap[w2.heap.size]? = some (.mapIter (some (w.heap.size + 1)) 3 #[] 3)) := by show _ = _; rw [hW3]; exact World.alloc_heap_new w2 _
    have HM3 := Lib.hid ((hb3.block _ hlt2).trans HM2.out)
    have HR3 := Lib.hid (HR2.out.kept hb3)
    have HZ3 := Lib.hid ((hb3.block _ (by omega)).trans HZ2.out)
    have HB3 := Lib.hid (HB2.out.trans (hb3.mono HB2.out.size))
    have hs3 : w2.heap.size < W3.heap.size := by rw [hW3]; simp
    rw [← hW3]
    clear hW3
    go_loopw [12] (fun _ wr => ∃ (seen : Array Nat) (c0 : Nat), wr.heap[w.heap.size + 1]? = some (.map wordE 3) ∧ wr.heap[w2.heap.size]? = some (.mapIter (some (w.heap.size + 1)) 3 seen c0) ∧ 3 ≤ c0 ∧ Rd p wr l false ∧ w.grownBy wr (some p) ∧ wr.heap[w.heap.size]? = some (.cells #[.int .i64 0, .int .i64 0, .string ⟨#[]⟩, .slice none 0 0, .slice none 0 0] 38 (0, 0)) ∧ w2.heap.size < wr.heap.size ∧
      (∀ e ∈ wordE.toList, seen.contains e.born = true → ∀ t : List UInt8, e.key = .string ⟨t.toArray⟩ → t.isPrefixOf l = false)) (fun _ wr => wr.rangeLeft (w.heap.size + 1) w2.heap.size)
    case atStart => exact ⟨#[], 3, HM3.out, HI3.out, Nat.le_refl _, HR3.out, gbelow HB3.out _, HZ3.out, hs3, fun e he hc => by simp at hc⟩
    case round =>
      obtain ⟨seen, q0, hM, hI, hq0, hR, hG, hZ, hS, hno⟩ := hrel
      have hL : wr.rangeLeft (w.heap.size + 1) w2.heap.size = (leftOf wordE seen).size := by simp only [World.rangeLeft, hM, hI]
      obtain ⟨d0, d1, e0, e1⟩ := hR.cells
      have hrlt : w2.heap.size < wr.heap.size := hS
      rcases run_next_at (P := Tryz.prog) wr 0 w2.heap.size (w.heap.size + 1) 3 q0 seen wordE 3 hI hM (by decide) hq0 with ⟨h0, hn⟩ | ⟨e, he, w3, hw3, hn⟩
      · have HG := Lib.hid hG
        have HZ := Lib.hid hZ
        have HR_ := Lib.hid hR
        have HH := Lib.hid (has_calls l [34] wr (by omega))
        have HW_ : Hid (∀ e ∈ wordE.toList, ∀ t : List UInt8, e.key = .string ⟨t.toArray⟩ → t.isPrefixOf l = false) := fun e he => hno e he (all_seen wordE seen h0 e he)
        have z0 := blk_cell hZ 0
        have z1 := blk_cell hZ 1
        have z2 := blk_cell hZ 2
        have z3 := blk_cell hZ 3
        have z4 := blk_cell hZ 4
        have y0 := blk_frozen hZ 0
        have y1 := blk_frozen hZ 1
        have y2 := blk_frozen hZ 2
        have y3 := blk_frozen hZ 3
        have y4 := blk_frozen hZ 4
        clear hno hG hZ hR hM hI hL h0
        cases hp4 : [34].isPrefixOf l with
        | true =>
          simp only [hp4] at HH
          go_wp2_with fail
          refine HH.out.mono ?_
          rintro e5 w5 ⟨rfl, rfl⟩
          go_wp2_with fail
          refine (text_calls p l false _ HR_.out (by omega)).mono ?_
          rintro e6 w6 ⟨s, r, b6, rfl, h6, g6, hl6, hc6⟩
          have hZ6 := blk_grown HZ.out g6 (by simp; omega)
          have z0 := blk_cell hZ6 0
          have z1 := blk_cell hZ6 1
          have z2 := blk_cell hZ6 2
          have z3 := blk_cell hZ6 3
          have z4 := blk_cell hZ6 4
          have y0 := blk_frozen hZ6 0
          have y1 := blk_frozen hZ6 1
          have y2 := blk_frozen hZ6 2
          have y3 := blk_frozen hZ6 3
          have y4 := blk_frozen hZ6 4
          have HZ6 := Lib.hid hZ6
          have H6 := Lib.hid h6
          have G6 := Lib.hid g6
          have HL6 := Lib.hid hl6
          have HC6 := Lib.hid hc6
          clear hZ6 h6 g6 hl6 hc6
          go_wp2_with fail
          refine bodyPost_ret (results_cell_row rfl _ _ w.heap.size 38 _ (0, 0) _ rfl (set5_blk HZ6.out (.int .i64 4) (.int .i64 0) (.string ⟨s.toArray⟩) (.slice none 0 0) (.slice none 0 0)) Tryz.underlying38 rfl (by kernel_rfl)) rfl ?_
          refine ⟨⟨4, 0, ⟨s.toArray⟩, [], []⟩, .slice none 0 0, .slice none 0 0, r, b6, rfl, Kd.R_nil _ _ _ _ _, Kd.R_nil _ _ _ _ _, set5_rd H6.out _ (by omega) _ _ _ _ _, set5_grown (HG.out.trans G6.out) _ (Nat.le_refl _) _ _ _ _ _, by have := HL6.out; omega, ?_, (fun h => by cases h), ?_⟩
          · have hz : (⟨s.toArray⟩ : ByteArray).size = s.length := by show s.toArray.size = _; simp
            have h1 := HL6.out
            simp only [S38.wt, wtsL, hz, List.map_nil, List.sum_nil, phi]
            cases b6 <;> simp <;> omega
          · intro d x0 tt _ hf _ hq
            obtain ⟨c, r', he, hcase⟩ := head_kind hf
            rw [hq, he] at hp4
            simp at hp4
            subst hp4
            rcases hcase with ⟨h1, _⟩ | ⟨h1, _⟩ | ⟨h1, _⟩ | ⟨h1, _⟩ | ⟨_, t, rfl⟩ | ⟨h1, _⟩ | ⟨h1, _⟩ <;> first | exact absurd h1 (by decide) | skip
            obtain ⟨g1, g2, g3⟩ := HC6.out (byt t) tt (by simp) (by rw [hq]; simp [renderL])
            exact ⟨by rw [g1]; simp [byt], g2, g3⟩
        | false =>
          simp only [hp4] at HH
          go_wp2_with fail
          refine HH.out.mono ?_
          rintro e5 w5 ⟨rfl, rfl⟩
          go_wp2_with fail
          have HT5 := Lib.hid (take_calls p l [91] false _ HR_.out (by omega))
          cases hp5 : [91].isPrefixOf l with
          | true =>
            simp only [hp5, if_true] at HT5
            refine HT5.out.mono ?_
            rintro e6 w6 ⟨rfl, h6, g6⟩
            obtain ⟨lr, rfl⟩ : ∃ lr, l = 91 :: lr := by
              cases l with
              | nil => simp at hp5
              | cons c lr => simp at hp5; exact ⟨lr, by rw [hp5]⟩
            have H6 : Hid (Rd p w6 lr false) := by show Rd p w6 lr false; simpa using h6
            have HG6 := Lib.hid (HG.out.trans g6)
            have HZ6 := Lib.hid (blk_grown HZ.out g6 (by simp; omega))
            clear h6 g6
            go_wp2_with fail
            refine (HRR.out 5 93 (.inl ⟨rfl, rfl⟩) lr false w6 (by simp) H6.out (HC.out.step HG6.out)).mono ?_
            rintro e7 w7 ⟨xs, ks, v3, v4, r7, b7, rfl, hL7, hK7, hr7, hg7, hl7, hw7, hb7, hc7⟩
            obtain ⟨A3, c3, rfl⟩ := Kd.R_slice hL7
            obtain ⟨A4, c4, rfl⟩ := Kd.R_slice hK7
            have hZ7 := blk_grown HZ6.out hg7 (by simp; omega)
            have z0 := blk_cell hZ7 0
            have z1 := blk_cell hZ7 1
            have z2 := blk_cell hZ7 2
            have z3 := blk_cell hZ7 3
            have z4 := blk_cell hZ7 4
            have y0 := blk_frozen hZ7 0
            have y1 := blk_frozen hZ7 1
            have y2 := blk_frozen hZ7 2
            have y3 := blk_frozen hZ7 3
            have y4 := blk_frozen hZ7 4
            have HZ7 := Lib.hid hZ7
            have HG7 := Lib.hid (HG6.out.trans hg7)
            have hz6 := blk_lt HZ6.out
            have HL7 := Lib.hid (Kd.R_step (Kd.R_bound hL7) (fun q hq _ => set5_far w7 w.heap.size (.int .i64 5) (.int .i64 0) (.string ⟨#[]⟩) (.slice A3 xs.length c3) (.slice A4 ks.length c4) q (by have := hq.2.1; omega)))
            have HK7 := Lib.hid (Kd.R_step (Kd.R_bound hK7) (fun q hq _ => set5_far w7 w.heap.size (.int .i64 5) (.int .i64 0) (.string ⟨#[]⟩) (.slice A3 xs.length c3) (.slice A4 ks.length c4) q (by have := hq.2.1; omega)))
            have HR7 := Lib.hid hr7
            have HW7 := Lib.hid hw7
            have HC7 := Lib.hid hc7
            have HLL7 := Lib.hid hl7
            have HS6 := Lib.hid hz6
            clear hZ7 hL7 hK7 hr7 hg7 hw7 hb7 hc7 hl7 hz6
            go_wp2_with fail
            refine bodyPost_ret (results_cell_row rfl _ _ w.heap.size 38 _ (0, 0) _ rfl (set5_blk HZ7.out (.int .i64 5) (.int .i64 0) (.string ⟨#[]⟩) (.slice A3 xs.length c3) (.slice A4 ks.length c4)) Tryz.underlying38 rfl (by kernel_rfl)) rfl ?_
            refine ⟨⟨5, 0, ⟨#[]⟩, xs, ks⟩, .slice A3 xs.length c3, .slice A4 ks.length c4, r7, b7, rfl, Kd.R_lower (Kd.R_mono HL7.out (fun _ _ => trivial)) (Nat.le_of_lt HS6.out), Kd.R_lower (Kd.R_mono HK7.out (fun _ _ => trivial)) (Nat.le_of_lt HS6.out), set5_rd HR7.out _ (by omega) _ _ _ _ _, set5_grown HG7.out _ (Nat.le_refl _) _ _ _ _ _, by have := HLL7.out; simp; omega, ?_, (fun h => by cases h), ?_⟩
            · have hz : (⟨#[]⟩ : ByteArray).size = 0 := rfl
              have h1 := HW7.out
              simp only [S38.wt, hz, phi, List.length_cons] at h1 ⊢
              omega
            · intro d x0 tt _ hf _ hq
              obtain ⟨c, r', he, hcase⟩ := head_kind hf
              have he2 := he
              rw [he2] at hq
              simp only [List.cons_append, List.cons.injEq] at hq
              obtain ⟨rfl, hq⟩ := hq
              rcases hcase with ⟨h1, _⟩ | ⟨h1, _⟩ | ⟨h1, _⟩ | ⟨h1, _⟩ | ⟨h1, _⟩ | ⟨_, xs0, rfl, e0, hx0⟩ | ⟨h1, _⟩ <;> first | exact absurd h1 (by decide) | skip
              simp [renderL] at he
              obtain ⟨g1, g2, g3, g4⟩ := HC7.out xs0 [] tt ⟨rfl, ⟨e0, hx0⟩, fun h => absurd h (by decide), fun _ => rfl, by rw [hq, ← he]; simp [partsT]⟩
              exact ⟨by rw [g1, g2], g3, g4⟩

          | false =>
            simp only [hp5, Bool.false_eq_true, if_false] at HT5
            refine HT5.out.mono ?_
            rintro e5 w55 ⟨rfl, h55, g55⟩
            have HG55 := Lib.hid (HG.out.trans g55)
            have HZ55 := Lib.hid (blk_grown HZ.out g55 (by simp; omega))
            have HR55 := Lib.hid h55
            clear h55 g55
            go_wp2_with fail
            have HT6 := Lib.hid (take_calls p l [123] false _ HR55.out (by omega))
            cases hp6 : [123].isPrefixOf l with
            | true =>
              simp only [hp6, if_true] at HT6
              refine HT6.out.mono ?_
              rintro e6 w6 ⟨rfl, h6, g6⟩
              obtain ⟨lr, rfl⟩ : ∃ lr, l = 123 :: lr := by
                cases l with
                | nil => simp at hp6
                | cons c lr => simp at hp6; exact ⟨lr, by rw [hp6]⟩
              have H6 : Hid (Rd p w6 lr false) := by show Rd p w6 lr false; simpa using h6
              have HG6 := Lib.hid (HG55.out.trans g6)
              have HZ6 := Lib.hid (blk_grown HZ55.out g6 (by simp; omega))
              clear h6 g6
              go_wp2_with fail
              refine (HRR.out 6 125 (.inr ⟨rfl, rfl⟩) lr false w6 (by simp) H6.out (HC.out.step HG6.out)).mono ?_
              rintro e7 w7 ⟨xs, ks, v3, v4, r7, b7, rfl, hL7, hK7, hr7, hg7, hl7, hw7, hb7, hc7⟩
              obtain ⟨A3, c3, rfl⟩ := Kd.R_slice hL7
              obtain ⟨A4, c4, rfl⟩ := Kd.R_slice hK7
              have hZ7 := blk_grown HZ6.out hg7 (by simp; omega)
              have z0 := blk_cell hZ7 0
              have z1 := blk_cell hZ7 1
              have z2 := blk_cell hZ7 2
              have z3 := blk_cell hZ7 3
              have z4 := blk_cell hZ7 4
              have y0 := blk_frozen hZ7 0
              have y1 := blk_frozen hZ7 1
              have y2 := blk_frozen hZ7 2
              have y3 := blk_frozen hZ7 3
              have y4 := blk_frozen hZ7 4
              have HZ7 := Lib.hid hZ7
              have HG7 := Lib.hid (HG6.out.trans hg7)
              have hz6 := blk_lt HZ6.out
              have HL7 := Lib.hid (Kd.R_step (Kd.R_bound hL7) (fun q hq _ => set5_far w7 w.heap.size (.int .i64 6) (.int .i64 0) (.string ⟨#[]⟩) (.slice A3 xs.length c3) (.slice A4 ks.length c4) q (by have := hq.2.1; omega)))
              have HK7 := Lib.hid (Kd.R_step (Kd.R_bound hK7) (fun q hq _ => set5_far w7 w.heap.size (.int .i64 6) (.int .i64 0) (.string ⟨#[]⟩) (.slice A3 xs.length c3) (.slice A4 ks.length c4) q (by have := hq.2.1; omega)))
              have HR7 := Lib.hid hr7
              have HW7 := Lib.hid hw7
              have HC7 := Lib.hid hc7
              have HLL7 := Lib.hid hl7
              have HS6 := Lib.hid hz6
              clear hZ7 hL7 hK7 hr7 hg7 hw7 hb7 hc7 hl7 hz6
              go_wp2_with fail
              refine bodyPost_ret (results_cell_row rfl _ _ w.heap.size 38 _ (0, 0) _ rfl (set5_blk HZ7.out (.int .i64 6) (.int .i64 0) (.string ⟨#[]⟩) (.slice A3 xs.length c3) (.slice A4 ks.length c4)) Tryz.underlying38 rfl (by kernel_rfl)) rfl ?_
              refine ⟨⟨6, 0, ⟨#[]⟩, xs, ks⟩, .slice A3 xs.length c3, .slice A4 ks.length c4, r7, b7, rfl, Kd.R_lower (Kd.R_mono HL7.out (fun _ _ => trivial)) (Nat.le_of_lt HS6.out), Kd.R_lower (Kd.R_mono HK7.out (fun _ _ => trivial)) (Nat.le_of_lt HS6.out), set5_rd HR7.out _ (by omega) _ _ _ _ _, set5_grown HG7.out _ (Nat.le_refl _) _ _ _ _ _, by have := HLL7.out; simp; omega, ?_, (fun h => by cases h), ?_⟩
              · have hz : (⟨#[]⟩ : ByteArray).size = 0 := rfl
                have h1 := HW7.out
                simp only [S38.wt, hz, phi, List.length_cons] at h1 ⊢
                omega
              · intro d x0 tt _ hf _ hq
                obtain ⟨c, r', he, hcase⟩ := head_kind hf
                have he2 := he
                rw [he2] at hq
                simp only [List.cons_append, List.cons.injEq] at hq
                obtain ⟨rfl, hq⟩ := hq
                rcases hcase with ⟨h1, _⟩ | ⟨h1, _⟩ | ⟨h1, _⟩ | ⟨h1, _⟩ | ⟨h1, _⟩ | ⟨h1, _⟩ | ⟨_, xs0, ks0, rfl, hlen, e0, hx0⟩ <;> first | exact absurd h1 (by decide) | skip
                simp [renderL] at he
                obtain ⟨g1, g2, g3, g4⟩ := HC7.out xs0 ks0 tt ⟨rfl, ⟨e0, hx0⟩, fun _ => hlen, fun h => absurd rfl h, by rw [hq, ← he]; simp [partsT]⟩
                exact ⟨by rw [g1, g2], g3, g4⟩

            | false =>
              simp only [hp6, Bool.false_eq_true, if_false] at HT6
              refine HT6.out.mono ?_
              rintro e6 w6 ⟨rfl, h6, g6⟩
              have HG6 := Lib.hid (HG55.out.trans g6)
              have HZ6 := Lib.hid (blk_grown HZ55.out g6 (by simp; omega))
              have H6 := Lib.hid h6
              clear h6 g6
              go_wp2_with fail
              refine (number_calls p l false w6 H6.out (by omega) (HC.out.step HG6.out).env').mono ?_
              rintro e7 w7 ⟨n, r7, b7, rfl, hr7, hg7, hl7, hb7, hc7⟩
              have hZ7 := blk_grown HZ6.out hg7 (by simp; omega)
              have z0 := blk_cell hZ7 0
              have z1 := blk_cell hZ7 1
              have z2 := blk_cell hZ7 2
              have z3 := blk_cell hZ7 3
              have z4 := blk_cell hZ7 4
              have y0 := blk_frozen hZ7 0
              have y1 := blk_frozen hZ7 1
              have y2 := blk_frozen hZ7 2
              have y3 := blk_frozen hZ7 3
              have y4 := blk_frozen hZ7 4
              have HZ7 := Lib.hid hZ7
              have HG7 := Lib.hid (HG6.out.trans hg7)
              have HR7 := Lib.hid hr7
              have HC7 := Lib.hid hc7
              have HLL7 := Lib.hid hl7
              clear hZ7 hr7 hg7 hb7 hc7 hl7
              go_wp2_with fail
              refine bodyPost_ret (results_cell_row rfl _ _ w.heap.size 38 _ (0, 0) _ rfl (set5_blk HZ7.out (.int .i64 3) (.int .i64 n) (.string ⟨#[]⟩) (.slice none 0 0) (.slice none 0 0)) Tryz.underlying38 rfl (by kernel_rfl)) rfl ?_
              refine ⟨⟨3, n, ⟨#[]⟩, [], []⟩, .slice none 0 0, .slice none 0 0, r7, b7, rfl, Kd.R_nil _ _ _ _ _, Kd.R_nil _ _ _ _ _, set5_rd HR7.out _ (by omega) _ _ _ _ _, set5_grown HG7.out _ (Nat.le_refl _) _ _ _ _ _, HLL7.out, ?_, (fun h => by cases h), ?_⟩
              · have hz : (⟨#[]⟩ : ByteArray).size = 0 := rfl
                have h1 := HLL7.out
                simp only [S38.wt, wtsL, hz, List.map_nil, List.sum_nil, phi]
                cases b7 <;> simp <;> omega
              · intro d x0 tt _ hf ht hq
                obtain ⟨c, r', he, hcase⟩ := head_kind hf
                have hw : ∀ e ∈ wordE.toList, ∀ t : List UInt8, e.key = .string ⟨t.toArray⟩ → t.isPrefixOf (renderL x0 ++ tt) = false := by rw [← hq]; exact HW_.out
                rcases hcase with ⟨_, rfl⟩ | ⟨_, rfl⟩ | ⟨_, rfl⟩ | ⟨_, n0, hn0, hn1, rfl⟩ | ⟨h1, _⟩ | ⟨h1, _⟩ | ⟨h1, _⟩
                · have := hw _ (show wordE[0] ∈ wordE.toList by simp [wordE]) [110, 117, 108, 108] rfl
                  simp [renderL, nullT] at this
                · have := hw wordE[1] (by simp [wordE]) [116, 114, 117, 101] rfl
                  simp [renderL, trueT] at this
                · have := hw wordE[2] (by simp [wordE]) [102, 97, 108, 115, 101] rfl
                  simp [renderL, falseT] at this
                · obtain ⟨g1, g2, g3⟩ := HC7.out n0 tt (by simp) hn0 hn1 ht (by rw [hq]; simp [renderL])
                  exact ⟨by rw [g1], g2, g3⟩
                · rw [hq, he, h1] at hp4; simp at hp4
                · rw [hq, he, h1] at hp5; simp at hp5
                · rw [hq, he, h1] at hp6; simp at hp6

      · obtain ⟨hem, hes⟩ := mem_left he
        obtain ⟨t, k, n, ht0, ht5, hkey, hval, hcomp⟩ := word_spec e hem
        rw [hkey, hval] at hn
        have hI3 : w3.heap = wr.heap := by rcases hw3 with rfl | rfl <;> rfl
        obtain ⟨w4, hw4⟩ : ∃ w4, w4 = setBlock w3 w2.heap.size (.mapIter (some (w.heap.size + 1)) 3 (seen.push e.born) 3) := ⟨_, rfl⟩
        rw [← hw4] at hn
        have h4r : w4.heap[w2.heap.size]? = some (.mapIter (some (w.heap.size + 1)) 3 (seen.push e.born) 3) := by rw [hw4]; exact setBlock_same (show w3.heap[w2.heap.size]? = some _ by rw [hI3]; exact hI) _
        have h4o : ∀ q, q ≠ w2.heap.size → w4.heap[q]? = wr.heap[q]? := by intro q hq; rw [hw4, ← hI3]; exact (heap_set (show w3.heap[w2.heap.size]? = some _ by rw [hI3]; exact hI)).2 q hq
        have h4s : w4.heap.size = wr.heap.size := by rw [hw4, ← hI3]; simp [setBlock]
        have hM4 := (h4o (w.heap.size + 1) (by omega)).trans hM
        have hen := run_entry_at (P := Tryz.prog) w4 w2.heap.size (w.heap.size + 1) 3 seen wordE 3 e h4r hM4 hem (by decide)
        rw [hkey, hval] at hen
        have hR4 : Rd p w4 l false := (h4o p (by omega)).trans hR
        have hZ4 := (h4o w.heap.size (by omega)).trans hZ
        have hG4 : w.grownBy w4 (some p) := ⟨by rw [hw4]; rcases hw3 with rfl | rfl <;> exact hG.os, by rw [hw4]; rcases hw3 with rfl | rfl <;> exact hG.tape, by rw [hw4]; rcases hw3 with rfl | rfl <;> exact hG.output, by rw [h4s]; exact hG.size, fun q hq hne => (h4o q (by omega)).trans (hG.block q hq hne)⟩
        have HM4 := Lib.hid hM4
        have HR4 := Lib.hid hR4
        have HZ4 := Lib.hid hZ4
        have HG4 := Lib.hid hG4
        have H4R := Lib.hid h4r
        have H4S := Lib.hid h4s
        clear hM4 hR4 hZ4 hG4 h4r h4o h4s hw4 hw3 hI3 d0 d1 e0 e1
        go_wp2_with fail
        obtain ⟨W5, hW5⟩ : ∃ W5, W5 = w4.alloc (Obj.cells #[Value.int IntKind.i64 k, Value.int IntKind.i64 n, Value.string { data := #[] }, Value.slice none 0 0, Value.slice none 0 0] 38) := ⟨_, rfl⟩
        have hb5 : Below w4.heap.size w4 W5 := by rw [hW5]; exact ba _ _
        have h5B : W5.heap[w4.heap.size]? = some (.cells #[Value.int IntKind.i64 k, Value.int IntKind.i64 n, Value.string { data := #[] }, Value.slice none 0 0, Value.slice none 0 0] 38 (0, 0)) := by rw [hW5]; exact World.alloc_heap_new w4 _
        have h5s : W5.heap.size = w4.heap.size + 1 := by rw [hW5]; simp
        rw [← hW5]
        have HT5 := Lib.hid (take_calls p l t false W5 (HR4.out.kept hb5) (by omega))
        have H5S := Lib.hid h5s
        have HZ5 := Lib.hid ((hb5.block w.heap.size (by have := H4S.out; omega)).trans HZ4.out)
        have HM5 := Lib.hid ((hb5.block (w.heap.size + 1) (by have := H4S.out; omega)).trans HM4.out)
        have HI5 := Lib.hid ((hb5.block w2.heap.size (by have := H4S.out; omega)).trans H4R.out)
        have HG5 := Lib.hid (HG4.out.trans (gbelow hb5 (some p)))
        have HB5 := Lib.hid h5B
        clear hW5 hb5 h5B h5s
        cases hp : t.isPrefixOf l with
        | true =>
          simp only [hp, if_true] at HT5
          refine HT5.out.mono ?_
          rintro e6 w6 ⟨rfl, h6, g6⟩
          have hZ6 := blk_grown HZ5.out g6 (by simp; omega)
          have hB6 := blk_grown HB5.out g6 (by have := H4S.out; simp; omega)
          have z0 := blk_cell hZ6 0
          have z1 := blk_cell hZ6 1
          have z2 := blk_cell hZ6 2
          have z3 := blk_cell hZ6 3
          have z4 := blk_cell hZ6 4
          have y0 := blk_frozen hZ6 0
          have y1 := blk_frozen hZ6 1
          have y2 := blk_frozen hZ6 2
          have y3 := blk_frozen hZ6 3
          have y4 := blk_frozen hZ6 4
          have q0 := blk_cell hB6 0
          have q1 := blk_cell hB6 1
          have q2 := blk_cell hB6 2
          have q3 := blk_cell hB6 3
          have q4 := blk_cell hB6 4
          have r0 := blk_frozen hB6 0
          have r1 := blk_frozen hB6 1
          have r2 := blk_frozen hB6 2
          have r3 := blk_frozen hB6 3
          have r4 := blk_frozen hB6 4
          have HZ6 := Lib.hid hZ6
          have H6 := Lib.hid h6
          have G6 := Lib.hid g6
          clear hZ6 hB6 h6 g6
          go_wp2_with fail
          refine bodyPost_ret (results_cell_row rfl _ _ w.heap.size 38 _ (0, 0) _ rfl (set5_blk HZ6.out (.int .i64 k) (.int .i64 n) (.string ⟨#[]⟩) (.slice none 0 0) (.slice none 0 0)) Tryz.underlying38 rfl (by kernel_rfl)) rfl ?_
          refine ⟨⟨k, n, ⟨#[]⟩, [], []⟩, .slice none 0 0, .slice none 0 0, l.drop t.length, false, rfl, Kd.R_nil _ _ _ _ _, Kd.R_nil _ _ _ _ _, set5_rd H6.out _ (by omega) _ _ _ _ _, set5_grown (HG5.out.trans G6.out) _ (Nat.le_refl _) _ _ _ _ _, by simp, ?_, fun h => h, ?_⟩
          · have hz : (⟨#[]⟩ : ByteArray).size = 0 := rfl
            simp only [S38.wt, wtsL, hz, List.map_nil, List.sum_nil, phi, List.length_drop]
            omega
          · intro d x0 tt _ hf _ hq
            rw [hq] at hp
            obtain ⟨h1, h2⟩ := hcomp d x0 tt hf hp
            exact ⟨h1.symm, by rw [hq, ← h2]; simp, rfl⟩
        | false =>
          simp only [hp, Bool.false_eq_true, if_false] at HT5
          refine HT5.out.mono ?_
          rintro e6 w6 ⟨rfl, h6, g6⟩
          have HZ6 := Lib.hid (blk_grown HZ5.out g6 (by simp; omega))
          have HM6 := Lib.hid (blk_grown HM5.out g6 (by simp; omega))
          have HI6 := Lib.hid (blk_grown HI5.out g6 (by simp; omega))
          have HR6 := Lib.hid h6
          have HG6 := Lib.hid (HG5.out.trans g6)
          have HS6 := Lib.hid g6.size
          clear h6 g6
          go_wp2_with fail
          go_roundw
          case rel =>
            refine ⟨seen.push e.born, 3, HM6.out, HI6.out, Nat.le_refl _, HR6.out, HG6.out, HZ6.out, by have h1 := HS6.out; have h2 := H5S.out; have h3 := H4S.out; omega, ?_⟩
            intro e' he' hc' t' ht'
            rw [contains_push, Bool.or_eq_true] at hc'
            rcases hc' with hc' | hc'
            · exact hno e' he' hc' t' ht'
            · have : e' = e := born_inj (by decide) he' hem (by simpa using hc')
              subst this
              rw [hkey] at ht'
              have h1 : t = t' := by simpa using ht'
              rw [← h1]; exact hp
          case measure =>
            rw [hL]
            have h1 : w6.rangeLeft (w.heap.size + 1) w2.heap.size = (leftOf wordE (seen.push e.born)).size := by simp only [World.rangeLeft, HM6.out, HI6.out]
            rw [h1]
            exact left_shrinks wordE seen e he
end Go.Proofs.YtiddjadfkpjpdaaGreatDoor.Q
