/- json.reader.number. -/
import Derived.Test.YtiddjadfkpjpdaaGreatDoorHText
import Derived.Test.YtiddjadfkpjpdaaGreatDoorHNum0
import Derived.Deep.RegionHeld3
import Derived.Laws.Rows
import Derived.Shelf.Strings.SlTrimAscii
set_option linter.unusedVariables false
set_option linter.unusedSimpArgs false
namespace Go.Proofs.YtiddjadfkpjpdaaGreatDoor.Q
open Go.RowKit Go.Proofs.YtiddjadfkpjpdaaGreatDoorW.PrintWords Go.Proofs.YtiddjadfkpjpdaaGreatDoorW.PrintLast
theorem trim_calls (l : List UInt8) (w : World) :
    Calls Tryz.prog 127 #[.string ⟨l.toArray⟩, .string ⟨#[45, 48, 49, 50, 51, 52, 53, 54, 55, 56, 57]⟩] w fun e w' => e = .returned (.string ⟨(l.dropWhile isNum).toArray⟩) ∧ Below w.heap.size w w' := by
  refine (Any.strings_TrimLeft_laid Tryz.lays161 (by kernel_rfl) ⟨l.toArray⟩ ⟨#[45, 48, 49, 50, 51, 52, 53, 54, 55, 56, 57]⟩ w (by decide) ?_).mono ?_
  · intro j b h
    have : b ∈ ([45, 48, 49, 50, 51, 52, 53, 54, 55, 56, 57] : List UInt8) := List.mem_of_getElem? h
    revert this
    simp only [List.mem_cons, List.not_mem_nil, or_false]
    rintro (rfl | rfl | rfl | rfl | rfl | rfl | rfl | rfl | rfl | rfl | rfl) <;> decide
  · rintro e w' ⟨rfl, h⟩
    exact ⟨rfl, h⟩
theorem set5_rd {w : World} {p : Nat} {l : List UInt8} {b : Bool} (h : Rd p w l b) (g : Nat) (hg : p ≠ g) (v0 v1 v2 v3 v4 : Value) : Rd p (set5 w g v0 v1 v2 v3 v4) l b := (set5_far w g v0 v1 v2 v3 v4 p hg).trans h
theorem heap_drew0 (w : World) : w.drew.heap = w.heap := rfl
theorem Rd.drew {p : Nat} {w : World} {l : List UInt8} {b : Bool} (h : Rd p w l b) : Rd p w.drew l b := h
theorem gdrew {w0 w : World} {row : Option Nat} (h : w0.grownBy w row) : w0.grownBy w.drew row := ⟨h.os, h.tape, h.output, h.size, h.block⟩
/-- What number does. -/
def NumP (p : Nat) (l : List UInt8) (b : Bool) (w : World) (e : Ending) (w' : World) : Prop :=
  ∃ (n : Int) (r : List UInt8) (b' : Bool), e = .returned (.agg #[.int .i64 3, .int .i64 n, .string ⟨#[]⟩, .slice none 0 0, .slice none 0 0]) ∧ Rd p w' r b' ∧ w.grownBy w' (some p) ∧ r.length ≤ l.length ∧ (b = true → b' = true) ∧
      (∀ x t, b = false → -9007199254740992 ≤ x → x ≤ 9007199254740992 → (∀ c t', t = c :: t' → isNum c = false) → l = Lib.itoa x ++ t → n = x ∧ r = t ∧ b' = false)
theorem NumP.drew {p : Nat} {l : List UInt8} {b : Bool} {w W : World} {e : Ending} (h : NumP p l b w e W) : NumP p l b w e W.drew := by
  obtain ⟨n, r, b', h1, h2, h3, h4⟩ := h
  exact ⟨n, r, b', h1, h2.drew, gdrew h3, h4⟩
set_option maxRecDepth 100000 in
set_option maxHeartbeats 8000000 in
theorem number_calls (p : Nat) (l : List UInt8) (b : Bool) (w : World) (h : Rd p w l b) (hl : l.length ≤ 1099511627776) (hE : Env w) :
    Calls Tryz.prog 102 #[.pointer (some ⟨p, 0, none⟩)] w (NumP p l b w) := by
  have hpl := h.lt
  obtain ⟨W1, hW1⟩ : ∃ W1, w.alloc (.cells #[.int .i64 0, .int .i64 0, .string ⟨#[]⟩, .slice none 0 0, .slice none 0 0] 38) = W1 := ⟨_, rfl⟩
  have hb1 : Below w.heap.size w W1 := by rw [← hW1]; exact ba _ _
  have hR1 := h.kept hb1
  obtain ⟨c0, c1, f0, f1⟩ := hR1.cells
  have HR1 := Lib.hid hR1
  have HW1 := Lib.hid hW1
  clear h hR1 hW1
  go_enter Tryz.func102, Tryz.ntmps102
  go_wp2_with fail
  rw [HW1.out]
  go_region_held3 (fun w' => w'.cell? ⟨p, 0, none⟩ = some (.string ⟨l.toArray⟩) ∧ Below W1.heap.size W1 w') (first | exact ⟨c0, below_drew1 (Below.refl _ _)⟩ | exact ⟨(bw.cell (p := ⟨p, 0, none⟩) (World.block_lt_of_cell? W1 _ c0)).trans c0, below_step (below_drew1 (Below.refl _ _)) bw⟩ | (refine ⟨?_, ?_⟩ <;> assumption)) (first | (go_at_call 127; refine (trim_calls l _).mono ?_; rintro e w' ⟨rfl, bw⟩))
  rename_i bw9
  obtain ⟨hc9, hb9⟩ := bw9
  clear c1 f0 f1 c0
  obtain ⟨T, hT⟩ : ∃ T, T = l.takeWhile isNum := ⟨_, rfl⟩
  obtain ⟨D, hD⟩ : ∃ D, D = l.dropWhile isNum := ⟨_, rfl⟩
  have hTD : l = T ++ D := by rw [hT, hD, List.takeWhile_append_dropWhile]
  have hlen : l.length = T.length + D.length := by rw [hTD, List.length_append]
  have hm : IntKind.i64.wrap ((l.length : Int) - ((l.dropWhile isNum).length : Int)) = (T.length : Int) := by rw [← hD, Go.Proofs.YtiddjadfkpjpdaaGreatDoorW.PrintLast.i64_w]; unfold wrap64; omega
  have hR9 := HR1.out.kept hb9
  have hB9 := (hb1.trans (hb9.mono hb1.size))
  have hE9 := hE.below hB9
  have HX1 : Hid ((⟨l.toArray⟩ : ByteArray).extract 0 T.length = ⟨T.toArray⟩) := by show _ = _; rw [ext_mk, hTD]; simp
  have HX2 : Hid ((⟨l.toArray⟩ : ByteArray).extract T.length (T.length + D.length) = ⟨D.toArray⟩) := by show _ = _; rw [ext_mk, hTD]; simp
  have HTT := Lib.hid hT
  have HDD := Lib.hid hD
  have HTD := Lib.hid hTD
  have hTl : T.length ≤ l.length := by omega
  have hv0 : w'.heap[w.heap.size]? = some (.cells #[.int .i64 0, .int .i64 0, .string ⟨#[]⟩, .slice none 0 0, .slice none 0 0] 38 (0, 0)) := (hb9.block _ (by rw [← HW1.out]; simp)).trans (by rw [← HW1.out]; exact World.alloc_heap_new w _)
  rw [hm]
  clear hm hT hD hTD bw
  generalize w' = w9 at *
  obtain ⟨c0, c1, f0, f1⟩ := hR9.cells
  have HR9 := Lib.hid hR9
  clear hR9 hc9
  go_wp2_with fail
  rw [HX1.out]
  have HBL := Lib.hid (hb1.size)
  have hpN : p ≠ w.heap.size := by omega
  have HZ : Hid (∀ (n : Int) (b' : Bool) (W2 : World), W2.heap[w.heap.size]? = some (.cells #[.int .i64 0, .int .i64 0, .string ⟨#[]⟩, .slice none 0 0, .slice none 0 0] 38 (0, 0)) → Rd p W2 l b → w.grownBy W2 (some p) → (b = true → b' = true) →
      (∀ x, b = false → -9007199254740992 ≤ x → x ≤ 9007199254740992 → T = Lib.itoa x → n = x ∧ b' = false) →
      NumP p l b w (.returned (.agg #[.int .i64 3, .int .i64 n, .string ⟨#[]⟩, .slice none 0 0, .slice none 0 0])) (set5 ((W2.setCell ⟨p, 1, none⟩ (.bool b')).setCell ⟨p, 0, none⟩ (.string ⟨D.toArray⟩)) w.heap.size (.int .i64 3) (.int .i64 n) (.string ⟨#[]⟩) (.slice none 0 0) (.slice none 0 0))) := by
    show ∀ n b' W2, _
    intro n b' W2 hw2 hr2 hg2 hbb hok
    refine ⟨n, D, b', rfl, (set5_rd hr2.setB.setS _ hpN _ _ _ _ _), (set5_grown ((hg2.trans (gset _ _ _ _)).trans (gset _ _ _ _)) w.heap.size (Nat.le_refl _) _ _ _ _ _), by omega, hbb, ?_⟩
    · intro x t hb hx0 hx1 ht hq
      obtain ⟨q1, q2⟩ := num_cut x t ht
      rw [← hq, ← HTT.out] at q1
      rw [← hq, ← HDD.out] at q2
      obtain ⟨r1, r2⟩ := hok x hb hx0 hx1 q1
      exact ⟨r1, q2, r2⟩
  have HK : Hid (∀ (n : Int) (b' : Bool) (W2 : World), W2.heap[w.heap.size]? = some (.cells #[.int .i64 0, .int .i64 0, .string ⟨#[]⟩, .slice none 0 0, .slice none 0 0] 38 (0, 0)) →
      (set5 ((W2.setCell ⟨p, 1, none⟩ (.bool b')).setCell ⟨p, 0, none⟩ (.string ⟨D.toArray⟩)) w.heap.size (.int .i64 3) (.int .i64 n) (.string ⟨#[]⟩) (.slice none 0 0) (.slice none 0 0)).heap[w.heap.size]? = some (.cells #[.int .i64 3, .int .i64 n, .string ⟨#[]⟩, .slice none 0 0, .slice none 0 0] 38 (0, 0))) := by
    show ∀ n b' W2, _
    intro n b' W2 hw2
    exact set5_blk (blk_far (blk_far hw2 (p := ⟨p, 1, none⟩) (fun e => hpN e.symm) _) (p := ⟨p, 0, none⟩) (fun e => hpN e.symm) _) _ _ _ _ _
  refine (Classical.em ((∀ v, Lib.parseIntB 64 T ≠ .ok v) ∧ Lib.parseIntB 64 T ≠ .range)).elim (fun hsy => ?_) (fun hsy => ?_)
  · obtain ⟨te, pe, hcs⟩ := hE9.syn
    refine (Tryz.strconv_ParseInt_10_at64_syntax ⟨T.toArray⟩ (by show T.toArray.size ≤ _; simp; omega) hsy.1 hsy.2 _ w9 hcs (.inr ⟨te, pe, rfl⟩)).mono ?_
    rintro e w10 ⟨N, rfl, _, _, b10⟩
    have hR10 := HR9.out.kept b10
    have hv10 := (b10.block _ (blk_lt hv0)).trans hv0
    have hB10 := hB9.trans (b10.mono hB9.size)
    obtain ⟨c0, c1, f0, f1⟩ := hR10.cells
    have z0 := blk_cell hv10 0
    have z1 := blk_cell hv10 1
    have z2 := blk_cell hv10 2
    have z3 := blk_cell hv10 3
    have z4 := blk_cell hv10 4
    have y0 := blk_frozen hv10 0
    have y1 := blk_frozen hv10 1
    have y2 := blk_frozen hv10 2
    have y3 := blk_frozen hv10 3
    have y4 := blk_frozen hv10 4
    cases b with
    | true =>
      go_wp2_with fail
      go_region
      go_wp2_with fail
      rw [HX2.out]
      refine bodyPost_ret (results_cell_row rfl _ _ w.heap.size 38 _ (0, 0) _ rfl ((congrArg (fun h => h[w.heap.size]?) (heap_drew0 _)).trans (HK.out 0 true w10 hv10)) Tryz.underlying38 rfl (by kernel_rfl)) rfl ?_
      exact NumP.drew <| HZ.out 0 true w10 hv10 hR10 (gbelow hB10 _) (fun _ => rfl) (fun x hb => by cases hb)
    | false =>
      go_wp2_with fail
      go_region
      go_wp2_with fail
      rw [HX2.out]
      refine bodyPost_ret (results_cell_row rfl _ _ w.heap.size 38 _ (0, 0) _ rfl ((congrArg (fun h => h[w.heap.size]?) (heap_drew0 _)).trans (HK.out 0 true w10 hv10)) Tryz.underlying38 rfl (by kernel_rfl)) rfl ?_
      refine NumP.drew <| HZ.out 0 true w10 hv10 hR10 (gbelow hB10 _) (fun _ => rfl) (fun x hb h0 h1 ht => ?_)
      exact absurd (by rw [ht]; exact parse_itoa x h0 h1) (hsy.1 x)
  cases hp : Lib.parseIntB 64 T with
  | range =>
    obtain ⟨te, pe, hcs⟩ := hE9.rng
    refine (Tryz.strconv_ParseInt_10_at64_range ⟨T.toArray⟩ (by show T.toArray.size ≤ _; simp; omega) hp _ w9 hcs (.inr ⟨te, pe, rfl⟩)).mono ?_
    generalize hN0 : Lib.intSat 64 ({ data := T.toArray } : ByteArray).data.toList = n0
    rintro e w10 ⟨N, rfl, _, _, b10⟩
    have hR10 := HR9.out.kept b10
    have hv10 := (b10.block _ (blk_lt hv0)).trans hv0
    have hB10 := hB9.trans (b10.mono hB9.size)
    obtain ⟨c0, c1, f0, f1⟩ := hR10.cells
    have z0 := blk_cell hv10 0
    have z1 := blk_cell hv10 1
    have z2 := blk_cell hv10 2
    have z3 := blk_cell hv10 3
    have z4 := blk_cell hv10 4
    have y0 := blk_frozen hv10 0
    have y1 := blk_frozen hv10 1
    have y2 := blk_frozen hv10 2
    have y3 := blk_frozen hv10 3
    have y4 := blk_frozen hv10 4
    cases b with
    | true =>
      go_wp2_with fail
      go_region
      go_wp2_with fail
      rw [HX2.out]
      refine bodyPost_ret (results_cell_row rfl _ _ w.heap.size 38 _ (0, 0) _ rfl ((congrArg (fun h => h[w.heap.size]?) (heap_drew0 _)).trans (HK.out n0 true w10 hv10)) Tryz.underlying38 rfl (by kernel_rfl)) rfl ?_
      exact NumP.drew <| HZ.out n0 true w10 hv10 hR10 (gbelow hB10 _) (fun _ => rfl) (fun x hb => by cases hb)
    | false =>
      go_wp2_with fail
      go_region
      go_wp2_with fail
      rw [HX2.out]
      refine bodyPost_ret (results_cell_row rfl _ _ w.heap.size 38 _ (0, 0) _ rfl ((congrArg (fun h => h[w.heap.size]?) (heap_drew0 _)).trans (HK.out n0 true w10 hv10)) Tryz.underlying38 rfl (by kernel_rfl)) rfl ?_
      refine NumP.drew <| HZ.out n0 true w10 hv10 hR10 (gbelow hB10 _) (fun _ => rfl) (fun x hb h0 h1 ht => ?_)
      rw [ht, parse_itoa x h0 h1] at hp; cases hp
  | ok v =>
    have hvb := Lib.parseIntB_bounds hp
    have hv0' : -9223372036854775808 ≤ v ∧ v ≤ 9223372036854775807 := by have h1 := hvb.1; have h2 := hvb.2; simp at h1 h2; omega
    clear hvb
    refine (Tryz.strconv_ParseInt_10_at64_ok ⟨T.toArray⟩ (by show T.toArray.size ≤ _; simp; omega) v hp w9).mono ?_
    rintro e w10 ⟨rfl, hw10⟩
    have b10 : Below w9.heap.size w9 w10 := by
      rcases hw10 with rfl | ⟨t, rfl⟩
      · exact Below.refl _ _
      · exact bytes_below (Below.refl _ _) (Nat.le_refl _) 5 t
    clear hw10
    have hR10 := HR9.out.kept b10
    have hv10 := (b10.block _ (blk_lt hv0)).trans hv0
    have hB10 := hB9.trans (b10.mono hB9.size)
    have hE10 := hE9.below b10
    have HR10 := Lib.hid hR10
    obtain ⟨c0, c1, f0, f1⟩ := hR10.cells
    have z0 := blk_cell hv10 0
    have z1 := blk_cell hv10 1
    have z2 := blk_cell hv10 2
    have z3 := blk_cell hv10 3
    have z4 := blk_cell hv10 4
    have y0 := blk_frozen hv10 0
    have y1 := blk_frozen hv10 1
    have y2 := blk_frozen hv10 2
    have y3 := blk_frozen hv10 3
    have y4 := blk_frozen hv10 4
    clear hR10
    cases b with
    | true =>
      go_wp2_with fail
      go_region
      go_wp2_with fail
      rw [HX2.out]
      refine bodyPost_ret (results_cell_row rfl _ _ w.heap.size 38 _ (0, 0) _ rfl ((congrArg (fun h => h[w.heap.size]?) (heap_drew0 _)).trans (HK.out v true w10 hv10)) Tryz.underlying38 rfl (by kernel_rfl)) rfl ?_
      exact NumP.drew <| HZ.out v true w10 hv10 HR10.out (gbelow hB10 _) (fun _ => rfl) (fun x hb => by cases hb)
    | false =>
      have hTe : ((⟨l.toArray⟩ : ByteArray).extract 0 T.length).toList = T := by rw [HX1.out]; simp
      have hTi : (T.length : Int) ≤ (T.length : Int) + (D.length : Int) := by omega
      have hTn : (0 : Int) ≤ (T.length : Int) := by omega
      have hkk : ∀ wf, Below w10.heap.size w10 wf → Rd p wf l false := fun wf bf => HR10.out.kept bf
      have HKK := Lib.hid hkk
      clear hkk
      by_cases hcmp : Lib.itoa v = T
      · have hc1 : (Lib.itoa v == T) = true := by simp [hcmp]
        have hc2 : (Lib.itoa v != T) = false := by simp [hcmp]
        have HCM := Lib.hid hcmp
        clear hcmp
        go_wp2_with fail
        refine start_ (n := 23) (S := fun w' => w'.cell? ⟨p, 0, none⟩ = some (.string ⟨l.toArray⟩) ∧ w'.cell? ⟨p, 1, none⟩ = some (.bool false) ∧ w'.frozen? ⟨p, 1, none⟩ = false) (ds := [22]) #[false, false, false, false, false, false, false, false, false, false, false, false, false, false, false, false, false, false, false, false, false, false, false] (by kernel_rfl) rfl rfl ⟨c0, c1, f1⟩ (fun hHeld => ?_)
        refine pure_ (i := 0) (N := some 28) (v := ?_) (a' := ?_) #[true, false, false, false, false, false, false, false, false, false, false, false, false, false, false, false, false, false, false, false, false, false, false] rfl rfl (by kernel_rfl) (fun _ _ _ h => h) (Or.inl ⟨by rfl, ?_⟩) ?_ ?_
        rotate_left
        · intro w'
          go_simp
          with_reducible rfl
        rotate_left
        · simp only [Act.put, List.setIfInBounds_toArray, List.set_cons_zero, List.set_cons_succ, Go.Proofs.YtiddjadfkpjpdaaGreatDoorW.PrintLast.i64_w, Go.Proofs.YtiddjadfkpjpdaaGreatDoorW.PrintLast.i32_w]
          rfl
        refine pure_ (i := 1) (N := some 29) (v := ?_) (a' := ?_) #[true, true, false, false, false, false, false, false, false, false, false, false, false, false, false, false, false, false, false, false, false, false, false] rfl rfl (by kernel_rfl) (fun _ _ _ h => h) (Or.inl ⟨by rfl, ?_⟩) ?_ ?_
        rotate_left
        · intro w'
          go_simp
          with_reducible rfl
        rotate_left
        · simp only [Act.put, List.setIfInBounds_toArray, List.set_cons_zero, List.set_cons_succ, Go.Proofs.YtiddjadfkpjpdaaGreatDoorW.PrintLast.i64_w, Go.Proofs.YtiddjadfkpjpdaaGreatDoorW.PrintLast.i32_w]
          rfl
        refine pure_ (i := 2) (N := some 30) (v := ?_) (a' := ?_) #[true, true, true, false, false, false, false, false, false, false, false, false, false, false, false, false, false, false, false, false, false, false, false] rfl rfl (by kernel_rfl) (fun _ _ _ h => h) (Or.inl ⟨by rfl, ?_⟩) ?_ ?_
        rotate_left
        · intro w'
          go_simp
          with_reducible rfl
        rotate_left
        · simp only [Act.put, List.setIfInBounds_toArray, List.set_cons_zero, List.set_cons_succ, Go.Proofs.YtiddjadfkpjpdaaGreatDoorW.PrintLast.i64_w, Go.Proofs.YtiddjadfkpjpdaaGreatDoorW.PrintLast.i32_w]
          rfl
        refine pure_ (i := 3) (N := some 31) (v := ?_) (a' := ?_) #[true, true, true, true, false, false, false, false, false, false, false, false, false, false, false, false, false, false, false, false, false, false, false] rfl rfl (by kernel_rfl) (fun _ _ _ h => h) (Or.inl ⟨by rfl, ?_⟩) ?_ ?_
        rotate_left
        · intro w'
          go_simp
          with_reducible rfl
        rotate_left
        · simp only [Act.put, List.setIfInBounds_toArray, List.set_cons_zero, List.set_cons_succ, Go.Proofs.YtiddjadfkpjpdaaGreatDoorW.PrintLast.i64_w, Go.Proofs.YtiddjadfkpjpdaaGreatDoorW.PrintLast.i32_w]
          rfl
        refine take_ (i := 4) (N := some 32) (v := ?_) (a' := ?_) #[true, true, true, true, true, false, false, false, false, false, false, false, false, false, false, false, false, false, false, false, false, false, false] rfl rfl (by kernel_rfl) (fun _ _ _ h => h) (Or.inl ⟨by rfl, ?_⟩) hHeld ?_ ?_
        rotate_left
        · rintro w' ⟨s0, s1, s2⟩
          go_simp
          with_reducible rfl
        rotate_left
        · simp only [Act.put, List.setIfInBounds_toArray, List.set_cons_zero, List.set_cons_succ, Go.Proofs.YtiddjadfkpjpdaaGreatDoorW.PrintLast.i64_w, Go.Proofs.YtiddjadfkpjpdaaGreatDoorW.PrintLast.i32_w]
          rfl
        refine pure_ (i := 5) (N := some 33) (v := ?_) (a' := ?_) #[true, true, true, true, true, true, false, false, false, false, false, false, false, false, false, false, false, false, false, false, false, false, false] rfl rfl (by kernel_rfl) (fun _ _ _ h => h) (Or.inl ⟨by rfl, ?_⟩) ?_ ?_
        rotate_left
        · intro w'
          go_simp
          with_reducible rfl
        rotate_left
        · simp only [Act.put, List.setIfInBounds_toArray, List.set_cons_zero, List.set_cons_succ, Go.Proofs.YtiddjadfkpjpdaaGreatDoorW.PrintLast.i64_w, Go.Proofs.YtiddjadfkpjpdaaGreatDoorW.PrintLast.i32_w]
          rfl
        refine pure_ (i := 6) (N := some 34) (v := ?_) (a' := ?_) #[true, true, true, true, true, true, true, false, false, false, false, false, false, false, false, false, false, false, false, false, false, false, false] rfl rfl (by kernel_rfl) (fun _ _ _ h => h) (Or.inl ⟨by rfl, ?_⟩) ?_ ?_
        rotate_left
        · intro w'
          go_simp
          with_reducible rfl
        rotate_left
        · simp only [Act.put, List.setIfInBounds_toArray, List.set_cons_zero, List.set_cons_succ, Go.Proofs.YtiddjadfkpjpdaaGreatDoorW.PrintLast.i64_w, Go.Proofs.YtiddjadfkpjpdaaGreatDoorW.PrintLast.i32_w]
          rfl
        refine pure_ (i := 7) (N := some 35) (v := ?_) (a' := ?_) #[true, true, true, true, true, true, true, true, false, false, false, false, false, false, false, false, false, false, false, false, false, false, false] rfl rfl (by kernel_rfl) (fun _ _ _ h => h) (Or.inl ⟨by rfl, ?_⟩) ?_ ?_
        rotate_left
        · intro w'
          go_simp
          with_reducible rfl
        rotate_left
        · simp only [Act.put, List.setIfInBounds_toArray, List.set_cons_zero, List.set_cons_succ, Go.Proofs.YtiddjadfkpjpdaaGreatDoorW.PrintLast.i64_w, Go.Proofs.YtiddjadfkpjpdaaGreatDoorW.PrintLast.i32_w]
          rfl
        refine pure_ (i := 8) (N := some 36) (v := ?_) (a' := ?_) #[true, true, true, true, true, true, true, true, true, false, false, false, false, false, false, false, false, false, false, false, false, false, false] rfl rfl (by kernel_rfl) (fun _ _ _ h => h) (Or.inl ⟨by rfl, ?_⟩) ?_ ?_
        rotate_left
        · intro w'
          go_simp
          with_reducible rfl
        rotate_left
        · simp only [Act.put, List.setIfInBounds_toArray, List.set_cons_zero, List.set_cons_succ, Go.Proofs.YtiddjadfkpjpdaaGreatDoorW.PrintLast.i64_w, Go.Proofs.YtiddjadfkpjpdaaGreatDoorW.PrintLast.i32_w]
          rfl
        refine pure_ (i := 9) (N := some 37) (v := ?_) (a' := ?_) #[true, true, true, true, true, true, true, true, true, true, false, false, false, false, false, false, false, false, false, false, false, false, false] rfl rfl (by kernel_rfl) (fun _ _ _ h => h) (Or.inl ⟨by rfl, ?_⟩) ?_ ?_
        rotate_left
        · intro w'
          go_simp
          with_reducible rfl
        rotate_left
        · simp only [Act.put, List.setIfInBounds_toArray, List.set_cons_zero, List.set_cons_succ, Go.Proofs.YtiddjadfkpjpdaaGreatDoorW.PrintLast.i64_w, Go.Proofs.YtiddjadfkpjpdaaGreatDoorW.PrintLast.i32_w]
          rfl
        refine pure_ (i := 10) (N := some 38) (v := ?_) (a' := ?_) #[true, true, true, true, true, true, true, true, true, true, true, false, false, false, false, false, false, false, false, false, false, false, false] rfl rfl (by kernel_rfl) (fun _ _ _ h => h) (Or.inl ⟨by rfl, ?_⟩) ?_ ?_
        rotate_left
        · intro w'
          go_simp
          with_reducible rfl
        rotate_left
        · simp only [Act.put, List.setIfInBounds_toArray, List.set_cons_zero, List.set_cons_succ, Go.Proofs.YtiddjadfkpjpdaaGreatDoorW.PrintLast.i64_w, Go.Proofs.YtiddjadfkpjpdaaGreatDoorW.PrintLast.i32_w]
          rfl
        refine pure_ (i := 12) (N := some 40) (v := ?_) (a' := ?_) #[true, true, true, true, true, true, true, true, true, true, true, false, true, false, false, false, false, false, false, false, false, false, false] rfl rfl (by kernel_rfl) (fun _ _ _ h => h) (Or.inl ⟨by rfl, ?_⟩) ?_ ?_
        rotate_left
        · intro w'
          go_simp
          with_reducible rfl
        rotate_left
        · simp only [Act.put, List.setIfInBounds_toArray, List.set_cons_zero, List.set_cons_succ, Go.Proofs.YtiddjadfkpjpdaaGreatDoorW.PrintLast.i64_w, Go.Proofs.YtiddjadfkpjpdaaGreatDoorW.PrintLast.i32_w]
          rfl
        refine pure_ (i := 13) (N := some 41) (v := ?_) (a' := ?_) #[true, true, true, true, true, true, true, true, true, true, true, false, true, true, false, false, false, false, false, false, false, false, false] rfl rfl (by kernel_rfl) (fun _ _ _ h => h) (Or.inl ⟨by rfl, ?_⟩) ?_ ?_
        rotate_left
        · intro w'
          go_simp
          with_reducible rfl
        rotate_left
        · simp only [Act.put, List.setIfInBounds_toArray, List.set_cons_zero, List.set_cons_succ, Go.Proofs.YtiddjadfkpjpdaaGreatDoorW.PrintLast.i64_w, Go.Proofs.YtiddjadfkpjpdaaGreatDoorW.PrintLast.i32_w]
          rfl
        refine pure_ (i := 14) (N := some 42) (v := ?_) (a' := ?_) #[true, true, true, true, true, true, true, true, true, true, true, false, true, true, true, false, false, false, false, false, false, false, false] rfl rfl (by kernel_rfl) (fun _ _ _ h => h) (Or.inl ⟨by rfl, ?_⟩) ?_ ?_
        rotate_left
        · intro w'
          go_simp
          with_reducible rfl
        rotate_left
        · simp only [Act.put, List.setIfInBounds_toArray, List.set_cons_zero, List.set_cons_succ, Go.Proofs.YtiddjadfkpjpdaaGreatDoorW.PrintLast.i64_w, Go.Proofs.YtiddjadfkpjpdaaGreatDoorW.PrintLast.i32_w]
          rfl
        refine take_ (i := 15) (N := some 43) (v := ?_) (a' := ?_) #[true, true, true, true, true, true, true, true, true, true, true, false, true, true, true, true, false, false, false, false, false, false, false] rfl rfl (by kernel_rfl) (fun _ _ _ h => h) (Or.inl ⟨by rfl, ?_⟩) hHeld ?_ ?_
        rotate_left
        · rintro w' ⟨s0, s1, s2⟩
          go_simp
          with_reducible rfl
        rotate_left
        · simp only [Act.put, List.setIfInBounds_toArray, List.set_cons_zero, List.set_cons_succ, Go.Proofs.YtiddjadfkpjpdaaGreatDoorW.PrintLast.i64_w, Go.Proofs.YtiddjadfkpjpdaaGreatDoorW.PrintLast.i32_w]
          rfl
        refine pure_ (i := 16) (N := some 44) (v := ?_) (a' := ?_) #[true, true, true, true, true, true, true, true, true, true, true, false, true, true, true, true, true, false, false, false, false, false, false] rfl rfl (by kernel_rfl) (fun _ _ _ h => h) (Or.inl ⟨by rfl, ?_⟩) ?_ ?_
        rotate_left
        · intro w'
          go_simp
          with_reducible rfl
        rotate_left
        · simp only [Act.put, List.setIfInBounds_toArray, List.set_cons_zero, List.set_cons_succ, Go.Proofs.YtiddjadfkpjpdaaGreatDoorW.PrintLast.i64_w, Go.Proofs.YtiddjadfkpjpdaaGreatDoorW.PrintLast.i32_w]
          rfl
        refine pure_ (i := 17) (N := some 45) (v := ?_) (a' := ?_) #[true, true, true, true, true, true, true, true, true, true, true, false, true, true, true, true, true, true, false, false, false, false, false] rfl rfl (by kernel_rfl) (fun _ _ _ h => h) (Or.inl ⟨by rfl, ?_⟩) ?_ ?_
        rotate_left
        · intro w'
          go_simp
          with_reducible rfl
        rotate_left
        · simp only [Act.put, List.setIfInBounds_toArray, List.set_cons_zero, List.set_cons_succ, Go.Proofs.YtiddjadfkpjpdaaGreatDoorW.PrintLast.i64_w, Go.Proofs.YtiddjadfkpjpdaaGreatDoorW.PrintLast.i32_w]
          rfl
        refine one_ (i := 11) (N := some 39) #[true, true, true, true, true, true, true, true, true, true, true, true, true, true, true, true, true, true, false, false, false, false, false] rfl rfl (by kernel_rfl) (by decide) (fun K hK => ?_)
        refine goes_ Tryz.func108 (by kernel_rfl) rfl #[.int .i64 v, .int .i64 10] (by rfl) rfl rfl (by (try simp only [List.map_toArray, List.map_cons, List.map_nil]); first | done | rfl) ?_
        refine (fmt_calls v _ hv0'.1 hv0'.2 (hE10.below (below_drew1 (Below.refl _ _)))).mono ?_
        rintro e wf ⟨rfl, bf⟩
        replace bf : Below w10.heap.size w10 wf := below_step (below_drew1 (Below.refl _ _)) bf
        refine ⟨_, rfl, ?_⟩
        refine hK.out _ _ ⟨(HKK.out _ bf).cells.1, (HKK.out _ bf).cells.2.1, (HKK.out _ bf).cells.2.2.2⟩ (fun hHeld => ?_)
        clear hK K
        refine norm_ (a' := ?_) ?_ ?_
        rotate_left
        · show Act.put _ (some 39) _ = _
          simp only [Act.put, List.setIfInBounds_toArray, List.set_cons_zero, List.set_cons_succ, Go.Proofs.YtiddjadfkpjpdaaGreatDoorW.PrintLast.i64_w, Go.Proofs.YtiddjadfkpjpdaaGreatDoorW.PrintLast.i32_w]
          rfl
        refine pure_ (i := 18) (N := some 46) (v := ?_) (a' := ?_) #[true, true, true, true, true, true, true, true, true, true, true, true, true, true, true, true, true, true, true, false, false, false, false] rfl rfl (by kernel_rfl) (fun _ _ _ h => h) (Or.inl ⟨by rfl, ?_⟩) ?_ ?_
        rotate_left
        · intro w'
          go_simp
          with_reducible rfl
        rotate_left
        · simp only [Act.put, List.setIfInBounds_toArray, List.set_cons_zero, List.set_cons_succ, Go.Proofs.YtiddjadfkpjpdaaGreatDoorW.PrintLast.i64_w, Go.Proofs.YtiddjadfkpjpdaaGreatDoorW.PrintLast.i32_w]
          rfl
        refine pure_ (i := 19) (N := some 47) (v := ?_) (a' := ?_) #[true, true, true, true, true, true, true, true, true, true, true, true, true, true, true, true, true, true, true, true, false, false, false] rfl rfl (by kernel_rfl) (fun _ _ _ h => h) (Or.inl ⟨by rfl, ?_⟩) ?_ ?_
        rotate_left
        · intro w'
          go_simp
          with_reducible rfl
        rotate_left
        · simp only [Act.put, List.setIfInBounds_toArray, List.set_cons_zero, List.set_cons_succ, Go.Proofs.YtiddjadfkpjpdaaGreatDoorW.PrintLast.i64_w, Go.Proofs.YtiddjadfkpjpdaaGreatDoorW.PrintLast.i32_w]
          rfl
        refine pure_ (i := 20) (N := some 48) (v := ?_) (a' := ?_) #[true, true, true, true, true, true, true, true, true, true, true, true, true, true, true, true, true, true, true, true, true, false, false] rfl rfl (by kernel_rfl) (fun _ _ _ h => h) (Or.inl ⟨by rfl, ?_⟩) ?_ ?_
        rotate_left
        · intro w'
          go_simp
          with_reducible rfl
        rotate_left
        · simp only [Act.put, List.setIfInBounds_toArray, List.set_cons_zero, List.set_cons_succ, Go.Proofs.YtiddjadfkpjpdaaGreatDoorW.PrintLast.i64_w, Go.Proofs.YtiddjadfkpjpdaaGreatDoorW.PrintLast.i32_w]
          rfl
        refine pure_ (i := 21) (N := some 49) (v := ?_) (a' := ?_) #[true, true, true, true, true, true, true, true, true, true, true, true, true, true, true, true, true, true, true, true, true, true, false] rfl rfl (by kernel_rfl) (fun _ _ _ h => h) (Or.inl ⟨by rfl, ?_⟩) ?_ ?_
        rotate_left
        · intro w'
          go_simp
          with_reducible rfl
        rotate_left
        · simp only [Act.put, List.setIfInBounds_toArray, List.set_cons_zero, List.set_cons_succ, Go.Proofs.YtiddjadfkpjpdaaGreatDoorW.PrintLast.i64_w, Go.Proofs.YtiddjadfkpjpdaaGreatDoorW.PrintLast.i32_w]
          rfl
        refine last_ (i := 22) (N := none) #[true, true, true, true, true, true, true, true, true, true, true, true, true, true, true, true, true, true, true, true, true, true, true] rfl rfl (by kernel_rfl) (by decide) (fun K hK => ?_)
        obtain ⟨s0, s1, s2⟩ := hHeld
        refine skip_ (w1 := ?_) (by rfl) rfl ?_ ?_
        rotate_left
        · go_simp
          rfl
        refine hK.out _ _ ?_
        clear hK K
        refine done_ (by kernel_rfl) ?_
        obtain ⟨c0, c1, f0, f1⟩ := (HKK.out _ bf).cells
        have hvf := (bf.block _ (blk_lt hv10)).trans hv10
        have z0 := blk_cell hvf 0
        have z1 := blk_cell hvf 1
        have z2 := blk_cell hvf 2
        have z3 := blk_cell hvf 3
        have z4 := blk_cell hvf 4
        have y0 := blk_frozen hvf 0
        have y1 := blk_frozen hvf 1
        have y2 := blk_frozen hvf 2
        have y3 := blk_frozen hvf 3
        have y4 := blk_frozen hvf 4
        have HKf := Lib.hid (HKK.out _ bf)
        have HBf := Lib.hid (hB10.trans (bf.mono hB10.size))
        simp only [Exit.then]
        apply_assumption
        go_wp2_with fail
        rw [HX2.out]
        refine bodyPost_ret (results_cell_row rfl _ _ w.heap.size 38 _ (0, 0) _ rfl (HK.out v false wf hvf) Tryz.underlying38 rfl (by kernel_rfl)) rfl ?_
        refine HZ.out v false wf hvf HKf.out (gbelow HBf.out _) (fun hb => by cases hb) (fun x hb h0 h1 ht => ?_)
        rw [ht, parse_itoa x h0 h1] at hp; cases hp; exact ⟨rfl, rfl⟩
      · have hc1 : (Lib.itoa v == T) = false := by simp [hcmp]
        have hc2 : (Lib.itoa v != T) = true := by simp [hcmp]
        have HCM : Hid (¬ Lib.itoa v = T) := hcmp
        clear hcmp
        go_wp2_with fail
        refine start_ (n := 23) (S := fun w' => w'.cell? ⟨p, 0, none⟩ = some (.string ⟨l.toArray⟩) ∧ w'.cell? ⟨p, 1, none⟩ = some (.bool false) ∧ w'.frozen? ⟨p, 1, none⟩ = false) (ds := [22]) #[false, false, false, false, false, false, false, false, false, false, false, false, false, false, false, false, false, false, false, false, false, false, false] (by kernel_rfl) rfl rfl ⟨c0, c1, f1⟩ (fun hHeld => ?_)
        refine pure_ (i := 0) (N := some 28) (v := ?_) (a' := ?_) #[true, false, false, false, false, false, false, false, false, false, false, false, false, false, false, false, false, false, false, false, false, false, false] rfl rfl (by kernel_rfl) (fun _ _ _ h => h) (Or.inl ⟨by rfl, ?_⟩) ?_ ?_
        rotate_left
        · intro w'
          go_simp
          with_reducible rfl
        rotate_left
        · simp only [Act.put, List.setIfInBounds_toArray, List.set_cons_zero, List.set_cons_succ, Go.Proofs.YtiddjadfkpjpdaaGreatDoorW.PrintLast.i64_w, Go.Proofs.YtiddjadfkpjpdaaGreatDoorW.PrintLast.i32_w]
          rfl
        refine pure_ (i := 1) (N := some 29) (v := ?_) (a' := ?_) #[true, true, false, false, false, false, false, false, false, false, false, false, false, false, false, false, false, false, false, false, false, false, false] rfl rfl (by kernel_rfl) (fun _ _ _ h => h) (Or.inl ⟨by rfl, ?_⟩) ?_ ?_
        rotate_left
        · intro w'
          go_simp
          with_reducible rfl
        rotate_left
        · simp only [Act.put, List.setIfInBounds_toArray, List.set_cons_zero, List.set_cons_succ, Go.Proofs.YtiddjadfkpjpdaaGreatDoorW.PrintLast.i64_w, Go.Proofs.YtiddjadfkpjpdaaGreatDoorW.PrintLast.i32_w]
          rfl
        refine pure_ (i := 2) (N := some 30) (v := ?_) (a' := ?_) #[true, true, true, false, false, false, false, false, false, false, false, false, false, false, false, false, false, false, false, false, false, false, false] rfl rfl (by kernel_rfl) (fun _ _ _ h => h) (Or.inl ⟨by rfl, ?_⟩) ?_ ?_
        rotate_left
        · intro w'
          go_simp
          with_reducible rfl
        rotate_left
        · simp only [Act.put, List.setIfInBounds_toArray, List.set_cons_zero, List.set_cons_succ, Go.Proofs.YtiddjadfkpjpdaaGreatDoorW.PrintLast.i64_w, Go.Proofs.YtiddjadfkpjpdaaGreatDoorW.PrintLast.i32_w]
          rfl
        refine pure_ (i := 3) (N := some 31) (v := ?_) (a' := ?_) #[true, true, true, true, false, false, false, false, false, false, false, false, false, false, false, false, false, false, false, false, false, false, false] rfl rfl (by kernel_rfl) (fun _ _ _ h => h) (Or.inl ⟨by rfl, ?_⟩) ?_ ?_
        rotate_left
        · intro w'
          go_simp
          with_reducible rfl
        rotate_left
        · simp only [Act.put, List.setIfInBounds_toArray, List.set_cons_zero, List.set_cons_succ, Go.Proofs.YtiddjadfkpjpdaaGreatDoorW.PrintLast.i64_w, Go.Proofs.YtiddjadfkpjpdaaGreatDoorW.PrintLast.i32_w]
          rfl
        refine take_ (i := 4) (N := some 32) (v := ?_) (a' := ?_) #[true, true, true, true, true, false, false, false, false, false, false, false, false, false, false, false, false, false, false, false, false, false, false] rfl rfl (by kernel_rfl) (fun _ _ _ h => h) (Or.inl ⟨by rfl, ?_⟩) hHeld ?_ ?_
        rotate_left
        · rintro w' ⟨s0, s1, s2⟩
          go_simp
          with_reducible rfl
        rotate_left
        · simp only [Act.put, List.setIfInBounds_toArray, List.set_cons_zero, List.set_cons_succ, Go.Proofs.YtiddjadfkpjpdaaGreatDoorW.PrintLast.i64_w, Go.Proofs.YtiddjadfkpjpdaaGreatDoorW.PrintLast.i32_w]
          rfl
        refine pure_ (i := 5) (N := some 33) (v := ?_) (a' := ?_) #[true, true, true, true, true, true, false, false, false, false, false, false, false, false, false, false, false, false, false, false, false, false, false] rfl rfl (by kernel_rfl) (fun _ _ _ h => h) (Or.inl ⟨by rfl, ?_⟩) ?_ ?_
        rotate_left
        · intro w'
          go_simp
          with_reducible rfl
        rotate_left
        · simp only [Act.put, List.setIfInBounds_toArray, List.set_cons_zero, List.set_cons_succ, Go.Proofs.YtiddjadfkpjpdaaGreatDoorW.PrintLast.i64_w, Go.Proofs.YtiddjadfkpjpdaaGreatDoorW.PrintLast.i32_w]
          rfl
        refine pure_ (i := 6) (N := some 34) (v := ?_) (a' := ?_) #[true, true, true, true, true, true, true, false, false, false, false, false, false, false, false, false, false, false, false, false, false, false, false] rfl rfl (by kernel_rfl) (fun _ _ _ h => h) (Or.inl ⟨by rfl, ?_⟩) ?_ ?_
        rotate_left
        · intro w'
          go_simp
          with_reducible rfl
        rotate_left
        · simp only [Act.put, List.setIfInBounds_toArray, List.set_cons_zero, List.set_cons_succ, Go.Proofs.YtiddjadfkpjpdaaGreatDoorW.PrintLast.i64_w, Go.Proofs.YtiddjadfkpjpdaaGreatDoorW.PrintLast.i32_w]
          rfl
        refine pure_ (i := 7) (N := some 35) (v := ?_) (a' := ?_) #[true, true, true, true, true, true, true, true, false, false, false, false, false, false, false, false, false, false, false, false, false, false, false] rfl rfl (by kernel_rfl) (fun _ _ _ h => h) (Or.inl ⟨by rfl, ?_⟩) ?_ ?_
        rotate_left
        · intro w'
          go_simp
          with_reducible rfl
        rotate_left
        · simp only [Act.put, List.setIfInBounds_toArray, List.set_cons_zero, List.set_cons_succ, Go.Proofs.YtiddjadfkpjpdaaGreatDoorW.PrintLast.i64_w, Go.Proofs.YtiddjadfkpjpdaaGreatDoorW.PrintLast.i32_w]
          rfl
        refine pure_ (i := 8) (N := some 36) (v := ?_) (a' := ?_) #[true, true, true, true, true, true, true, true, true, false, false, false, false, false, false, false, false, false, false, false, false, false, false] rfl rfl (by kernel_rfl) (fun _ _ _ h => h) (Or.inl ⟨by rfl, ?_⟩) ?_ ?_
        rotate_left
        · intro w'
          go_simp
          with_reducible rfl
        rotate_left
        · simp only [Act.put, List.setIfInBounds_toArray, List.set_cons_zero, List.set_cons_succ, Go.Proofs.YtiddjadfkpjpdaaGreatDoorW.PrintLast.i64_w, Go.Proofs.YtiddjadfkpjpdaaGreatDoorW.PrintLast.i32_w]
          rfl
        refine pure_ (i := 9) (N := some 37) (v := ?_) (a' := ?_) #[true, true, true, true, true, true, true, true, true, true, false, false, false, false, false, false, false, false, false, false, false, false, false] rfl rfl (by kernel_rfl) (fun _ _ _ h => h) (Or.inl ⟨by rfl, ?_⟩) ?_ ?_
        rotate_left
        · intro w'
          go_simp
          with_reducible rfl
        rotate_left
        · simp only [Act.put, List.setIfInBounds_toArray, List.set_cons_zero, List.set_cons_succ, Go.Proofs.YtiddjadfkpjpdaaGreatDoorW.PrintLast.i64_w, Go.Proofs.YtiddjadfkpjpdaaGreatDoorW.PrintLast.i32_w]
          rfl
        refine pure_ (i := 10) (N := some 38) (v := ?_) (a' := ?_) #[true, true, true, true, true, true, true, true, true, true, true, false, false, false, false, false, false, false, false, false, false, false, false] rfl rfl (by kernel_rfl) (fun _ _ _ h => h) (Or.inl ⟨by rfl, ?_⟩) ?_ ?_
        rotate_left
        · intro w'
          go_simp
          with_reducible rfl
        rotate_left
        · simp only [Act.put, List.setIfInBounds_toArray, List.set_cons_zero, List.set_cons_succ, Go.Proofs.YtiddjadfkpjpdaaGreatDoorW.PrintLast.i64_w, Go.Proofs.YtiddjadfkpjpdaaGreatDoorW.PrintLast.i32_w]
          rfl
        refine pure_ (i := 12) (N := some 40) (v := ?_) (a' := ?_) #[true, true, true, true, true, true, true, true, true, true, true, false, true, false, false, false, false, false, false, false, false, false, false] rfl rfl (by kernel_rfl) (fun _ _ _ h => h) (Or.inl ⟨by rfl, ?_⟩) ?_ ?_
        rotate_left
        · intro w'
          go_simp
          with_reducible rfl
        rotate_left
        · simp only [Act.put, List.setIfInBounds_toArray, List.set_cons_zero, List.set_cons_succ, Go.Proofs.YtiddjadfkpjpdaaGreatDoorW.PrintLast.i64_w, Go.Proofs.YtiddjadfkpjpdaaGreatDoorW.PrintLast.i32_w]
          rfl
        refine pure_ (i := 13) (N := some 41) (v := ?_) (a' := ?_) #[true, true, true, true, true, true, true, true, true, true, true, false, true, true, false, false, false, false, false, false, false, false, false] rfl rfl (by kernel_rfl) (fun _ _ _ h => h) (Or.inl ⟨by rfl, ?_⟩) ?_ ?_
        rotate_left
        · intro w'
          go_simp
          with_reducible rfl
        rotate_left
        · simp only [Act.put, List.setIfInBounds_toArray, List.set_cons_zero, List.set_cons_succ, Go.Proofs.YtiddjadfkpjpdaaGreatDoorW.PrintLast.i64_w, Go.Proofs.YtiddjadfkpjpdaaGreatDoorW.PrintLast.i32_w]
          rfl
        refine pure_ (i := 14) (N := some 42) (v := ?_) (a' := ?_) #[true, true, true, true, true, true, true, true, true, true, true, false, true, true, true, false, false, false, false, false, false, false, false] rfl rfl (by kernel_rfl) (fun _ _ _ h => h) (Or.inl ⟨by rfl, ?_⟩) ?_ ?_
        rotate_left
        · intro w'
          go_simp
          with_reducible rfl
        rotate_left
        · simp only [Act.put, List.setIfInBounds_toArray, List.set_cons_zero, List.set_cons_succ, Go.Proofs.YtiddjadfkpjpdaaGreatDoorW.PrintLast.i64_w, Go.Proofs.YtiddjadfkpjpdaaGreatDoorW.PrintLast.i32_w]
          rfl
        refine take_ (i := 15) (N := some 43) (v := ?_) (a' := ?_) #[true, true, true, true, true, true, true, true, true, true, true, false, true, true, true, true, false, false, false, false, false, false, false] rfl rfl (by kernel_rfl) (fun _ _ _ h => h) (Or.inl ⟨by rfl, ?_⟩) hHeld ?_ ?_
        rotate_left
        · rintro w' ⟨s0, s1, s2⟩
          go_simp
          with_reducible rfl
        rotate_left
        · simp only [Act.put, List.setIfInBounds_toArray, List.set_cons_zero, List.set_cons_succ, Go.Proofs.YtiddjadfkpjpdaaGreatDoorW.PrintLast.i64_w, Go.Proofs.YtiddjadfkpjpdaaGreatDoorW.PrintLast.i32_w]
          rfl
        refine pure_ (i := 16) (N := some 44) (v := ?_) (a' := ?_) #[true, true, true, true, true, true, true, true, true, true, true, false, true, true, true, true, true, false, false, false, false, false, false] rfl rfl (by kernel_rfl) (fun _ _ _ h => h) (Or.inl ⟨by rfl, ?_⟩) ?_ ?_
        rotate_left
        · intro w'
          go_simp
          with_reducible rfl
        rotate_left
        · simp only [Act.put, List.setIfInBounds_toArray, List.set_cons_zero, List.set_cons_succ, Go.Proofs.YtiddjadfkpjpdaaGreatDoorW.PrintLast.i64_w, Go.Proofs.YtiddjadfkpjpdaaGreatDoorW.PrintLast.i32_w]
          rfl
        refine pure_ (i := 17) (N := some 45) (v := ?_) (a' := ?_) #[true, true, true, true, true, true, true, true, true, true, true, false, true, true, true, true, true, true, false, false, false, false, false] rfl rfl (by kernel_rfl) (fun _ _ _ h => h) (Or.inl ⟨by rfl, ?_⟩) ?_ ?_
        rotate_left
        · intro w'
          go_simp
          with_reducible rfl
        rotate_left
        · simp only [Act.put, List.setIfInBounds_toArray, List.set_cons_zero, List.set_cons_succ, Go.Proofs.YtiddjadfkpjpdaaGreatDoorW.PrintLast.i64_w, Go.Proofs.YtiddjadfkpjpdaaGreatDoorW.PrintLast.i32_w]
          rfl
        refine one_ (i := 11) (N := some 39) #[true, true, true, true, true, true, true, true, true, true, true, true, true, true, true, true, true, true, false, false, false, false, false] rfl rfl (by kernel_rfl) (by decide) (fun K hK => ?_)
        refine goes_ Tryz.func108 (by kernel_rfl) rfl #[.int .i64 v, .int .i64 10] (by rfl) rfl rfl (by (try simp only [List.map_toArray, List.map_cons, List.map_nil]); first | done | rfl) ?_
        refine (fmt_calls v _ hv0'.1 hv0'.2 (hE10.below (below_drew1 (Below.refl _ _)))).mono ?_
        rintro e wf ⟨rfl, bf⟩
        replace bf : Below w10.heap.size w10 wf := below_step (below_drew1 (Below.refl _ _)) bf
        refine ⟨_, rfl, ?_⟩
        refine hK.out _ _ ⟨(HKK.out _ bf).cells.1, (HKK.out _ bf).cells.2.1, (HKK.out _ bf).cells.2.2.2⟩ (fun hHeld => ?_)
        clear hK K
        refine norm_ (a' := ?_) ?_ ?_
        rotate_left
        · show Act.put _ (some 39) _ = _
          simp only [Act.put, List.setIfInBounds_toArray, List.set_cons_zero, List.set_cons_succ, Go.Proofs.YtiddjadfkpjpdaaGreatDoorW.PrintLast.i64_w, Go.Proofs.YtiddjadfkpjpdaaGreatDoorW.PrintLast.i32_w]
          rfl
        refine pure_ (i := 18) (N := some 46) (v := ?_) (a' := ?_) #[true, true, true, true, true, true, true, true, true, true, true, true, true, true, true, true, true, true, true, false, false, false, false] rfl rfl (by kernel_rfl) (fun _ _ _ h => h) (Or.inl ⟨by rfl, ?_⟩) ?_ ?_
        rotate_left
        · intro w'
          go_simp
          with_reducible rfl
        rotate_left
        · simp only [Act.put, List.setIfInBounds_toArray, List.set_cons_zero, List.set_cons_succ, Go.Proofs.YtiddjadfkpjpdaaGreatDoorW.PrintLast.i64_w, Go.Proofs.YtiddjadfkpjpdaaGreatDoorW.PrintLast.i32_w]
          rfl
        refine pure_ (i := 19) (N := some 47) (v := ?_) (a' := ?_) #[true, true, true, true, true, true, true, true, true, true, true, true, true, true, true, true, true, true, true, true, false, false, false] rfl rfl (by kernel_rfl) (fun _ _ _ h => h) (Or.inl ⟨by rfl, ?_⟩) ?_ ?_
        rotate_left
        · intro w'
          go_simp
          with_reducible rfl
        rotate_left
        · simp only [Act.put, List.setIfInBounds_toArray, List.set_cons_zero, List.set_cons_succ, Go.Proofs.YtiddjadfkpjpdaaGreatDoorW.PrintLast.i64_w, Go.Proofs.YtiddjadfkpjpdaaGreatDoorW.PrintLast.i32_w]
          rfl
        refine pure_ (i := 20) (N := some 48) (v := ?_) (a' := ?_) #[true, true, true, true, true, true, true, true, true, true, true, true, true, true, true, true, true, true, true, true, true, false, false] rfl rfl (by kernel_rfl) (fun _ _ _ h => h) (Or.inl ⟨by rfl, ?_⟩) ?_ ?_
        rotate_left
        · intro w'
          go_simp
          with_reducible rfl
        rotate_left
        · simp only [Act.put, List.setIfInBounds_toArray, List.set_cons_zero, List.set_cons_succ, Go.Proofs.YtiddjadfkpjpdaaGreatDoorW.PrintLast.i64_w, Go.Proofs.YtiddjadfkpjpdaaGreatDoorW.PrintLast.i32_w]
          rfl
        refine pure_ (i := 21) (N := some 49) (v := ?_) (a' := ?_) #[true, true, true, true, true, true, true, true, true, true, true, true, true, true, true, true, true, true, true, true, true, true, false] rfl rfl (by kernel_rfl) (fun _ _ _ h => h) (Or.inl ⟨by rfl, ?_⟩) ?_ ?_
        rotate_left
        · intro w'
          go_simp
          with_reducible rfl
        rotate_left
        · simp only [Act.put, List.setIfInBounds_toArray, List.set_cons_zero, List.set_cons_succ, Go.Proofs.YtiddjadfkpjpdaaGreatDoorW.PrintLast.i64_w, Go.Proofs.YtiddjadfkpjpdaaGreatDoorW.PrintLast.i32_w]
          rfl
        refine last_ (i := 22) (N := none) #[true, true, true, true, true, true, true, true, true, true, true, true, true, true, true, true, true, true, true, true, true, true, true] rfl rfl (by kernel_rfl) (by decide) (fun K hK => ?_)
        obtain ⟨s0, s1, s2⟩ := hHeld
        refine skip_ (w1 := ?_) (by rfl) rfl ?_ ?_
        rotate_left
        · go_simp
          rfl
        refine hK.out _ _ ?_
        clear hK K
        refine done_ (by kernel_rfl) ?_
        obtain ⟨c0, c1, f0, f1⟩ := (HKK.out _ bf).cells
        have hvf := (bf.block _ (blk_lt hv10)).trans hv10
        have z0 := blk_cell hvf 0
        have z1 := blk_cell hvf 1
        have z2 := blk_cell hvf 2
        have z3 := blk_cell hvf 3
        have z4 := blk_cell hvf 4
        have y0 := blk_frozen hvf 0
        have y1 := blk_frozen hvf 1
        have y2 := blk_frozen hvf 2
        have y3 := blk_frozen hvf 3
        have y4 := blk_frozen hvf 4
        have HKf := Lib.hid (HKK.out _ bf)
        have HBf := Lib.hid (hB10.trans (bf.mono hB10.size))
        simp only [Exit.then]
        apply_assumption
        go_wp2_with fail
        rw [HX2.out]
        refine bodyPost_ret (results_cell_row rfl _ _ w.heap.size 38 _ (0, 0) _ rfl (HK.out v true wf hvf) Tryz.underlying38 rfl (by kernel_rfl)) rfl ?_
        refine HZ.out v true wf hvf HKf.out (gbelow HBf.out _) (fun hb => by cases hb) (fun x hb h0 h1 ht => ?_)
        rw [ht, parse_itoa x h0 h1] at hp; cases hp; exact absurd ht.symm HCM.out
  | _ =>
    exfalso
    apply hsy
    constructor
    · intro v h
      rw [hp] at h
      cases h
    · intro h
      rw [hp] at h
      cases h
end Go.Proofs.YtiddjadfkpjpdaaGreatDoor.Q
