/- The law JsonOwn, walked. -/
import Derived.Test.YtiddjadfkpjpdaaGreatDoorHAns5
set_option linter.unusedVariables false
set_option linter.unusedSimpArgs false
namespace Go.Proofs.YtiddjadfkpjpdaaGreatDoor.Q
open Go.RowKit Go.Proofs.YtiddjadfkpjpdaaGreatDoorW.PrintWords Go.Proofs.YtiddjadfkpjpdaaGreatDoorW.PrintLast
/-- A row of one value. -/
theorem c_one {w : World} {b : Nat} {x : S38} {v3 v4 : Value} (h : w.heap[b]? = some (.cells #[.int .i64 x.f0, .int .i64 x.f1, .string x.f2, v3, v4] 38 (0, 0))) (hk : k38.K w x [.int .i64 x.f0, .int .i64 x.f1, .string x.f2, v3, v4]) : k38.C w (some ⟨b, 0, none⟩) 1 [x] := by
  refine ⟨rfl, by omega, fun _ => ⟨⟨b, 0, none⟩, rfl, ?_⟩⟩
  intro j p hj
  cases j with
  | succ j => simp at hj
  | zero =>
    obtain rfl : x = p := by simpa using hj
    refine ⟨_, rfl, hk, ?_⟩
    intro i u hu
    have := blk_cell h i
    have ea : (⟨b, 0, none⟩ : Addr).add (0 * k38.sz + i) = ⟨b, i, none⟩ := by
      unfold Addr.add
      split
      · rename_i h; simp at h; simp [h]
      · simp
    rw [ea, this]
    simpa using hu
/-- A row of one text. -/
theorem s_one {w : World} {b : Nat} {s : ByteArray} (h : w.heap[b]? = some (.cells #[.string s] 9 (0, 0))) : Kd.string.C w (some ⟨b, 0, none⟩) 1 [s] := by
  refine ⟨rfl, by omega, fun _ => ⟨⟨b, 0, none⟩, rfl, ?_⟩⟩
  intro j p hj
  cases j with
  | succ j => simp at hj
  | zero =>
    obtain rfl : s = p := by simpa using hj
    refine ⟨[.string s], rfl, rfl, ?_⟩
    intro i u hu
    have := blk_cell h i
    have ea : (⟨b, 0, none⟩ : Addr).add (0 * Kd.string.sz + i) = ⟨b, i, none⟩ := by
      unfold Addr.add
      split
      · rename_i h; simp at h; simp [h]
      · simp
    rw [ea, this]
    simpa using hu
theorem c_nil {α : Type} (d : Kd α) (w : World) (A : Option Addr) : d.C w A 0 [] := ⟨rfl, by omega, fun h => by omega⟩
def ownN (n : Int) : S38 := ⟨3, n, ⟨#[]⟩, [], []⟩
def ownL (n : Int) : S38 := ⟨5, 0, ⟨#[]⟩, [ownN n], []⟩
def ownV (key : ByteArray) (n : Int) : S38 := ⟨6, 0, ⟨#[]⟩, [ownL n], [key]⟩
/-- The memory of the law's own value. -/
structure OwnM (b : Nat) (key : ByteArray) (n : Int) (w : World) : Prop where
  h0 : w.heap[b]? = some (.cells #[.string key] 9 (0, 0))
  h1 : w.heap[b + 1]? = some (.cells #[.int .i64 3, .int .i64 n, .string ⟨#[]⟩, .slice none 0 0, .slice none 0 0] 38 (0, 0))
  h2 : w.heap[b + 1 + 1]? = some (.cells #[.int .i64 5, .int .i64 0, .string ⟨#[]⟩, .slice (some ⟨b + 1, 0, none⟩) 1 1, .slice none 0 0] 38 (0, 0))
  h3 : w.heap[b + 1 + 1 + 1]? = some (.cells #[.int .i64 6, .int .i64 0, .string ⟨#[]⟩, .slice (some ⟨b + 1 + 1, 0, none⟩) 1 1, .slice (some ⟨b, 0, none⟩) 1 1] 38 (0, 0))
theorem OwnM.keep {b : Nat} {key : ByteArray} {n : Int} {w w' : World} {B : Nat} (h : OwnM b key n w) (hB : b + 4 ≤ B) (hb : Below B w w') : OwnM b key n w' :=
  ⟨(hb.block _ (by omega)).trans h.h0, (hb.block _ (by omega)).trans h.h1, (hb.block _ (by omega)).trans h.h2, (hb.block _ (by omega)).trans h.h3⟩
theorem OwnM.vc {b : Nat} {key : ByteArray} {n : Int} {w : World} (h : OwnM b key n w) : VC w (ownV key n) (some ⟨b + 1 + 1, 0, none⟩) 1 (some ⟨b, 0, none⟩) 1 := by
  refine ⟨Nat.le_refl 1, ?_, Nat.le_refl 1, s_one h.h0⟩
  refine c_one (x := ownL n) h.h2 ?_
  refine k38_mk w (ownL n) (A3 := some ⟨b + 1, 0, none⟩) (c3 := 1) (Nat.le_refl 1) ?_ (A4 := none) (c4 := 0) (Nat.le_refl 0) (c_nil _ _ _)
  refine c_one (x := ownN n) h.h1 ?_
  exact k38_mk w (ownN n) (A3 := none) (c3 := 0) (Nat.le_refl 0) (c_nil _ _ _) (A4 := none) (c4 := 0) (Nat.le_refl 0) (c_nil _ _ _)
theorem alloc_last (w : World) (o : Obj) (k : Nat) (h : k = w.heap.size) : (w.alloc o).heap[k]? = some o := by subst h; exact World.alloc_heap_new w o
theorem alloc_old {w : World} {o' : Obj} {k : Nat} (h : w.heap[k]? = some o') (o : Obj) : (w.alloc o).heap[k]? = some o' := blk_alloc h o
theorem own_mem (w : World) (key : ByteArray) (n : Int) : OwnM w.heap.size key n ((((w.alloc (.cells #[.string key] 9)).alloc (.cells #[.int .i64 3, .int .i64 n, .string ⟨#[]⟩, .slice none 0 0, .slice none 0 0] 38)).alloc (.cells #[.int .i64 5, .int .i64 0, .string ⟨#[]⟩, .slice (some ⟨w.heap.size + 1, 0, none⟩) 1 1, .slice none 0 0] 38)).alloc (.cells #[.int .i64 6, .int .i64 0, .string ⟨#[]⟩, .slice (some ⟨w.heap.size + 1 + 1, 0, none⟩) 1 1, .slice (some ⟨w.heap.size, 0, none⟩) 1 1] 38)) :=
  ⟨alloc_old (alloc_old (alloc_old (alloc_last _ _ _ rfl) _) _) _, alloc_old (alloc_old (alloc_last _ _ _ (by simp)) _) _, alloc_old (alloc_last _ _ _ (by simp)) _, alloc_last _ _ _ (by simp)⟩
theorem own_wt (key : ByteArray) (n : Int) (h : key.size ≤ 100) : (ownV key n).wt ≤ 200 := by
  have hz : (⟨#[]⟩ : ByteArray).size = 0 := rfl
  simp [ownV, ownL, ownN, S38.wt, wtsL, hz]; omega
theorem own_field (key : ByteArray) (n : Int) : fieldB (ownV key n) key = some (ownL n) := fieldB_some (x := ownV key n) (k := 0) rfl (Nat.zero_lt_one) (Nat.zero_lt_one) rfl (fun j hj => by omega)
set_option maxRecDepth 100000 in
set_option maxHeartbeats 8000000 in
theorem own_walk (key : ByteArray) (n : Int) (w : World) (hk : key.size ≤ maxLen) (hn0 : -9223372036854775808 ≤ n) (hn1 : n ≤ 9223372036854775807) (hE : Env w) :
    Calls Tryz.prog 8 #[.string key, .int .i64 n] w fun e w' => e = .returned (.bool true) ∧ Below w.heap.size w w' := by
  by_cases h1 : 100 < key.size
  · have h1i : (100 : Int) < (key.size : Int) := by omega
    have HA := Lib.hid (answers5_calls w hE)
    go_enter Tryz.func8, Tryz.ntmps8
    go_wp2_with fail
    refine HA.out.mono ?_
    rintro e w' ⟨rfl, hb⟩
    go_wp2_with fail
    go_ret
    exact ⟨rfl, hb⟩
  · have h1i : ¬ (100 : Int) < (key.size : Int) := by omega
    by_cases h2 : n < 0
    · have HA := Lib.hid (answers5_calls w hE)
      go_enter Tryz.func8, Tryz.ntmps8
      go_wp2_with fail
      refine HA.out.mono ?_
      rintro e w' ⟨rfl, hb⟩
      go_wp2_with fail
      go_ret
      exact ⟨rfl, hb⟩
    · by_cases h3 : 1000 < n
      · have HA := Lib.hid (answers5_calls w hE)
        go_enter Tryz.func8, Tryz.ntmps8
        go_wp2_with fail
        refine HA.out.mono ?_
        rintro e w' ⟨rfl, hb⟩
        go_wp2_with fail
        go_ret
        exact ⟨rfl, hb⟩
      · have HE := Lib.hid hE
        clear hE
        obtain ⟨W4, hW4⟩ : ∃ W4, W4 = (((w.alloc (.cells #[.string key] 9)).alloc (.cells #[.int .i64 3, .int .i64 n, .string ⟨#[]⟩, .slice none 0 0, .slice none 0 0] 38)).alloc (.cells #[.int .i64 5, .int .i64 0, .string ⟨#[]⟩, .slice (some ⟨w.heap.size + 1, 0, none⟩) 1 1, .slice none 0 0] 38)).alloc (.cells #[.int .i64 6, .int .i64 0, .string ⟨#[]⟩, .slice (some ⟨w.heap.size + 1 + 1, 0, none⟩) 1 1, .slice (some ⟨w.heap.size, 0, none⟩) 1 1] 38) := ⟨_, rfl⟩
        have hM4 : OwnM w.heap.size key n W4 := by rw [hW4]; exact own_mem w key n
        have hB4 : Below w.heap.size w W4 := by rw [hW4]; exact (ba2 w _ _).trans ((ba2 _ _ _).mono (by simp; omega))
        have hs4 : W4.heap.size = w.heap.size + 4 := by rw [hW4]; simp
        have HF : Hid (∀ wx, OwnM w.heap.size key n wx → Calls Tryz.prog 33 #[.agg #[.int .i64 6, .int .i64 0, .string ⟨#[]⟩, .slice (some ⟨w.heap.size + 1 + 1, 0, none⟩) 1 1, .slice (some ⟨w.heap.size, 0, none⟩) 1 1], .string key] wx (FieldJP (ownV key n) key wx)) :=
          fun wx hM => jfield_calls (ownV key n) key _ _ _ _ wx hM.vc (by have := own_wt key n (by omega); omega)
        have HM4 := Lib.hid hM4
        have HB4 := Lib.hid hB4
        have HW4 := Lib.hid hW4
        have HS4 := Lib.hid hs4
        clear hM4 hB4 hW4 hs4
        go_enter Tryz.func8, Tryz.ntmps8
        go_wp2_with fail
        rw [← HW4.out]
        refine (HF.out W4 HM4.out).mono ?_
        rintro e w5 ⟨b5, h5⟩
        rcases h5 with ⟨y, E3, e3, E4, hy, rfl, ho, _⟩ | ⟨h, _⟩
        · rw [own_field] at hy
          obtain rfl : ownL n = y := Option.some.inj hy
          obtain ⟨g, cap, hv, hg0, hg1, cells, hg2⟩ := Kd.R_form ho.r3 (show 0 < (ownL n).f3.length from Nat.zero_lt_one)
          obtain ⟨bb, oo, D3, d3, D4, d4, hA, _, q0, q1, _⟩ := at_val ho.vc.g3 0 Nat.zero_lt_one
          injection hv with hv1 _ hv3
          subst hv1
          injection hA with hA
          injection hA with hA1 hA2
          subst hA1
          subst hA2
          have hq1 : w5.cell? ⟨g, 1, none⟩ = some (.int .i64 n) := by simp at q1; exact q1
          have hM5 := HM4.out.keep (B := W4.heap.size) (by have := HS4.out; omega) b5
          have hg5 : w.heap.size + 4 ≤ g := by have := HS4.out; omega
          have hf1 := blk_frozen hg2 1
          have HM5 := Lib.hid hM5
          have HB5 := Lib.hid (HB4.out.trans (b5.mono HB4.out.size))
          have HG2 := Lib.hid hg2
          have hs5 : w.heap.size + 4 ≤ w5.heap.size := by have := HS4.out; have := b5.size; omega
          have e1 : ((ownL n).f3.length : Int) ≠ 1 ↔ False := by simp [ownL]
          clear hM5 b5 hg2 hv3 q0 q1 hy ho hg0 cap
          have p0 := blk_cell HM5.out.h3 0
          have p1 := blk_cell HM5.out.h3 1
          have p2 := blk_cell HM5.out.h3 2
          have p3 := blk_cell HM5.out.h3 3
          have p4 := blk_cell HM5.out.h3 4
          have hl : ((ownL n).f3.length : Int) = 1 := rfl
          have hlt5 : w.heap.size + 1 + 1 + 1 < w5.heap.size := by omega
          have n1 : ¬ g = w.heap.size + 1 + 1 + 1 := by omega
          have n2 : ¬ w.heap.size + 1 + 1 + 1 = g := by omega
          have n3 : ¬ g = w5.heap.size := by omega
          have n4 : ¬ w5.heap.size = g := by omega
          have n5 : ¬ w5.heap.size = w.heap.size + 1 + 1 + 1 := by omega
          have n6 : ¬ w.heap.size + 1 + 1 + 1 = w5.heap.size := by omega
          go_wp2_with fail
          obtain ⟨W6, hW6⟩ : ∃ W6, W6 = (w5.setCell ⟨g, 1, none⟩ (.int .i64 (n + 1))).alloc (.cells #[.int .i64 (ownL n).f0, .int .i64 (ownL n).f1, .string (ownL n).f2, .slice (some ⟨g, 0, none⟩) (ownL n).f3.length e3, .slice E4 (ownL n).f4.length (ownL n).f4.length] 38) := ⟨_, rfl⟩
          have hb6 : Below (w.heap.size + 4) w5 W6 := by rw [hW6]; exact ((Below.refl _ _).setCell hg5 _).alloc (by simp [World.setCell]; omega) _
          have HM6 := Lib.hid (HM5.out.keep (Nat.le_refl _) hb6)
          have HB6 := Lib.hid (HB5.out.trans (hb6.mono (by omega)))
          have hs6 : w.heap.size + 4 ≤ W6.heap.size := by have := hb6.size; omega
          rw [← hW6]
          clear hW6 hb6 n1 n2 n3 n4 n5 n6 hlt5 p0 p1 p2 p3 p4 hq1 hf1 hs5 hg1 hg5
          refine (HF.out W6 HM6.out).mono ?_
          rintro e w7 ⟨b7, h7⟩
          rcases h7 with ⟨y, F3, f3, F4, hy, rfl, ho, _⟩ | ⟨h, _⟩
          · rw [own_field] at hy
            obtain rfl : ownL n = y := Option.some.inj hy
            obtain ⟨b2, o2, D3', d3', D4', d4', rfl, hb2, q0, q1, _⟩ := at_val ho.vc.g3 0 Nat.zero_lt_one
            have hq1 : w7.cell? ⟨b2, o2 + 1, none⟩ = some (.int .i64 n) := by simp at q1; exact q1
            have hM7 := HM6.out.keep hs6 b7
            have HM7 := Lib.hid hM7
            have HB7 := Lib.hid (HB6.out.trans (b7.mono HB6.out.size))
            have hs7 : w.heap.size + 4 ≤ w7.heap.size := by have := b7.size; omega
            clear hM7 b7 q0 q1 hy ho
            obtain ⟨W8, hW8⟩ : ∃ W8, W8 = w7.alloc (.cells #[.int .i64 (ownL n).f0, .int .i64 (ownL n).f1, .string (ownL n).f2, .slice (some ⟨b2, o2, none⟩) (ownL n).f3.length f3, .slice F4 (ownL n).f4.length (ownL n).f4.length] 38) := ⟨_, rfl⟩
            have hX8 : W8.heap[w7.heap.size]? = some (.cells #[.int .i64 (ownL n).f0, .int .i64 (ownL n).f1, .string (ownL n).f2, .slice (some ⟨b2, o2, none⟩) (ownL n).f3.length f3, .slice F4 (ownL n).f4.length (ownL n).f4.length] 38 (0, 0)) := by rw [hW8]; exact World.alloc_heap_new _ _
            have hb8 : Below w7.heap.size w7 W8 := by rw [hW8]; exact ba _ _
            have HX8 := Lib.hid hX8
            have HB8 := Lib.hid hb8
            have HW8 := Lib.hid hW8
            clear hX8 hb8 hW8
            have HA := Lib.hid (answers5_calls W8 (HE.out.below (HB7.out.trans (HB8.out.mono HB7.out.size))))
            go_wp2_with fail
            rw [← HW8.out]
            refine HA.out.mono ?_
            rintro e w9 ⟨rfl, b9⟩
            have hb9 : Below w7.heap.size w7 w9 := HB8.out.trans (b9.mono HB8.out.size)
            have hM9 := HM7.out.keep hs7 hb9
            have hX9 := (b9.block _ (blk_lt HX8.out)).trans HX8.out
            have hc9 := (hb9.cell (p := ⟨b2, o2 + 1, none⟩) hb2).trans hq1
            have HB9 := Lib.hid (HB7.out.trans (hb9.mono HB7.out.size))
            have x3 := blk_cell hX9 3
            have p3 := blk_cell hM9.h3 3
            have r3 := blk_cell hM9.h2 3
            have u1 := blk_cell hM9.h1 1
            clear b9 hb9 hM9 hX9 hq1
            have e1 : ((ownL n).f3.length : Int) == 1 := rfl
            go_wp2_with fail
            go_ret
            exact ⟨rfl, HB9.out⟩
          · rw [own_field] at h; cases h
        · rw [own_field] at h; cases h
end Go.Proofs.YtiddjadfkpjpdaaGreatDoor.Q
