/- ref.Same: are two values the same? -/
import Derived.Test.YtiddjadfkpjpdaaGreatDoorHBase
import Derived.Lib.Hide
import Derived.Outline
set_option linter.unusedVariables false
set_option linter.unusedSimpArgs false
namespace Go.Proofs.YtiddjadfkpjpdaaGreatDoor.Q
open Go.RowKit Go.Proofs.YtiddjadfkpjpdaaGreatDoorW.PrintWords Go.Proofs.YtiddjadfkpjpdaaGreatDoorW.PrintLast
open Classical in
noncomputable def eqB (x y : S38) : Bool := decide (x = y)
theorem eqB_true {x y : S38} (h : x = y) : eqB x y = true := by unfold eqB; simp [h]
theorem eqB_false {x y : S38} (h : x ≠ y) : eqB x y = false := by unfold eqB; simp [h]
theorem S38.ext' {x y : S38} (h0 : x.f0 = y.f0) (h1 : x.f1 = y.f1) (h2 : x.f2 = y.f2) (h3 : x.f3 = y.f3) (h4 : x.f4 = y.f4) : x = y := by cases x; cases y; simp_all
def ag (x : S38) (A3 : Option Addr) (c3 : Nat) (A4 : Option Addr) (c4 : Nat) : Value := .agg #[.int .i64 x.f0, .int .i64 x.f1, .string x.f2, .slice A3 x.f3.length c3, .slice A4 x.f4.length c4]
set_option maxRecDepth 100000 in
set_option maxHeartbeats 8000000 in
theorem rsame_any (n : Nat) : ∀ (x y : S38) (A3 : Option Addr) (c3 : Nat) (A4 : Option Addr) (c4 : Nat) (B3 : Option Addr) (d3 : Nat) (B4 : Option Addr) (d4 : Nat) (w : World), x.wt ≤ n → VC w x A3 c3 A4 c4 → VC w y B3 d3 B4 d4 → x.wt ≤ 1099511627776 → y.wt ≤ 1099511627776 →
    Calls Tryz.prog 29 #[.agg #[.int .i64 x.f0, .int .i64 x.f1, .string x.f2, .slice A3 x.f3.length c3, .slice A4 x.f4.length c4], .agg #[.int .i64 y.f0, .int .i64 y.f1, .string y.f2, .slice B3 y.f3.length d3, .slice B4 y.f4.length d4]] w
      fun e w' => e = .returned (.bool (eqB x y)) ∧ Below w.heap.size w w' := by
  induction n with
  | zero => intro x y A3 c3 A4 c4 B3 d3 B4 d4 w h; have := wt_pos x; omega
  | succ n ih =>
    intro x y A3 c3 A4 c4 B3 d3 B4 d4 w hn hx hy hwx hwy
    obtain ⟨W1, hW1⟩ : ∃ W1, (w.alloc (.cells #[.int .i64 x.f0, .int .i64 x.f1, .string x.f2, .slice A3 x.f3.length c3, .slice A4 x.f4.length c4] 38)).alloc (.cells #[.int .i64 y.f0, .int .i64 y.f1, .string y.f2, .slice B3 y.f3.length d3, .slice B4 y.f4.length d4] 38) = W1 := ⟨_, rfl⟩
    have hb1 : Below w.heap.size w W1 := by rw [← hW1]; exact ((Below.refl _ w).alloc (Nat.le_refl _) _).alloc (by simp) _
    have hx1 := hx.below hb1
    have hy1 := hy.below hb1
    have HB1 := Lib.hid hb1
    have hs1 : w.heap.size + 2 ≤ W1.heap.size := by rw [← hW1]; simp
    have p0 : W1.cell? ⟨w.heap.size, 0, none⟩ = some (.int .i64 x.f0) := by rw [← hW1]; simp
    have p1 : W1.cell? ⟨w.heap.size, 1, none⟩ = some (.int .i64 x.f1) := by rw [← hW1]; simp
    have p2 : W1.cell? ⟨w.heap.size, 2, none⟩ = some (.string x.f2) := by rw [← hW1]; simp
    have p3 : W1.cell? ⟨w.heap.size, 3, none⟩ = some (.slice A3 x.f3.length c3) := by rw [← hW1]; simp
    have p4 : W1.cell? ⟨w.heap.size, 4, none⟩ = some (.slice A4 x.f4.length c4) := by rw [← hW1]; simp
    have q0 : W1.cell? ⟨w.heap.size + 1, 0, none⟩ = some (.int .i64 y.f0) := by rw [← hW1]; simp
    have q1 : W1.cell? ⟨w.heap.size + 1, 1, none⟩ = some (.int .i64 y.f1) := by rw [← hW1]; simp
    have q2 : W1.cell? ⟨w.heap.size + 1, 2, none⟩ = some (.string y.f2) := by rw [← hW1]; simp
    have q3 : W1.cell? ⟨w.heap.size + 1, 3, none⟩ = some (.slice B3 y.f3.length d3) := by rw [← hW1]; simp
    have q4 : W1.cell? ⟨w.heap.size + 1, 4, none⟩ = some (.slice B4 y.f4.length d4) := by rw [← hW1]; simp
    have HW1 := Lib.hid hW1
    clear hW1 hb1 hx hy
    by_cases k0 : x.f0 = y.f0
    · by_cases k1 : x.f1 = y.f1
      · by_cases k2 : x.f2 = y.f2
        · by_cases k3 : x.f3.length = y.f3.length
          · by_cases k4 : x.f4.length = y.f4.length
            · have e0 : (x.f0 != y.f0) = false := by simp [k0]
              have e1 : (x.f1 != y.f1) = false := by simp [k1]
              have e2 : (x.f2.toList == y.f2.toList) = true := by simp [k2]
              have e3 : ((x.f3.length : Int) != y.f3.length) = false := by simp [k3]
              have e4 : ((x.f4.length : Int) != y.f4.length) = false := by simp [k4]
              have hEQ : Hid (x.f3 = y.f3 → x.f4 = y.f4 → x = y) := fun h3 h4 => S38.ext' k0 k1 k2 h3 h4
              have K3 := Lib.hid k3
              have K4 := Lib.hid k4
              have IH := Lib.hid ih
              have hl3 := wt_len3 x
              have hl4 := wt_len4 x
              clear k0 k1 k2 k3 k4 ih
              go_enter Tryz.func29, Tryz.ntmps29
              go_wp2_with fail
              rw [HW1.out]
              go_loopw [5] (fun i wr => ∃ k : Nat, k ≤ x.f4.length ∧ i = .int .i64 k ∧ Hid (∀ j, (hj : j < k) → (hk : k ≤ x.f4.length) → x.f4[j]'(by omega) = y.f4[j]'(by have := K4.out; omega)) ∧ Below W1.heap.size W1 wr) (fun i _ => x.f4.length - (intOf i).toNat)
              case atStart => exact ⟨0, Nat.zero_le _, rfl, fun j hj => by omega, Below.refl _ _⟩
              case round =>
                obtain ⟨k, hk, rfl, hN, hbw⟩ := hrel
                have r0 : wr.cell? ⟨w.heap.size, 4, none⟩ = some (.slice A4 x.f4.length c4) := (hbw.cell (p := ⟨w.heap.size, 4, none⟩) (by show w.heap.size < _; omega)).trans p4
                have r1 : wr.cell? ⟨w.heap.size + 1, 4, none⟩ = some (.slice B4 y.f4.length d4) := (hbw.cell (p := ⟨w.heap.size + 1, 4, none⟩) (by show w.heap.size + 1 < _; omega)).trans q4
                by_cases hlt : k < x.f4.length
                · have hlt2 : k < y.f4.length := by have := K4.out; omega
                  obtain ⟨b1, o1, rfl, hb1, hc1⟩ := at_str (Kd.C_below hx1.g4 hbw) k hlt
                  obtain ⟨b2, o2, rfl, hb2, hc2⟩ := at_str (Kd.C_below hy1.g4 hbw) k hlt2
                  by_cases he : x.f4[k] = y.f4[k]
                  · have e5 : (x.f4[k].toList == y.f4[k].toList) = true := by simp [he]
                    have HE := Lib.hid he
                    clear he
                    go_wp2_with fail
                    go_quiet (fail)
                    go_wp2_with fail
                    go_roundw
                    case rel =>
                      refine ⟨k + 1, by omega, by go_num, ?_, hbw.trans ((pw_below_drewN (Below.refl _ _) _).mono hbw.size)⟩
                      intro j hj hk1
                      by_cases e : j = k
                      · subst e; exact HE.out
                      · exact hN.out j (by omega) hk
                    case measure => simp [intOf]; omega
                  · have e5 : (x.f4[k].toList == y.f4[k].toList) = false := by
                      rw [Bool.eq_false_iff]; intro h; exact he (ByteArray.ext (by rw [beq_iff_eq, ByteArray.toList_eq, ByteArray.toList_eq] at h; exact Array.toList_inj.1 h))
                    have hr : Hid (eqB x y = false) := eqB_false (fun h => he (by subst h; rfl))
                    go_wp2_with fail
                    go_quiet (fail)
                    go_wp2_with fail
                    go_ret
                    exact ⟨by rw [hr.out]; rfl, HB1.out.trans ((hbw.trans ((pw_below_drewN (Below.refl _ _) _).mono hbw.size)).mono HB1.out.size)⟩
                · have hK : Hid (x.f4 = y.f4) := List.ext_getElem K4.out (fun j h1 h2 => hN.out j (by omega) hk)
                  clear hN
                  go_wp2_with fail
                  have hb0 : Below W1.heap.size W1 wr := hbw
                  clear hbw r0 r1
                  go_loopw [6] (fun i wr => ∃ k : Nat, k ≤ x.f3.length ∧ i = .int .i64 k ∧ Hid (∀ j, (hj : j < k) → (hk : k ≤ x.f3.length) → x.f3[j]'(by omega) = y.f3[j]'(by have := K3.out; omega)) ∧ Below W1.heap.size W1 wr) (fun i _ => x.f3.length - (intOf i).toNat)
                  case atStart => exact ⟨0, Nat.zero_le _, rfl, fun j hj => by omega, hb0⟩
                  case round =>
                    obtain ⟨k, hk, rfl, hN, hbw⟩ := hrel
                    have r0 : wr.cell? ⟨w.heap.size, 3, none⟩ = some (.slice A3 x.f3.length c3) := (hbw.cell (p := ⟨w.heap.size, 3, none⟩) (by show w.heap.size < _; omega)).trans p3
                    have r1 : wr.cell? ⟨w.heap.size + 1, 3, none⟩ = some (.slice B3 y.f3.length d3) := (hbw.cell (p := ⟨w.heap.size + 1, 3, none⟩) (by show w.heap.size + 1 < _; omega)).trans q3
                    by_cases hlt : k < x.f3.length
                    · have hlt2 : k < y.f3.length := by have := K3.out; omega
                      obtain ⟨b1, o1, A3', c3', A4', c4', rfl, hb1, h0, h1, h2, h3, h4, hv⟩ := at_val (Kd.C_below hx1.g3 hbw) k hlt
                      obtain ⟨b2, o2, B3', d3', B4', d4', rfl, hb2, g0, g1, g2, g3, g4, gv⟩ := at_val (Kd.C_below hy1.g3 hbw) k hlt2
                      have hwi := wt_elem x k hlt
                      have gwi := wt_elem y k hlt2
                      have HCALL : Hid (Calls Tryz.prog 29 _ wr.drew _) := IH.out x.f3[k] y.f3[k] A3' c3' A4' c4' B3' d3' B4' d4' wr.drew (by omega) (hv.below (below_drew1 (Below.refl _ _))) (gv.below (below_drew1 (Below.refl _ _))) (by omega) (by omega)
                      by_cases he : x.f3[k] = y.f3[k]
                      · have e5 : eqB x.f3[k] y.f3[k] = true := eqB_true he
                        rw [e5] at HCALL
                        have HE := Lib.hid he
                        clear he e5
                        go_wp2_with fail
                        refine start_ (n := 12) (S := fun w' => w' = wr.drew) (ds := [10]) #[false, false, false, false, false, false, false, false, false, false, false, false] (by kernel_rfl) rfl rfl rfl (fun hHeld => ?_)
                        refine pure_ (i := 0) (N := some 69) (v := ?_) (a' := ?_) #[true, false, false, false, false, false, false, false, false, false, false, false] rfl rfl (by kernel_rfl) (fun _ _ _ h => h) (Or.inl ⟨by rfl, ?_⟩) ?_ ?_
                        rotate_left
                        · intro w'
                          go_simp
                          with_reducible rfl
                        rotate_left
                        · simp only [Act.put, List.setIfInBounds_toArray, List.set_cons_zero, List.set_cons_succ, Go.Proofs.YtiddjadfkpjpdaaGreatDoorW.PrintLast.i64_w, Go.Proofs.YtiddjadfkpjpdaaGreatDoorW.PrintLast.i32_w]
                          rfl
                        refine take_ (i := 1) (N := some 70) (v := ?_) (a' := ?_) #[true, true, false, false, false, false, false, false, false, false, false, false] rfl rfl (by kernel_rfl) (fun _ _ _ h => h) (Or.inl ⟨by rfl, ?_⟩) hHeld ?_ ?_
                        rotate_left
                        · rintro w' rfl
                          go_simp
                          with_reducible rfl
                        rotate_left
                        · simp only [Act.put, List.setIfInBounds_toArray, List.set_cons_zero, List.set_cons_succ, Go.Proofs.YtiddjadfkpjpdaaGreatDoorW.PrintLast.i64_w, Go.Proofs.YtiddjadfkpjpdaaGreatDoorW.PrintLast.i32_w]
                          rfl
                        refine pure_ (i := 2) (N := some 71) (v := ?_) (a' := ?_) #[true, true, true, false, false, false, false, false, false, false, false, false] rfl rfl (by kernel_rfl) (fun _ _ _ h => h) (Or.inl ⟨by rfl, ?_⟩) ?_ ?_
                        rotate_left
                        · intro w'
                          go_simp
                          with_reducible rfl
                        rotate_left
                        · simp only [Act.put, List.setIfInBounds_toArray, List.set_cons_zero, List.set_cons_succ, Go.Proofs.YtiddjadfkpjpdaaGreatDoorW.PrintLast.i64_w, Go.Proofs.YtiddjadfkpjpdaaGreatDoorW.PrintLast.i32_w]
                          rfl
                        refine pure_ (i := 3) (N := some 72) (v := ?_) (a' := ?_) #[true, true, true, true, false, false, false, false, false, false, false, false] rfl rfl (by kernel_rfl) (fun _ _ _ h => h) (Or.inl ⟨by rfl, ?_⟩) ?_ ?_
                        rotate_left
                        · intro w'
                          go_simp
                          with_reducible rfl
                        rotate_left
                        · simp only [Act.put, List.setIfInBounds_toArray, List.set_cons_zero, List.set_cons_succ, Go.Proofs.YtiddjadfkpjpdaaGreatDoorW.PrintLast.i64_w, Go.Proofs.YtiddjadfkpjpdaaGreatDoorW.PrintLast.i32_w]
                          rfl
                        refine take_ (i := 4) (N := some 73) (v := ?_) (a' := ?_) #[true, true, true, true, true, false, false, false, false, false, false, false] rfl rfl (by kernel_rfl) (fun _ _ _ h => h) (Or.inl ⟨by rfl, ?_⟩) hHeld ?_ ?_
                        rotate_left
                        · rintro w' rfl
                          go_simp
                          with_reducible rfl
                        rotate_left
                        · simp only [Act.put, List.setIfInBounds_toArray, List.set_cons_zero, List.set_cons_succ, Go.Proofs.YtiddjadfkpjpdaaGreatDoorW.PrintLast.i64_w, Go.Proofs.YtiddjadfkpjpdaaGreatDoorW.PrintLast.i32_w]
                          rfl
                        refine pure_ (i := 5) (N := some 74) (v := ?_) (a' := ?_) #[true, true, true, true, true, true, false, false, false, false, false, false] rfl rfl (by kernel_rfl) (fun _ _ _ h => h) (Or.inl ⟨by rfl, ?_⟩) ?_ ?_
                        rotate_left
                        · intro w'
                          go_simp
                          with_reducible rfl
                        rotate_left
                        · simp only [Act.put, List.setIfInBounds_toArray, List.set_cons_zero, List.set_cons_succ, Go.Proofs.YtiddjadfkpjpdaaGreatDoorW.PrintLast.i64_w, Go.Proofs.YtiddjadfkpjpdaaGreatDoorW.PrintLast.i32_w]
                          rfl
                        refine take_ (i := 6) (N := some 75) (v := ?_) (a' := ?_) #[true, true, true, true, true, true, true, false, false, false, false, false] rfl rfl (by kernel_rfl) (fun _ _ _ h => h) (Or.inl ⟨by rfl, ?_⟩) hHeld ?_ ?_
                        rotate_left
                        · rintro w' rfl
                          go_simp
                          with_reducible rfl
                        rotate_left
                        · simp only [Act.put, List.setIfInBounds_toArray, List.set_cons_zero, List.set_cons_succ, Go.Proofs.YtiddjadfkpjpdaaGreatDoorW.PrintLast.i64_w, Go.Proofs.YtiddjadfkpjpdaaGreatDoorW.PrintLast.i32_w]
                          rfl
                        refine pure_ (i := 7) (N := some 76) (v := ?_) (a' := ?_) #[true, true, true, true, true, true, true, true, false, false, false, false] rfl rfl (by kernel_rfl) (fun _ _ _ h => h) (Or.inl ⟨by rfl, ?_⟩) ?_ ?_
                        rotate_left
                        · intro w'
                          go_simp
                          with_reducible rfl
                        rotate_left
                        · simp only [Act.put, List.setIfInBounds_toArray, List.set_cons_zero, List.set_cons_succ, Go.Proofs.YtiddjadfkpjpdaaGreatDoorW.PrintLast.i64_w, Go.Proofs.YtiddjadfkpjpdaaGreatDoorW.PrintLast.i32_w]
                          rfl
                        refine pure_ (i := 8) (N := some 77) (v := ?_) (a' := ?_) #[true, true, true, true, true, true, true, true, true, false, false, false] rfl rfl (by kernel_rfl) (fun _ _ _ h => h) (Or.inl ⟨by rfl, ?_⟩) ?_ ?_
                        rotate_left
                        · intro w'
                          go_simp
                          with_reducible rfl
                        rotate_left
                        · simp only [Act.put, List.setIfInBounds_toArray, List.set_cons_zero, List.set_cons_succ, Go.Proofs.YtiddjadfkpjpdaaGreatDoorW.PrintLast.i64_w, Go.Proofs.YtiddjadfkpjpdaaGreatDoorW.PrintLast.i32_w]
                          rfl
                        refine take_ (i := 9) (N := some 78) (v := ?_) (a' := ?_) #[true, true, true, true, true, true, true, true, true, true, false, false] rfl rfl (by kernel_rfl) (fun _ _ _ h => h) (Or.inl ⟨by rfl, ?_⟩) hHeld ?_ ?_
                        rotate_left
                        · rintro w' rfl
                          go_simp
                          with_reducible rfl
                        rotate_left
                        · simp only [Act.put, List.setIfInBounds_toArray, List.set_cons_zero, List.set_cons_succ, Go.Proofs.YtiddjadfkpjpdaaGreatDoorW.PrintLast.i64_w, Go.Proofs.YtiddjadfkpjpdaaGreatDoorW.PrintLast.i32_w]
                          rfl
                        refine last_ (i := 10) (N := some 79) #[true, true, true, true, true, true, true, true, true, true, true, false] rfl rfl (by kernel_rfl) (by decide) (fun K hK => ?_)
                        refine goes_ Tryz.func29 (by kernel_rfl) rfl #[.agg #[.int .i64 x.f3[k].f0, .int .i64 x.f3[k].f1, .string x.f3[k].f2, .slice A3' x.f3[k].f3.length c3', .slice A4' x.f3[k].f4.length c4'], .agg #[.int .i64 y.f3[k].f0, .int .i64 y.f3[k].f1, .string y.f3[k].f2, .slice B3' y.f3[k].f3.length d3', .slice B4' y.f3[k].f4.length d4']] (by rfl) rfl rfl (by (try simp only [List.map_toArray, List.map_cons, List.map_nil]); first | done | rfl) ?_
                        refine HCALL.out.mono ?_
                        rintro e w2 ⟨rfl, b2⟩
                        refine ⟨_, rfl, ?_⟩
                        refine hK.out _ _ ?_
                        clear hK K
                        refine norm_ (a' := ?_) ?_ ?_
                        rotate_left
                        · show Act.put _ (some 79) _ = _
                          simp only [Act.put, List.setIfInBounds_toArray, List.set_cons_zero, List.set_cons_succ, Go.Proofs.YtiddjadfkpjpdaaGreatDoorW.PrintLast.i64_w, Go.Proofs.YtiddjadfkpjpdaaGreatDoorW.PrintLast.i32_w]
                          rfl
                        refine pure_ (i := 11) (N := some 80) (v := ?_) (a' := ?_) #[true, true, true, true, true, true, true, true, true, true, true, true] rfl rfl (by kernel_rfl) (fun _ _ _ h => h) (Or.inl ⟨by rfl, ?_⟩) ?_ ?_
                        rotate_left
                        · intro w'
                          go_simp
                          with_reducible rfl
                        rotate_left
                        · simp only [Act.put, List.setIfInBounds_toArray, List.set_cons_zero, List.set_cons_succ, Go.Proofs.YtiddjadfkpjpdaaGreatDoorW.PrintLast.i64_w, Go.Proofs.YtiddjadfkpjpdaaGreatDoorW.PrintLast.i32_w]
                          rfl
                        refine done_ (by kernel_rfl) ?_
                        go_wp2_with fail
                        have hbw2 := hbw.trans (((below_drew1 (Below.refl _ _)).trans b2).mono hbw.size)
                        go_roundw
                        case rel =>
                          refine ⟨k + 1, by omega, by go_num, ?_, hbw2⟩
                          intro j hj hk1
                          by_cases e : j = k
                          · subst e; exact HE.out
                          · exact hN.out j (by omega) hk
                        case measure => simp [intOf]; omega
                      · have e5 : eqB x.f3[k] y.f3[k] = false := eqB_false he
                        rw [e5] at HCALL
                        have hr : Hid (eqB x y = false) := eqB_false (fun h => he (by subst h; rfl))
                        clear he e5
                        go_wp2_with fail
                        refine start_ (n := 12) (S := fun w' => w' = wr.drew) (ds := [10]) #[false, false, false, false, false, false, false, false, false, false, false, false] (by kernel_rfl) rfl rfl rfl (fun hHeld => ?_)
                        refine pure_ (i := 0) (N := some 69) (v := ?_) (a' := ?_) #[true, false, false, false, false, false, false, false, false, false, false, false] rfl rfl (by kernel_rfl) (fun _ _ _ h => h) (Or.inl ⟨by rfl, ?_⟩) ?_ ?_
                        rotate_left
                        · intro w'
                          go_simp
                          with_reducible rfl
                        rotate_left
                        · simp only [Act.put, List.setIfInBounds_toArray, List.set_cons_zero, List.set_cons_succ, Go.Proofs.YtiddjadfkpjpdaaGreatDoorW.PrintLast.i64_w, Go.Proofs.YtiddjadfkpjpdaaGreatDoorW.PrintLast.i32_w]
                          rfl
                        refine take_ (i := 1) (N := some 70) (v := ?_) (a' := ?_) #[true, true, false, false, false, false, false, false, false, false, false, false] rfl rfl (by kernel_rfl) (fun _ _ _ h => h) (Or.inl ⟨by rfl, ?_⟩) hHeld ?_ ?_
                        rotate_left
                        · rintro w' rfl
                          go_simp
                          with_reducible rfl
                        rotate_left
                        · simp only [Act.put, List.setIfInBounds_toArray, List.set_cons_zero, List.set_cons_succ, Go.Proofs.YtiddjadfkpjpdaaGreatDoorW.PrintLast.i64_w, Go.Proofs.YtiddjadfkpjpdaaGreatDoorW.PrintLast.i32_w]
                          rfl
                        refine pure_ (i := 2) (N := some 71) (v := ?_) (a' := ?_) #[true, true, true, false, false, false, false, false, false, false, false, false] rfl rfl (by kernel_rfl) (fun _ _ _ h => h) (Or.inl ⟨by rfl, ?_⟩) ?_ ?_
                        rotate_left
                        · intro w'
                          go_simp
                          with_reducible rfl
                        rotate_left
                        · simp only [Act.put, List.setIfInBounds_toArray, List.set_cons_zero, List.set_cons_succ, Go.Proofs.YtiddjadfkpjpdaaGreatDoorW.PrintLast.i64_w, Go.Proofs.YtiddjadfkpjpdaaGreatDoorW.PrintLast.i32_w]
                          rfl
                        refine pure_ (i := 3) (N := some 72) (v := ?_) (a' := ?_) #[true, true, true, true, false, false, false, false, false, false, false, false] rfl rfl (by kernel_rfl) (fun _ _ _ h => h) (Or.inl ⟨by rfl, ?_⟩) ?_ ?_
                        rotate_left
                        · intro w'
                          go_simp
                          with_reducible rfl
                        rotate_left
                        · simp only [Act.put, List.setIfInBounds_toArray, List.set_cons_zero, List.set_cons_succ, Go.Proofs.YtiddjadfkpjpdaaGreatDoorW.PrintLast.i64_w, Go.Proofs.YtiddjadfkpjpdaaGreatDoorW.PrintLast.i32_w]
                          rfl
                        refine take_ (i := 4) (N := some 73) (v := ?_) (a' := ?_) #[true, true, true, true, true, false, false, false, false, false, false, false] rfl rfl (by kernel_rfl) (fun _ _ _ h => h) (Or.inl ⟨by rfl, ?_⟩) hHeld ?_ ?_
                        rotate_left
                        · rintro w' rfl
                          go_simp
                          with_reducible rfl
                        rotate_left
                        · simp only [Act.put, List.setIfInBounds_toArray, List.set_cons_zero, List.set_cons_succ, Go.Proofs.YtiddjadfkpjpdaaGreatDoorW.PrintLast.i64_w, Go.Proofs.YtiddjadfkpjpdaaGreatDoorW.PrintLast.i32_w]
                          rfl
                        refine pure_ (i := 5) (N := some 74) (v := ?_) (a' := ?_) #[true, true, true, true, true, true, false, false, false, false, false, false] rfl rfl (by kernel_rfl) (fun _ _ _ h => h) (Or.inl ⟨by rfl, ?_⟩) ?_ ?_
                        rotate_left
                        · intro w'
                          go_simp
                          with_reducible rfl
                        rotate_left
                        · simp only [Act.put, List.setIfInBounds_toArray, List.set_cons_zero, List.set_cons_succ, Go.Proofs.YtiddjadfkpjpdaaGreatDoorW.PrintLast.i64_w, Go.Proofs.YtiddjadfkpjpdaaGreatDoorW.PrintLast.i32_w]
                          rfl
                        refine take_ (i := 6) (N := some 75) (v := ?_) (a' := ?_) #[true, true, true, true, true, true, true, false, false, false, false, false] rfl rfl (by kernel_rfl) (fun _ _ _ h => h) (Or.inl ⟨by rfl, ?_⟩) hHeld ?_ ?_
                        rotate_left
                        · rintro w' rfl
                          go_simp
                          with_reducible rfl
                        rotate_left
                        · simp only [Act.put, List.setIfInBounds_toArray, List.set_cons_zero, List.set_cons_succ, Go.Proofs.YtiddjadfkpjpdaaGreatDoorW.PrintLast.i64_w, Go.Proofs.YtiddjadfkpjpdaaGreatDoorW.PrintLast.i32_w]
                          rfl
                        refine pure_ (i := 7) (N := some 76) (v := ?_) (a' := ?_) #[true, true, true, true, true, true, true, true, false, false, false, false] rfl rfl (by kernel_rfl) (fun _ _ _ h => h) (Or.inl ⟨by rfl, ?_⟩) ?_ ?_
                        rotate_left
                        · intro w'
                          go_simp
                          with_reducible rfl
                        rotate_left
                        · simp only [Act.put, List.setIfInBounds_toArray, List.set_cons_zero, List.set_cons_succ, Go.Proofs.YtiddjadfkpjpdaaGreatDoorW.PrintLast.i64_w, Go.Proofs.YtiddjadfkpjpdaaGreatDoorW.PrintLast.i32_w]
                          rfl
                        refine pure_ (i := 8) (N := some 77) (v := ?_) (a' := ?_) #[true, true, true, true, true, true, true, true, true, false, false, false] rfl rfl (by kernel_rfl) (fun _ _ _ h => h) (Or.inl ⟨by rfl, ?_⟩) ?_ ?_
                        rotate_left
                        · intro w'
                          go_simp
                          with_reducible rfl
                        rotate_left
                        · simp only [Act.put, List.setIfInBounds_toArray, List.set_cons_zero, List.set_cons_succ, Go.Proofs.YtiddjadfkpjpdaaGreatDoorW.PrintLast.i64_w, Go.Proofs.YtiddjadfkpjpdaaGreatDoorW.PrintLast.i32_w]
                          rfl
                        refine take_ (i := 9) (N := some 78) (v := ?_) (a' := ?_) #[true, true, true, true, true, true, true, true, true, true, false, false] rfl rfl (by kernel_rfl) (fun _ _ _ h => h) (Or.inl ⟨by rfl, ?_⟩) hHeld ?_ ?_
                        rotate_left
                        · rintro w' rfl
                          go_simp
                          with_reducible rfl
                        rotate_left
                        · simp only [Act.put, List.setIfInBounds_toArray, List.set_cons_zero, List.set_cons_succ, Go.Proofs.YtiddjadfkpjpdaaGreatDoorW.PrintLast.i64_w, Go.Proofs.YtiddjadfkpjpdaaGreatDoorW.PrintLast.i32_w]
                          rfl
                        refine last_ (i := 10) (N := some 79) #[true, true, true, true, true, true, true, true, true, true, true, false] rfl rfl (by kernel_rfl) (by decide) (fun K hK => ?_)
                        refine goes_ Tryz.func29 (by kernel_rfl) rfl #[.agg #[.int .i64 x.f3[k].f0, .int .i64 x.f3[k].f1, .string x.f3[k].f2, .slice A3' x.f3[k].f3.length c3', .slice A4' x.f3[k].f4.length c4'], .agg #[.int .i64 y.f3[k].f0, .int .i64 y.f3[k].f1, .string y.f3[k].f2, .slice B3' y.f3[k].f3.length d3', .slice B4' y.f3[k].f4.length d4']] (by rfl) rfl rfl (by (try simp only [List.map_toArray, List.map_cons, List.map_nil]); first | done | rfl) ?_
                        refine HCALL.out.mono ?_
                        rintro e w2 ⟨rfl, b2⟩
                        refine ⟨_, rfl, ?_⟩
                        refine hK.out _ _ ?_
                        clear hK K
                        refine norm_ (a' := ?_) ?_ ?_
                        rotate_left
                        · show Act.put _ (some 79) _ = _
                          simp only [Act.put, List.setIfInBounds_toArray, List.set_cons_zero, List.set_cons_succ, Go.Proofs.YtiddjadfkpjpdaaGreatDoorW.PrintLast.i64_w, Go.Proofs.YtiddjadfkpjpdaaGreatDoorW.PrintLast.i32_w]
                          rfl
                        refine pure_ (i := 11) (N := some 80) (v := ?_) (a' := ?_) #[true, true, true, true, true, true, true, true, true, true, true, true] rfl rfl (by kernel_rfl) (fun _ _ _ h => h) (Or.inl ⟨by rfl, ?_⟩) ?_ ?_
                        rotate_left
                        · intro w'
                          go_simp
                          with_reducible rfl
                        rotate_left
                        · simp only [Act.put, List.setIfInBounds_toArray, List.set_cons_zero, List.set_cons_succ, Go.Proofs.YtiddjadfkpjpdaaGreatDoorW.PrintLast.i64_w, Go.Proofs.YtiddjadfkpjpdaaGreatDoorW.PrintLast.i32_w]
                          rfl
                        refine done_ (by kernel_rfl) ?_
                        go_wp2_with fail
                        go_ret
                        exact ⟨by rw [hr.out]; rfl, HB1.out.trans ((hbw.trans (((below_drew1 (Below.refl _ _)).trans b2).mono hbw.size)).mono HB1.out.size)⟩
                    · have hr : Hid (eqB x y = true) := eqB_true (hEQ.out (List.ext_getElem K3.out (fun j h1 h2 => hN.out j (by omega) hk)) hK.out)
                      go_wp2_with fail
                      go_ret
                      exact ⟨by rw [hr.out]; rfl, HB1.out.trans (hbw.mono HB1.out.size)⟩
            · have hr : Hid (eqB x y = false) := eqB_false (fun h => k4 (by rw [h]))
              have e0 : (x.f0 != y.f0) = false := by simp [k0]
              have e1 : (x.f1 != y.f1) = false := by simp [k1]
              have e2 : (x.f2.toList == y.f2.toList) = true := by simp [k2]
              have e3 : ((x.f3.length : Int) != y.f3.length) = false := by simp [k3]
              have e4 : ((x.f4.length : Int) != y.f4.length) = true := by simp; omega
              clear k0 k1 k2 k3
              go_enter Tryz.func29, Tryz.ntmps29
              go_wp2_with fail
              go_ret
              exact ⟨by rw [hr.out]; rfl, by rw [HW1.out]; exact HB1.out⟩
          · have hr : Hid (eqB x y = false) := eqB_false (fun h => k3 (by rw [h]))
            have e0 : (x.f0 != y.f0) = false := by simp [k0]
            have e1 : (x.f1 != y.f1) = false := by simp [k1]
            have e2 : (x.f2.toList == y.f2.toList) = true := by simp [k2]
            have e3 : ((x.f3.length : Int) != y.f3.length) = true := by simp; omega
            clear k0 k1 k2
            go_enter Tryz.func29, Tryz.ntmps29
            go_wp2_with fail
            go_ret
            exact ⟨by rw [hr.out]; rfl, by rw [HW1.out]; exact HB1.out⟩
        · have hr : Hid (eqB x y = false) := eqB_false (fun h => k2 (by rw [h]))
          have e0 : (x.f0 != y.f0) = false := by simp [k0]
          have e1 : (x.f1 != y.f1) = false := by simp [k1]
          have e2 : (x.f2.toList == y.f2.toList) = false := by
            rw [Bool.eq_false_iff]; intro h; exact k2 (ByteArray.ext (by rw [beq_iff_eq, ByteArray.toList_eq, ByteArray.toList_eq] at h; exact Array.toList_inj.1 h))
          clear k0 k1
          go_enter Tryz.func29, Tryz.ntmps29
          go_wp2_with fail
          go_ret
          exact ⟨by rw [hr.out]; rfl, by rw [HW1.out]; exact HB1.out⟩
      · have hr : Hid (eqB x y = false) := eqB_false (fun h => k1 (by rw [h]))
        have e0 : (x.f0 != y.f0) = false := by simp [k0]
        have e1 : (x.f1 != y.f1) = true := by simp [k1]
        clear k0
        go_enter Tryz.func29, Tryz.ntmps29
        go_wp2_with fail
        go_ret
        exact ⟨by rw [hr.out]; rfl, by rw [HW1.out]; exact HB1.out⟩
    · have hr : Hid (eqB x y = false) := eqB_false (fun h => k0 (by rw [h]))
      have e0 : (x.f0 != y.f0) = true := by simp [k0]
      go_enter Tryz.func29, Tryz.ntmps29
      go_wp2_with fail
      go_ret
      exact ⟨by rw [hr.out]; rfl, by rw [HW1.out]; exact HB1.out⟩
end Go.Proofs.YtiddjadfkpjpdaaGreatDoor.Q
