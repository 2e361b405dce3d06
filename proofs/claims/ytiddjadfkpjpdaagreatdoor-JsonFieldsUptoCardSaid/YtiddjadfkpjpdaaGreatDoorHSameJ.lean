/- json.Same: are two values the same? slices.Equal over texts, slices.EqualFunc over values. -/
import Derived.Test.YtiddjadfkpjpdaaGreatDoorHSame
set_option linter.unusedVariables false
set_option linter.unusedSimpArgs false
namespace Go.Proofs.YtiddjadfkpjpdaaGreatDoor.Q
open Go.RowKit Go.Proofs.YtiddjadfkpjpdaaGreatDoorW.PrintWords Go.Proofs.YtiddjadfkpjpdaaGreatDoorW.PrintLast
theorem str_ne {a b : ByteArray} (h : a ≠ b) : (a.toList == b.toList) = false := by
  rw [Bool.eq_false_iff]; intro h'; exact h (ByteArray.ext (by rw [beq_iff_eq, ByteArray.toList_eq, ByteArray.toList_eq] at h'; exact Array.toList_inj.1 h'))
open Classical in
noncomputable def lEq {α : Type} (x y : List α) : Bool := decide (x = y)
theorem lEq_true {α : Type} {x y : List α} (h : x = y) : lEq x y = true := by unfold lEq; simp [h]
theorem lEq_false {α : Type} {x y : List α} (h : x ≠ y) : lEq x y = false := by unfold lEq; simp [h]
set_option maxRecDepth 100000 in
set_option maxHeartbeats 8000000 in
theorem keq_calls (xs ys : List ByteArray) (A : Option Addr) (c : Nat) (B : Option Addr) (d : Nat) (w : World) (hx : Kd.string.C w A xs.length xs) (hy : Kd.string.C w B ys.length ys) (hm : xs.length ≤ 1099511627776) :
    Calls Tryz.prog 76 #[.slice A xs.length c, .slice B ys.length d] w fun e w' => e = .returned (.bool (lEq xs ys)) ∧ Below w.heap.size w w' := by
  by_cases hlen : xs.length = ys.length
  · have e1 : ((xs.length : Int) != ys.length) = false := by simp [hlen]
    have HL := Lib.hid hlen
    clear hlen
    go_enter Tryz.func76, Tryz.ntmps76
    go_wp2_with fail
    go_loopw [13] (fun i wr => ∃ k : Nat, k ≤ xs.length ∧ i = .int .i64 k ∧ Hid (∀ j, (hj : j < k) → (hk : k ≤ xs.length) → xs[j]'(by omega) = ys[j]'(by have := HL.out; omega)) ∧ Below w.heap.size w wr) (fun i _ => xs.length - (intOf i).toNat)
    case atStart => exact ⟨0, Nat.zero_le _, rfl, fun j hj => by omega, Below.refl _ _⟩
    case round =>
      obtain ⟨k, hk, rfl, hN, hbw⟩ := hrel
      by_cases hlt : k < xs.length
      · have hlt2 : k < ys.length := by have := HL.out; omega
        obtain ⟨b1, o1, rfl, hb1, hc1⟩ := at_str (Kd.C_below hx hbw) k hlt
        obtain ⟨b2, o2, rfl, hb2, hc2⟩ := at_str (Kd.C_below hy hbw) k hlt2
        by_cases he : xs[k] = ys[k]
        · have e5 : (xs[k].toList == ys[k].toList) = true := by simp [he]
          have HE := Lib.hid he
          clear he
          go_wp2_with fail
          go_quiet (fail)
          go_wp2_with fail
          go_roundw
          case rel =>
            refine ⟨k + 1, by omega, by go_num, ?_, hbw.trans ((pw_below_drewN (Below.refl _ _) _).mono hbw.size)⟩
            intro j hj hk1
            by_cases e : j = k
            · subst e; exact HE.out
            · exact hN.out j (by omega) hk
          case measure => simp [intOf]; omega
        · have e5 := str_ne he
          have hr : Hid (lEq xs ys = false) := lEq_false (fun h => he (by subst h; rfl))
          go_wp2_with fail
          go_quiet (fail)
          go_wp2_with fail
          go_ret
          exact ⟨by rw [hr.out]; rfl, hbw.trans ((pw_below_drewN (Below.refl _ _) _).mono hbw.size)⟩
      · have hr : Hid (lEq xs ys = true) := lEq_true (List.ext_getElem HL.out (fun j h1 h2 => hN.out j (by omega) hk))
        clear hN
        go_wp2_with fail
        go_ret
        exact ⟨by rw [hr.out]; rfl, hbw⟩
  · have e1 : ((xs.length : Int) != ys.length) = true := by simp; omega
    have hr : Hid (lEq xs ys = false) := lEq_false (fun h => hlen (by rw [h]))
    go_enter Tryz.func76, Tryz.ntmps76
    go_wp2_with fail
    go_ret
    exact ⟨by rw [hr.out]; rfl, Below.refl _ _⟩
set_option maxRecDepth 100000 in
set_option maxHeartbeats 8000000 in
theorem eqf_calls (xs ys : List S38) (A : Option Addr) (c : Nat) (B : Option Addr) (d : Nat) (w : World) (hx : k38.C w A xs.length xs) (hy : k38.C w B ys.length ys) (hm : xs.length ≤ 1099511627776)
    (H : ∀ i, (hi : i < xs.length) → (hi2 : i < ys.length) → ∀ A3 c3 A4 c4 B3 d3 B4 d4 w', VC w' xs[i] A3 c3 A4 c4 → VC w' ys[i] B3 d3 B4 d4 →
      Calls Tryz.prog 39 #[.agg #[.int .i64 xs[i].f0, .int .i64 xs[i].f1, .string xs[i].f2, .slice A3 xs[i].f3.length c3, .slice A4 xs[i].f4.length c4], .agg #[.int .i64 ys[i].f0, .int .i64 ys[i].f1, .string ys[i].f2, .slice B3 ys[i].f3.length d3, .slice B4 ys[i].f4.length d4]] w'
        fun e w'' => e = .returned (.bool (eqB xs[i] ys[i])) ∧ Below w'.heap.size w' w'') :
    Calls Tryz.prog 77 #[.slice A xs.length c, .slice B ys.length d, .func (.func 39) #[] #[]] w fun e w' => e = .returned (.bool (lEq xs ys)) ∧ Below w.heap.size w w' := by
  have HH := Lib.hid H
  clear H
  by_cases hlen : xs.length = ys.length
  · have e1 : ((xs.length : Int) != ys.length) = false := by simp [hlen]
    have HL := Lib.hid hlen
    clear hlen
    go_enter Tryz.func77, Tryz.ntmps77
    go_wp2_with fail
    go_loopw [17] (fun i wr => ∃ k : Nat, k ≤ xs.length ∧ i = .int .i64 k ∧ Hid (∀ j, (hj : j < k) → (hk : k ≤ xs.length) → xs[j]'(by omega) = ys[j]'(by have := HL.out; omega)) ∧ Below w.heap.size w wr) (fun i _ => xs.length - (intOf i).toNat)
    case atStart => exact ⟨0, Nat.zero_le _, rfl, fun j hj => by omega, Below.refl _ _⟩
    case round =>
      obtain ⟨k, hk, rfl, hN, hbw⟩ := hrel
      by_cases hlt : k < xs.length
      · have hlt2 : k < ys.length := by have := HL.out; omega
        obtain ⟨b1, o1, A3, c3, A4, c4, rfl, hb1, h0, h1, h2, h3, h4, hv⟩ := at_val (Kd.C_below hx hbw) k hlt
        obtain ⟨b2, o2, B3, d3, B4, d4, rfl, hb2, g0, g1, g2, g3, g4, gv⟩ := at_val (Kd.C_below hy hbw) k hlt2
        by_cases he : xs[k] = ys[k]
        · have e5 : eqB xs[k] ys[k] = true := eqB_true he
          have HE := Lib.hid he
          clear he
          go_wp2_with fail
          refine (HH.out k hlt hlt2 _ _ _ _ _ _ _ _ _ (hv.below (ba2 wr _ _)) (gv.below (ba2 wr _ _))).mono ?_
          rintro e w2 ⟨rfl, b2⟩
          have hbw2 := hbw.trans (((ba2 wr _ _).trans (b2.mono (by simp; omega))).mono hbw.size)
          rw [e5]
          go_wp2_with fail
          go_roundw
          case rel =>
            refine ⟨k + 1, by omega, by go_num, ?_, hbw2⟩
            intro j hj hk1
            by_cases e : j = k
            · subst e; exact HE.out
            · exact hN.out j (by omega) hk
          case measure => simp [intOf]; omega
        · have e5 : eqB xs[k] ys[k] = false := eqB_false he
          have hr : Hid (lEq xs ys = false) := lEq_false (fun h => he (by subst h; rfl))
          go_wp2_with fail
          refine (HH.out k hlt hlt2 _ _ _ _ _ _ _ _ _ (hv.below (ba2 wr _ _)) (gv.below (ba2 wr _ _))).mono ?_
          rintro e w2 ⟨rfl, b2⟩
          have hbw2 := hbw.trans (((ba2 wr _ _).trans (b2.mono (by simp; omega))).mono hbw.size)
          rw [e5]
          go_wp2_with fail
          go_ret
          exact ⟨by rw [hr.out]; rfl, hbw2⟩
      · have hr : Hid (lEq xs ys = true) := lEq_true (List.ext_getElem HL.out (fun j h1 h2 => hN.out j (by omega) hk))
        clear hN
        go_wp2_with fail
        go_ret
        exact ⟨by rw [hr.out]; rfl, hbw⟩
  · have e1 : ((xs.length : Int) != ys.length) = true := by simp; omega
    have hr : Hid (lEq xs ys = false) := lEq_false (fun h => hlen (by rw [h]))
    go_enter Tryz.func77, Tryz.ntmps77
    go_wp2_with fail
    go_ret
    exact ⟨by rw [hr.out]; rfl, Below.refl _ _⟩
set_option maxRecDepth 100000 in
set_option maxHeartbeats 8000000 in
theorem jsame_any (n : Nat) : ∀ (x y : S38) (A3 : Option Addr) (c3 : Nat) (A4 : Option Addr) (c4 : Nat) (B3 : Option Addr) (d3 : Nat) (B4 : Option Addr) (d4 : Nat) (w : World), x.wt ≤ n → VC w x A3 c3 A4 c4 → VC w y B3 d3 B4 d4 → x.wt ≤ 1099511627776 → y.wt ≤ 1099511627776 →
    Calls Tryz.prog 39 #[.agg #[.int .i64 x.f0, .int .i64 x.f1, .string x.f2, .slice A3 x.f3.length c3, .slice A4 x.f4.length c4], .agg #[.int .i64 y.f0, .int .i64 y.f1, .string y.f2, .slice B3 y.f3.length d3, .slice B4 y.f4.length d4]] w
      fun e w' => e = .returned (.bool (eqB x y)) ∧ Below w.heap.size w w' := by
  induction n with
  | zero => intro x y A3 c3 A4 c4 B3 d3 B4 d4 w h; have := wt_pos x; omega
  | succ n ih =>
    intro x y A3 c3 A4 c4 B3 d3 B4 d4 w hn hx hy hwx hwy
    have hl3 := wt_len3 x
    have hl4 := wt_len4 x
    have HX : ∀ w', Below w.heap.size w w' → VC w' x A3 c3 A4 c4 := fun w' h => hx.below h
    have HY : ∀ w', Below w.heap.size w w' → VC w' y B3 d3 B4 d4 := fun w' h => hy.below h
    have HXX := Lib.hid HX
    have HYY := Lib.hid HY
    have IH := Lib.hid ih
    clear HX HY hx hy ih
    by_cases k0 : x.f0 = y.f0
    · by_cases k1 : x.f1 = y.f1
      · by_cases k2 : x.f2 = y.f2
        · have e0 : (x.f0 == y.f0) = true := by simp [k0]
          have e1 : (x.f1 == y.f1) = true := by simp [k1]
          have e2 : (x.f2.toList == y.f2.toList) = true := by simp [k2]
          have hEQ : Hid (x.f3 = y.f3 → x.f4 = y.f4 → x = y) := fun h3 h4 => S38.ext' k0 k1 k2 h3 h4
          clear k0 k1 k2
          by_cases k4 : x.f4 = y.f4
          · have e4 : lEq x.f4 y.f4 = true := lEq_true k4
            have K4 := Lib.hid k4
            clear k4
            go_enter Tryz.func39, Tryz.ntmps39
            go_wp2_with fail
            refine (keq_calls x.f4 y.f4 _ _ _ _ _ (HXX.out _ (ba2 _ _ _)).g4 (HYY.out _ (ba2 _ _ _)).g4 (by omega)).mono ?_
            rintro e w2 ⟨rfl, b2⟩
            rw [e4]
            have hb2 : Below w.heap.size w w2 := (ba2 _ _ _).trans (b2.mono (by simp; omega))
            have hs2 : w.heap.size + 2 ≤ w2.heap.size := by have := b2.size; simp at this; omega
            have p3 : w2.cell? ⟨w.heap.size, 3, none⟩ = some (.slice A3 x.f3.length c3) := (b2.cell (p := ⟨w.heap.size, 3, none⟩) (by simp; omega)).trans (by simp)
            have q3 : w2.cell? ⟨w.heap.size + 1, 3, none⟩ = some (.slice B3 y.f3.length d3) := (b2.cell (p := ⟨w.heap.size + 1, 3, none⟩) (by simp)).trans (by simp)
            have HB2 := Lib.hid hb2
            clear b2 hb2
            have HC := Lib.hid (eqf_calls x.f3 y.f3 A3 c3 B3 d3 w2 (HXX.out _ HB2.out).g3 (HYY.out _ HB2.out).g3 (by omega) (fun i hi hi2 A3' c3' A4' c4' B3' d3' B4' d4' w' hv gv => by
              have hwi := wt_elem x i hi
              have gwi := wt_elem y i hi2
              exact IH.out _ _ _ _ _ _ _ _ _ _ _ (by omega) hv gv (by omega) (by omega)))
            by_cases k3 : x.f3 = y.f3
            · have hr : Hid (eqB x y = true) := eqB_true (hEQ.out k3 K4.out)
              rw [lEq_true k3] at HC
              clear k3
              go_wp2_with fail
              refine HC.out.mono ?_
              rintro e w3 ⟨rfl, b3⟩
              go_wp2_with fail
              go_ret
              exact ⟨by rw [hr.out]; rfl, HB2.out.trans (b3.mono HB2.out.size)⟩
            · have hr : Hid (eqB x y = false) := eqB_false (fun h => k3 (by rw [h]))
              rw [lEq_false k3] at HC
              clear k3
              go_wp2_with fail
              refine HC.out.mono ?_
              rintro e w3 ⟨rfl, b3⟩
              go_wp2_with fail
              go_ret
              exact ⟨by rw [hr.out]; rfl, HB2.out.trans (b3.mono HB2.out.size)⟩
          · have hr : Hid (eqB x y = false) := eqB_false (fun h => k4 (by rw [h]))
            have e4 : lEq x.f4 y.f4 = false := lEq_false k4
            clear k4
            go_enter Tryz.func39, Tryz.ntmps39
            go_wp2_with fail
            refine (keq_calls x.f4 y.f4 _ _ _ _ _ (HXX.out _ (ba2 _ _ _)).g4 (HYY.out _ (ba2 _ _ _)).g4 (by omega)).mono ?_
            rintro e w2 ⟨rfl, b2⟩
            rw [e4]
            have hb2 : Below w.heap.size w w2 := (ba2 _ _ _).trans (b2.mono (by simp; omega))
            clear b2
            go_wp2_with fail
            go_ret
            exact ⟨by rw [hr.out]; rfl, hb2⟩
        · have hr : Hid (eqB x y = false) := eqB_false (fun h => k2 (by rw [h]))
          have e0 : (x.f0 == y.f0) = true := by simp [k0]
          have e1 : (x.f1 == y.f1) = true := by simp [k1]
          have e2 := str_ne k2
          clear k0 k1
          go_enter Tryz.func39, Tryz.ntmps39
          go_wp2_with fail
          go_ret
          exact ⟨by rw [hr.out]; rfl, ba2 _ _ _⟩
      · have hr : Hid (eqB x y = false) := eqB_false (fun h => k1 (by rw [h]))
        have e0 : (x.f0 == y.f0) = true := by simp [k0]
        have e1 : (x.f1 == y.f1) = false := by simp [k1]
        clear k0
        go_enter Tryz.func39, Tryz.ntmps39
        go_wp2_with fail
        go_ret
        exact ⟨by rw [hr.out]; rfl, ba2 _ _ _⟩
    · have hr : Hid (eqB x y = false) := eqB_false (fun h => k0 (by rw [h]))
      have e0 : (x.f0 == y.f0) = false := by simp [k0]
      go_enter Tryz.func39, Tryz.ntmps39
      go_wp2_with fail
      go_ret
      exact ⟨by rw [hr.out]; rfl, ba2 _ _ _⟩
end Go.Proofs.YtiddjadfkpjpdaaGreatDoor.Q
