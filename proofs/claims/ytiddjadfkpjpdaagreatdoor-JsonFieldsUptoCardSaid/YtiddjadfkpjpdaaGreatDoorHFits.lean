/- json.fits: is a value good, and at most so deep? -/
import Derived.Test.YtiddjadfkpjpdaaGreatDoorHBare
import Derived.Test.YtiddjadfkpjpdaaGreatDoorHUnlike
import Derived.Lib.Hide
namespace Go.Proofs.YtiddjadfkpjpdaaGreatDoor.Q
open Go.RowKit Go.Proofs.YtiddjadfkpjpdaaGreatDoorW.PrintWords
/-- The place of the first element that p holds of; -1: there is none. -/
def idxB {α : Type} (p : α → Bool) (l : List α) : Int := match l.findIdx? p with | some i => (i : Int) | none => -1
theorem idxB_some {α : Type} (p : α → Bool) (l : List α) (k : Nat) (hk : k < l.length) (h : p l[k] = true) (hn : ∀ j, (hj : j < k) → p (l[j]'(by omega)) = false) : idxB p l = k := by
  unfold idxB
  rw [List.findIdx?_eq_some_iff_getElem.2 ⟨hk, h, fun j hj => by simp [hn j hj]⟩]
theorem idxB_none {α : Type} (p : α → Bool) (l : List α) (hn : ∀ j, (hj : j < l.length) → p l[j] = false) : idxB p l = -1 := by
  unfold idxB
  rw [List.findIdx?_eq_none_iff.2 (fun x hx => by obtain ⟨i, hi, rfl⟩ := List.getElem_of_mem hx; exact hn i hi)]
set_option maxHeartbeats 4000000 in
set_option maxRecDepth 100000 in
set_option linter.unusedVariables false in
theorem indexFunc_calls (p : S38 → Bool) (cap : Value) (l : List S38) (A : Option Addr) (c : Nat) (w : World) (hl : l.length ≤ c) (hc : k38.C w A l.length l) (hm : l.length ≤ 1099511627776)
    (H : ∀ i, (hi : i < l.length) → ∀ A3 c3 A4 c4 w', Below w.heap.size w w' → VC w' l[i] A3 c3 A4 c4 →
      Calls Tryz.prog 106 #[.agg #[.int .i64 l[i].f0, .int .i64 l[i].f1, .string l[i].f2, .slice A3 l[i].f3.length c3, .slice A4 l[i].f4.length c4], cap] w' fun e w'' => e = .returned (.bool (p l[i])) ∧ Below w'.heap.size w' w'') :
    Calls Tryz.prog 132 #[.slice A l.length c, .func (.func 106) #[] #[cap]] w fun e w' => e = .returned (.int .i64 (idxB p l)) ∧ Below w.heap.size w w' := by
  have HH := Lib.hid H
  clear H
  go_enter Tryz.func132, Tryz.ntmps132
  go_wp2_with fail
  go_loopw [8] (fun i wr => ∃ k : Nat, k ≤ l.length ∧ i = .int .i64 k ∧ Hid (∀ j, (hj : j < k) → (hk : k ≤ l.length) → p (l[j]'(by omega)) = false) ∧ Below w.heap.size w wr) (fun i _ => l.length - (intOf i).toNat)
  case atStart => exact ⟨0, Nat.zero_le _, rfl, fun j hj => by omega, Below.refl _ _⟩
  case round =>
    obtain ⟨k, hk, rfl, hN, hbw⟩ := hrel
    by_cases hlt : k < l.length
    · obtain ⟨b, o, A3, c3, A4, c4, rfl, hb, h0, h1, h2, h3, h4, hv⟩ := at_val (Kd.C_below hc hbw) k hlt
      go_wp2_with fail
      refine (HH.out k hlt _ _ _ _ _ hbw hv).mono ?_
      rintro e w2 ⟨rfl, b2⟩
      by_cases hp : p l[k] = true
      · rw [hp]
        go_wp2_with fail
        go_ret
        exact ⟨by rw [idxB_some p l k hlt hp (fun j hj => hN.out j hj hk)]; rfl, hbw.trans (b2.mono hbw.size)⟩
      · have hp' : p l[k] = false := by simpa using hp
        rw [hp']
        go_wp2_with fail
        go_roundw
        case rel =>
          refine ⟨k + 1, by omega, by go_num, ?_, hbw.trans (b2.mono hbw.size)⟩
          intro j hj hk1
          by_cases e : j = k
          · subst e; exact hp'
          · exact hN.out j (by omega) hk
        case measure => simp [intOf]; omega
    · go_wp2_with fail
      go_ret
      exact ⟨by rw [idxB_none p l (fun j hj => hN.out j (by omega) hk)]; rfl, hbw⟩
theorem idxB_any {α : Type} (p : α → Bool) (l : List α) : decide (idxB p l ≥ 0) = l.any p := by
  unfold idxB
  cases h : l.findIdx? p with
  | none =>
    have := List.findIdx?_eq_none_iff.1 h
    rw [Bool.eq_iff_iff]; simp
    intro x hx; simp [this x hx]
  | some i =>
    obtain ⟨hi, hp, _⟩ := List.findIdx?_eq_some_iff_getElem.1 h
    rw [Bool.eq_iff_iff]; simp
    exact ⟨l[i], List.getElem_mem hi, by simpa using hp⟩
set_option maxHeartbeats 4000000 in
set_option maxRecDepth 100000 in
set_option linter.unusedVariables false in
theorem containsFunc_calls (p : S38 → Bool) (cap : Value) (l : List S38) (A : Option Addr) (c : Nat) (w : World) (hl : l.length ≤ c) (hc : k38.C w A l.length l) (hm : l.length ≤ 1099511627776)
    (H : ∀ i, (hi : i < l.length) → ∀ A3 c3 A4 c4 w', Below w.heap.size w w' → VC w' l[i] A3 c3 A4 c4 →
      Calls Tryz.prog 106 #[.agg #[.int .i64 l[i].f0, .int .i64 l[i].f1, .string l[i].f2, .slice A3 l[i].f3.length c3, .slice A4 l[i].f4.length c4], cap] w' fun e w'' => e = .returned (.bool (p l[i])) ∧ Below w'.heap.size w' w'') :
    Calls Tryz.prog 105 #[.slice A l.length c, .func (.func 106) #[] #[cap]] w fun e w' => e = .returned (.bool (l.any p)) ∧ Below w.heap.size w w' := by
  have HH := indexFunc_calls p cap l A c w hl hc hm H
  have H2 := Lib.hid HH
  clear H HH
  go_enter Tryz.func105, Tryz.ntmps105
  go_wp2_with fail
  refine H2.out.mono ?_
  rintro e w2 ⟨rfl, b2⟩
  go_wp2_with fail
  go_ret
  exact ⟨by rw [← idxB_any]; rfl, b2⟩
/-- is a value good, and at most so deep? -/
def headB (x : S38) : Bool := decide (1 ≤ x.f0) && decide (x.f0 ≤ 6) && bareB x.f0 x.f1 x.f2 x.f3.length && (if x.f0 = 6 then decide (x.f4.length = x.f3.length) && unlikeL (x.f4.map byt) else decide (x.f4.length = 0))
def fitsB : Nat → S38 → Bool
  | 0, _ => false
  | d + 1, x => headB x && !x.f3.any fun y => !fitsB d y
theorem fits1_of (x : S38) (A3 : Option Addr) (c3 : Nat) (A4 : Option Addr) (c4 : Nat) (cb : Nat) (deep : Int) (w : World) (p : Bool) (hd : w.cell? ⟨cb, 0, none⟩ = some (.int .i64 deep)) (h1 : 1 ≤ deep) (h2 : deep ≤ 1099511627776)
    (h : ∀ w', Below w.heap.size w w' → Calls Tryz.prog 66 #[.agg #[.int .i64 x.f0, .int .i64 x.f1, .string x.f2, .slice A3 x.f3.length c3, .slice A4 x.f4.length c4], .int .i64 (deep - 1)] w' fun e w'' => e = .returned (.bool p) ∧ Below w'.heap.size w' w'') :
    Calls Tryz.prog 106 #[.agg #[.int .i64 x.f0, .int .i64 x.f1, .string x.f2, .slice A3 x.f3.length c3, .slice A4 x.f4.length c4], .pointer (some ⟨cb, 0, none⟩)] w fun e w' => e = .returned (.bool (!p)) ∧ Below w.heap.size w w' := by
  have HH := Lib.hid h
  clear h
  have hlt := World.block_lt_of_cell? w _ hd
  have hd2 : ∀ o, (w.alloc o).cell? ⟨cb, 0, none⟩ = some (.int .i64 deep) := fun o => (((Below.refl _ w).alloc (Nat.le_refl _) o).cell (p := ⟨cb, 0, none⟩) hlt).trans hd
  clear hd
  go_enter Tryz.func106, Tryz.ntmps106
  go_wp2_with fail
  refine (HH.out _ ((Below.refl _ w).alloc (Nat.le_refl _) _)).mono ?_
  rintro e w2 ⟨rfl, b2⟩
  go_wp2_with fail
  go_ret
  exact ⟨rfl, ((Below.refl _ w).alloc (Nat.le_refl _) _).trans (b2.mono (by simp))⟩
set_option maxHeartbeats 8000000 in
set_option maxRecDepth 100000 in
theorem fits_any (d : Nat) : ∀ (deep : Int) (x : S38) (A3 : Option Addr) (c3 : Nat) (A4 : Option Addr) (c4 : Nat) (w : World), deep ≤ d → -1099511627776 ≤ deep → deep ≤ 1099511627776 → VC w x A3 c3 A4 c4 → x.wt ≤ 1099511627776 →
    Calls Tryz.prog 66 #[.agg #[.int .i64 x.f0, .int .i64 x.f1, .string x.f2, .slice A3 x.f3.length c3, .slice A4 x.f4.length c4], .int .i64 deep] w fun e w' => e = .returned (.bool (fitsB deep.toNat x)) ∧ Below w.heap.size w w' := by
  induction d with
  | zero =>
    intro deep x A3 c3 A4 c4 w hd h0 h1 hv hw
    have hf : Hid (fitsB deep.toNat x = false) := by
      show _ = _
      rw [show deep.toNat = 0 from by omega]; rfl
    go_enter Tryz.func66, Tryz.ntmps66
    go_wp2_with fail
    go_ret
    exact ⟨by rw [hf.out]; rfl, ((Below.refl _ w).alloc (Nat.le_refl _) _).alloc (by simp) _⟩
  | succ d ih =>
    intro deep x A3 c3 A4 c4 w hd h0 h1 hv hw
    have IH := Lib.hid ih
    clear ih
    by_cases hd1 : deep < 1
    · have hf : Hid (fitsB deep.toNat x = false) := by
        show _ = _
        rw [show deep.toNat = 0 from by omega]; rfl
      go_enter Tryz.func66, Tryz.ntmps66
      go_wp2_with fail
      go_ret
      exact ⟨by rw [hf.out]; rfl, ((Below.refl _ w).alloc (Nat.le_refl _) _).alloc (by simp) _⟩
    · have hfs : Hid (fitsB deep.toNat x = (headB x && !x.f3.any fun y => !fitsB (deep.toNat - 1) y)) := by
        show _ = _
        obtain ⟨e, he⟩ : ∃ e, deep.toNat = e + 1 := ⟨deep.toNat - 1, by omega⟩
        rw [he, show e + 1 - 1 = e from by omega]; rfl
      by_cases hk1 : x.f0 < 1
      · have hh : Hid (headB x = false) := by show _ = _; unfold headB; rw [decide_eq_false (show ¬ 1 ≤ x.f0 by omega)]; rfl
        go_enter Tryz.func66, Tryz.ntmps66
        go_wp2_with fail
        go_ret
        exact ⟨by rw [hfs.out, hh.out]; rfl, ((Below.refl _ w).alloc (Nat.le_refl _) _).alloc (by simp) _⟩
      · by_cases hk6 : 6 < x.f0
        · have hh : Hid (headB x = false) := by show _ = _; unfold headB; rw [decide_eq_false (show ¬ x.f0 ≤ 6 by omega)]; simp
          go_enter Tryz.func66, Tryz.ntmps66
          go_wp2_with fail
          go_ret
          exact ⟨by rw [hfs.out, hh.out]; rfl, ((Below.refl _ w).alloc (Nat.le_refl _) _).alloc (by simp) _⟩
        · have hb12 : Below w.heap.size w ((w.alloc (Obj.cells #[Value.int IntKind.i64 x.f0, Value.int IntKind.i64 x.f1, Value.string x.f2, Value.slice A3 x.f3.length c3, Value.slice A4 x.f4.length c4] 38)).alloc (Obj.cells #[Value.int IntKind.i64 deep] 3)) := ((Below.refl _ w).alloc (Nat.le_refl _) _).alloc (by simp) _
          have hh : Hid (headB x = (bareB x.f0 x.f1 x.f2 x.f3.length && (if x.f0 = 6 then decide (x.f4.length = x.f3.length) && unlikeL (x.f4.map byt) else decide (x.f4.length = 0)))) := by
            show _ = _
            unfold headB; rw [decide_eq_true (show 1 ≤ x.f0 by omega), decide_eq_true (show x.f0 ≤ 6 by omega)]; rfl
          go_enter Tryz.func66, Tryz.ntmps66
          go_wp2_with fail
          refine (bare_calls _ _ _ _ _ _ _ _ _ _).mono ?_
          rintro e w2 ⟨rfl, b2⟩
          have hb2 := hb12.trans (b2.mono (by simp; omega))
          have hs2 : w.heap.size + 2 ≤ w2.heap.size := by have := b2.size; simp at this; omega
          have k0 : w2.cell? ⟨w.heap.size, 0, none⟩ = some (.int .i64 x.f0) := (b2.cell (p := ⟨w.heap.size, 0, none⟩) (by simp; omega)).trans (by simp)
          have k3 : w2.cell? ⟨w.heap.size, 3, none⟩ = some (.slice A3 x.f3.length c3) := (b2.cell (p := ⟨w.heap.size, 3, none⟩) (by simp; omega)).trans (by simp)
          have k4 : w2.cell? ⟨w.heap.size, 4, none⟩ = some (.slice A4 x.f4.length c4) := (b2.cell (p := ⟨w.heap.size, 4, none⟩) (by simp; omega)).trans (by simp)
          have kd : w2.cell? ⟨w.heap.size + 1, 0, none⟩ = some (.int .i64 deep) := (b2.cell (p := ⟨w.heap.size + 1, 0, none⟩) (by simp)).trans (by simp)
          clear b2 hb12
          have hv2 := hv.below hb2
          have hl3 := wt_len3 x
          have hl4 := wt_len4 x
          by_cases hbr : bareB x.f0 x.f1 x.f2 x.f3.length = true
          · rw [hbr]
            have hcont : Hid (∀ w3, Below w2.heap.size w2 w3 → Calls Tryz.prog 105 #[.slice A3 x.f3.length c3, .func (.func 106) #[] #[.pointer (some ⟨w.heap.size + 1, 0, none⟩)]] w3 fun e w' => e = .returned (.bool (x.f3.any fun y => !fitsB (deep.toNat - 1) y)) ∧ Below w3.heap.size w3 w') := by
              intro w3 hb3
              refine containsFunc_calls _ _ x.f3 A3 c3 w3 hv2.l3 (Kd.C_below hv2.g3 hb3) (by omega) ?_
              intro i hi A3' c3' A4' c4' w4 hb4 hv4
              have hw4 := wt_elem x i hi
              refine fits1_of x.f3[i] A3' c3' A4' c4' (w.heap.size + 1) deep w4 (fitsB (deep.toNat - 1) x.f3[i]) ?_ (by omega) h1 ?_
              · exact (hb4.cell (p := ⟨w.heap.size + 1, 0, none⟩) (by have := hb3.size; show w.heap.size + 1 < _; omega)).trans ((hb3.cell (p := ⟨w.heap.size + 1, 0, none⟩) (by show w.heap.size + 1 < _; omega)).trans kd)
              · intro w5 hb5
                have z := IH.out (deep - 1) _ _ _ _ _ w5 (by omega) (by omega) (by omega) (hv4.below hb5) (by omega)
                rw [show (deep - 1).toNat = deep.toNat - 1 from by omega] at z
                exact z
            clear IH
            by_cases hk : x.f0 = 6
            · have e6 : (x.f0 == 6) = true := by simp [hk]
              have n6 : (x.f0 != 6) = false := by simp [hk]
              have HK := Lib.hid hk
              clear hk
              by_cases hlen : x.f4.length = x.f3.length
              · have e1 : ((x.f4.length : Int) != x.f3.length) = false := by rw [hlen]; simp
                have HL := Lib.hid hlen
                clear hlen
                go_wp2_with fail
                refine (unlike_calls _ _ _ _ hv2.l4 hv2.g4 (by omega)).mono ?_
                rintro e w3 ⟨rfl, b3⟩
                have q3 : w3.cell? ⟨w.heap.size, 3, none⟩ = some (.slice A3 x.f3.length c3) := (b3.cell (p := ⟨w.heap.size, 3, none⟩) (by show w.heap.size < _; omega)).trans k3
                have q0 : w3.cell? ⟨w.heap.size, 0, none⟩ = some (.int .i64 x.f0) := (b3.cell (p := ⟨w.heap.size, 0, none⟩) (by show w.heap.size < _; omega)).trans k0
                by_cases hu : unlikeL (x.f4.map byt) = true
                · rw [hu]
                  go_wp2_with fail
                  refine (hcont.out w3 b3).mono ?_
                  rintro e w4 ⟨rfl, b4⟩
                  go_wp2_with fail
                  go_ret
                  exact ⟨by rw [hfs.out, hh.out, hbr, if_pos HK.out, hu, decide_eq_true HL.out]; rfl, hb2.trans ((b3.trans (b4.mono b3.size)).mono hb2.size)⟩
                · have hu' : unlikeL (x.f4.map byt) = false := by simpa using hu
                  rw [hu']
                  go_wp2_with fail
                  go_ret
                  exact ⟨by rw [hfs.out, hh.out, hbr, if_pos HK.out, hu']; simp, hb2.trans (b3.mono hb2.size)⟩
              · have e1 : ((x.f4.length : Int) != x.f3.length) = true := by simp; omega
                go_wp2_with fail
                go_ret
                exact ⟨by rw [hfs.out, hh.out, hbr, if_pos HK.out, decide_eq_false hlen]; simp, hb2⟩
            · have e6 : (x.f0 == 6) = false := by simp [hk]
              have n6 : (x.f0 != 6) = true := by simp [hk]
              by_cases hz : x.f4.length = 0
              · have g1 : ¬ (0 < (x.f4.length : Int)) := by omega
                have HZ := Lib.hid hz
                clear hz
                go_wp2_with fail
                refine (hcont.out w2 (Below.refl _ _)).mono ?_
                rintro e w4 ⟨rfl, b4⟩
                go_wp2_with fail
                go_ret
                exact ⟨by rw [hfs.out, hh.out, hbr, if_neg hk, decide_eq_true HZ.out]; rfl, hb2.trans (b4.mono hb2.size)⟩
              · have g1 : 0 < (x.f4.length : Int) := by omega
                go_wp2_with fail
                go_ret
                exact ⟨by rw [hfs.out, hh.out, hbr, if_neg hk, decide_eq_false hz]; rfl, hb2⟩
          · have hbr' : bareB x.f0 x.f1 x.f2 x.f3.length = false := by simpa using hbr
            rw [hbr']
            go_wp2_with fail
            go_ret
            exact ⟨by rw [hfs.out, hh.out, hbr']; rfl, hb2⟩
end Go.Proofs.YtiddjadfkpjpdaaGreatDoor.Q
