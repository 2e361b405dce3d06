/- law05.small: it ends, whatever the value, and writes nothing old. -/
import Derived.Test.YtiddjadfkpjpdaaGreatDoorHSame
import Derived.Test.YtiddjadfkpjpdaaGreatDoorHRObj
set_option linter.unusedVariables false
set_option linter.unusedSimpArgs false
namespace Go.Proofs.YtiddjadfkpjpdaaGreatDoor.Q
open Go.RowKit Go.Proofs.YtiddjadfkpjpdaaGreatDoorW.PrintWords Go.Proofs.YtiddjadfkpjpdaaGreatDoorW.PrintLast
def SmallP (w : World) (e : Ending) (w' : World) : Prop := (∃ b, e = .returned (.bool b)) ∧ Below w.heap.size w w'
set_option maxRecDepth 100000 in
set_option maxHeartbeats 8000000 in
theorem small_any (n : Nat) : ∀ (x : S38) (A3 : Option Addr) (c3 : Nat) (A4 : Option Addr) (c4 : Nat) (w : World), VC w x A3 c3 A4 c4 → n ≤ 12 →
    Calls Tryz.prog 36 #[.agg #[.int .i64 x.f0, .int .i64 x.f1, .string x.f2, .slice A3 x.f3.length c3, .slice A4 x.f4.length c4], .int .i64 (n : Nat)] w (SmallP w) := by
  induction n with
  | zero =>
    intro x A3 c3 A4 c4 w hx hn
    have HX := Lib.hid hx
    clear hx
    go_enter Tryz.func36, Tryz.ntmps36
    go_wp2_with fail
    go_ret
    exact ⟨⟨_, rfl⟩, ba _ _⟩
  | succ n ih =>
    intro x A3 c3 A4 c4 w hx hn
    obtain ⟨W1, hW1⟩ : ∃ W1, w.alloc (.cells #[.int .i64 x.f0, .int .i64 x.f1, .string x.f2, .slice A3 x.f3.length c3, .slice A4 x.f4.length c4] 38) = W1 := ⟨_, rfl⟩
    have hb1 : Below w.heap.size w W1 := by rw [← hW1]; exact ba _ _
    have hV1 : W1.heap[w.heap.size]? = some (.cells #[.int .i64 x.f0, .int .i64 x.f1, .string x.f2, .slice A3 x.f3.length c3, .slice A4 x.f4.length c4] 38 (0, 0)) := by rw [← hW1]; exact World.alloc_heap_new _ _
    have HX1 := Lib.hid (hx.below hb1)
    have HB1 := Lib.hid hb1
    have HV1 := Lib.hid hV1
    have HW1 := Lib.hid hW1
    have IH := Lib.hid ih
    have p2 := blk_cell hV1 2
    have p3 := blk_cell hV1 3
    have p4 := blk_cell hV1 4
    have hlt1 := blk_lt hV1
    clear hW1 hb1 hx hV1 ih
    have hne : ¬ ((n + 1 : Nat) : Int) = 0 := by omega
    have hne' : ¬ ((n : Int) + 1 = 0) := by omega
    have hsub : ((n + 1 : Nat) : Int) - 1 = (n : Int) := by omega
    by_cases h3 : 200 < x.f3.length
    · have h3' : (200 : Int) < (x.f3.length : Int) := by omega
      go_enter Tryz.func36, Tryz.ntmps36
      go_wp2_with fail
      rw [HW1.out]
      go_wp2_with fail
      go_ret
      exact ⟨⟨_, rfl⟩, HB1.out⟩
    · have h3' : ¬ (200 : Int) < (x.f3.length : Int) := by omega
      by_cases h4 : 200 < x.f4.length
      · have h4' : (200 : Int) < (x.f4.length : Int) := by omega
        go_enter Tryz.func36, Tryz.ntmps36
        go_wp2_with fail
        rw [HW1.out]
        go_wp2_with fail
        go_ret
        exact ⟨⟨_, rfl⟩, HB1.out⟩
      · have h4' : ¬ (200 : Int) < (x.f4.length : Int) := by omega
        by_cases h2 : 1000 < x.f2.size
        · have h2' : (1000 : Int) < (x.f2.size : Int) := by omega
          go_enter Tryz.func36, Tryz.ntmps36
          go_wp2_with fail
          rw [HW1.out]
          go_wp2_with fail
          go_ret
          exact ⟨⟨_, rfl⟩, HB1.out⟩
        · have h2' : ¬ (1000 : Int) < (x.f2.size : Int) := by omega
          go_enter Tryz.func36, Tryz.ntmps36
          go_wp2_with fail
          rw [HW1.out]
          go_loopw [5] (fun i wr => ∃ k : Nat, k ≤ x.f4.length ∧ i = .int .i64 k ∧ wr = W1) (fun i _ => x.f4.length - (intOf i).toNat)
          case atStart => exact ⟨0, Nat.zero_le _, rfl, rfl⟩
          case round =>
            obtain ⟨k, hk, rfl, rfl⟩ := hrel
            by_cases hlt : k < x.f4.length
            · obtain ⟨b1, o1, rfl, hb1, hc1⟩ := at_str HX1.out.g4 k hlt
              by_cases hs : 200 < x.f4[k].size
              · have hs' : (200 : Int) < (x.f4[k].size : Int) := by omega
                go_wp2_with fail
                go_ret
                exact ⟨⟨_, rfl⟩, HB1.out⟩
              · have hs' : ¬ (200 : Int) < (x.f4[k].size : Int) := by omega
                go_wp2_with fail
                go_roundw
                case rel => exact ⟨k + 1, by omega, by go_num, trivial⟩
                case measure => simp [intOf]; omega
            · go_wp2_with fail
              go_loopw [6] (fun i w2 => ∃ k : Nat, k ≤ x.f3.length ∧ i = .int .i64 k ∧ Below wr.heap.size wr w2) (fun i _ => x.f3.length - (intOf i).toNat)
              case atStart => exact ⟨0, Nat.zero_le _, rfl, Below.refl _ _⟩
              case round =>
                obtain ⟨k2, hk2, rfl, hbw⟩ := hrel
                have hV := (hbw.block _ (blk_lt HV1.out)).trans HV1.out
                have q3 := blk_cell hV 3
                clear hV
                by_cases hlt2 : k2 < x.f3.length
                · obtain ⟨b2, o2, A3', c3', A4', c4', rfl, hb2, g0, g1, g2, g3, g4, gv⟩ := at_val (HX1.out.below hbw).g3 k2 hlt2
                  have HC := Lib.hid (IH.out x.f3[k2] A3' c3' A4' c4' _ gv (by omega))
                  have HBW := Lib.hid hbw
                  clear hbw
                  go_wp2_with fail
                  refine HC.out.mono ?_
                  rintro e w3 ⟨⟨b, rfl⟩, hb3⟩
                  have HB3 := Lib.hid (HBW.out.trans (hb3.mono HBW.out.size))
                  clear hb3
                  cases b
                  · go_wp2_with fail
                    go_ret
                    exact ⟨⟨_, rfl⟩, HB1.out.trans (HB3.out.mono HB1.out.size)⟩
                  · go_wp2_with fail
                    go_roundw
                    case rel => exact ⟨k2 + 1, by omega, by go_num, HB3.out⟩
                    case measure => simp [intOf]; omega
                · go_wp2_with fail
                  go_ret
                  exact ⟨⟨_, rfl⟩, HB1.out.trans (hbw.mono HB1.out.size)⟩
end Go.Proofs.YtiddjadfkpjpdaaGreatDoor.Q
