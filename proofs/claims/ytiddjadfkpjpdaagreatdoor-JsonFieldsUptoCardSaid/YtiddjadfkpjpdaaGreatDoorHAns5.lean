/- exequaturlaw05.answers: it is true. -/
import Derived.Test.YtiddjadfkpjpdaaGreatDoorHPrs
set_option linter.unusedVariables false
set_option linter.unusedSimpArgs false
namespace Go.Proofs.YtiddjadfkpjpdaaGreatDoor.Q
open Go.RowKit Go.Proofs.YtiddjadfkpjpdaaGreatDoorW.PrintWords Go.Proofs.YtiddjadfkpjpdaaGreatDoorW.PrintLast
def exV1 : S38 := ⟨5, 0, ⟨#[]⟩, [⟨3, 1, ⟨#[]⟩, [], []⟩, ⟨2, 1, ⟨#[]⟩, [], []⟩], []⟩
def exV : S38 := ⟨6, 0, ⟨#[]⟩, [exV1], [⟨#[97]⟩]⟩
def exL : List UInt8 := [123, 34, 97, 34, 58, 91, 49, 44, 116, 114, 117, 101, 93, 125]
theorem exV_fits : fitsB 8 exV = true := by decide +kernel
theorem exV_text : renderL exV = exL := by decide +kernel
theorem exV_field : fieldB exV ⟨#[97]⟩ = some exV1 := rfl
theorem exV_print : printL exV = exL := by unfold printL; rw [exV_fits, exV_text]; rfl
theorem exV_wt : exV.wt ≤ 100 := by decide +kernel
set_option maxRecDepth 100000 in
set_option maxHeartbeats 8000000 in
theorem answers5_calls (w : World) (hE : Env w) : Calls Tryz.prog 30 #[] w fun e w' => e = .returned (.bool true) ∧ Below w.heap.size w w' := by
  have HP := Lib.hid (parse_calls exL w (by decide) hE)
  have HE := Lib.hid hE
  clear hE
  go_enter Tryz.func30, Tryz.ntmps30
  go_wp2_with fail
  refine HP.out.mono ?_
  rintro e w1 ⟨x, v3, v4, code, rfl, hL, hK, hb1, _, hq⟩
  rcases hq.of (by decide) exV_fits exV_text with ⟨_, hcode, hx⟩ | ⟨h, _⟩
  · subst hcode
    subst hx
    obtain ⟨A3, c3, rfl⟩ := Kd.R_slice hL
    obtain ⟨A4, c4, rfl⟩ := Kd.R_slice hK
    have hV1 : VC w1 exV A3 c3 A4 c4 := by
      obtain ⟨_, a, b⟩ := Kd.R_reads' hL
      obtain ⟨_, c, d⟩ := Kd.R_reads' hK
      exact ⟨a, b, c, d⟩
    have HV1 := Lib.hid hV1
    have HB1 := Lib.hid hb1
    clear hq hL hK hV1 hb1
    go_wp2_with fail
    refine (jfield_calls exV ⟨#[97]⟩ A3 c3 A4 c4 _ (HV1.out.below (ba _ _)) (by have := exV_wt; omega)).mono ?_
    rintro e w2 ⟨b2, h2⟩
    rcases h2 with ⟨y, B3, d3, B4, hy, rfl, ho, _⟩ | ⟨h, _⟩
    · rw [exV_field] at hy
      obtain rfl : exV1 = y := Option.some.inj hy
      have hb2 := (ba w1 (.cells #[.int .i64 exV.f0, .int .i64 exV.f1, .string exV.f2, .slice A3 exV.f3.length c3, .slice A4 exV.f4.length c4] 38)).trans (b2.mono (by simp))
      have hX2 := (b2.block w1.heap.size (by simp)).trans (World.alloc_heap_new w1 _)
      have HB2 := Lib.hid (HB1.out.trans (hb2.mono HB1.out.size))
      have HX2 := Lib.hid hX2
      have HV2 := Lib.hid (HV1.out.below hb2)
      clear hy ho b2 hb2
      have x0 := blk_cell hX2 0
      have x1 := blk_cell hX2 1
      have x2 := blk_cell hX2 2
      have x3 := blk_cell hX2 3
      have x4 := blk_cell hX2 4
      have hlt2 := blk_lt hX2
      clear hX2
      have e2 : ((exV1.f3.length : Int) == 2) = true := rfl
      have hne : ¬ w1.heap.size = w2.heap.size := by omega
      go_wp2_with fail
      refine (print_calls exV A3 c3 A4 c4 _ (HV2.out.below (ba _ _)) (by have := exV_wt; omega) ((HE.out.below HB2.out).below (ba _ _))).mono ?_
      rintro e w3 ⟨rfl, b3⟩
      rw [exV_print]
      unfold exL
      have hb3 := (ba w2 (.cells #[.int .i64 exV1.f0, .int .i64 exV1.f1, .string exV1.f2, .slice B3 exV1.f3.length d3, .slice B4 exV1.f4.length exV1.f4.length] 38)).trans (b3.mono (by simp))
      have HB3 := Lib.hid (HB2.out.trans (hb3.mono HB2.out.size))
      have hX3 := (hb3.block _ (blk_lt HX2.out)).trans HX2.out
      have HV3 := Lib.hid (HV2.out.below hb3)
      clear b3 hb3
      have x0 := blk_cell hX3 0
      have x1 := blk_cell hX3 1
      have x2 := blk_cell hX3 2
      have x3 := blk_cell hX3 3
      have x4 := blk_cell hX3 4
      clear hX3
      go_wp2_with fail
      refine (good_calls exV A3 c3 A4 c4 w3 HV3.out (by have := exV_wt; omega)).mono ?_
      rintro e w4 ⟨rfl, b4⟩
      rw [exV_fits]
      have HB4 := Lib.hid (HB3.out.trans (b4.mono HB3.out.size))
      clear b4
      go_wp2_with fail
      go_ret
      exact ⟨rfl, HB4.out⟩
    · rw [exV_field] at h; cases h
  · rw [exV_fits] at h; cases h
end Go.Proofs.YtiddjadfkpjpdaaGreatDoor.Q
