/- The law JsonObject, walked. -/
import Derived.Test.YtiddjadfkpjpdaaGreatDoorHRObj
import Derived.Test.YtiddjadfkpjpdaaGreatDoorHSame
import Derived.Test.YtiddjadfkpjpdaaGreatDoorHAns5
set_option linter.unusedVariables false
set_option linter.unusedSimpArgs false
namespace Go.Proofs.YtiddjadfkpjpdaaGreatDoor.Q
open Go.RowKit Go.Proofs.YtiddjadfkpjpdaaGreatDoorW.PrintWords Go.Proofs.YtiddjadfkpjpdaaGreatDoorW.PrintLast
set_option maxRecDepth 100000 in
set_option maxHeartbeats 4000000 in
theorem object_walk (l : List S90) (A : Option Addr) (c : Nat) (w : World) (hl : k90.C w A l.length l) (hw : pws l ≤ 1000000000) (hE : Env w) :
    Calls Tryz.prog 9 #[.slice A l.length c] w fun e w' => e = .returned (.bool true) ∧ Below w.heap.size w w' := by
  have hlen := pws_len l
  have HL := Lib.hid hl
  have HE := Lib.hid hE
  have HWT : Hid ((objF obj0 l).wt ≤ 1099511627776) := by
    show _ ≤ _
    have h1 := objF_wt l obj0
    have h3 : obj0.wt = 1 := by decide +kernel
    omega
  clear hl hE
  by_cases hlt : 100 < l.length
  · have hlt' : (100 : Int) < (l.length : Int) := by omega
    go_enter Tryz.func9, Tryz.ntmps9
    go_wp2_with fail
    refine (answers5_calls w HE.out).mono ?_
    rintro e w1 ⟨rfl, b1⟩
    go_wp2_with fail
    go_ret
    exact ⟨rfl, b1⟩
  · have hlt' : ¬ (100 : Int) < (l.length : Int) := by omega
    go_enter Tryz.func9, Tryz.ntmps9
    go_wp2_with fail
    refine (answers5_calls w HE.out).mono ?_
    rintro e w1 ⟨rfl, b1⟩
    have HB1 := Lib.hid b1
    have HL1 := Lib.hid (Kd.C_below HL.out b1)
    clear b1
    go_wp2_with fail
    refine (jobject_calls l A c w1 HL1.out hw).mono ?_
    rintro e w2 ⟨A3, c3, A4, c4, rfl, o2, b2⟩
    have HB2 := Lib.hid (HB1.out.trans (b2.mono HB1.out.size))
    have HL2 := Lib.hid (Kd.C_below HL1.out b2)
    have HO2 := Lib.hid o2.vc
    clear o2 b2
    go_wp2_with fail
    refine (robject_calls l A c w2 HL2.out hw).mono ?_
    rintro e w3 ⟨B3, d3, B4, d4, rfl, o3, b3⟩
    have HB3 := Lib.hid (HB2.out.trans (b3.mono HB2.out.size))
    have HO3 := Lib.hid (HO2.out.below b3)
    have HP3 := Lib.hid o3
    clear o3 b3
    go_wp2_with fail
    have hs := rsame_any _ (objF obj0 l) (objF obj0 l) A3 c3 A4 c4 B3 d3 B4 d4 w3 (Nat.le_refl _) HO3.out HP3.out HWT.out HWT.out
    rw [eqB_true rfl] at hs
    refine hs.mono ?_
    rintro e w4 ⟨rfl, b4⟩
    go_wp2_with fail
    go_ret
    exact ⟨rfl, HB3.out.trans (b4.mono HB3.out.size)⟩
end Go.Proofs.YtiddjadfkpjpdaaGreatDoor.Q
