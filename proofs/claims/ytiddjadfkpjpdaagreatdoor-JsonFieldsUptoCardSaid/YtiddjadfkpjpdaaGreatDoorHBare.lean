import Derived.Test.YtiddjadfkpjpdaaGreatDoorHBase
import Derived.Deep.Light
namespace Go.Proofs.YtiddjadfkpjpdaaGreatDoor.Q
open Go.RowKit Go.Proofs.YtiddjadfkpjpdaaGreatDoorW.PrintWords Go.Proofs.YtiddjadfkpjpdaaGreatDoorW.PrintLast
set_option linter.unusedVariables false
set_option linter.unusedSimpArgs false
set_option maxHeartbeats 4000000 in
set_option maxRecDepth 100000 in
theorem bare_calls (k n : Int) (t : ByteArray) (A3 : Option Addr) (c3 l3 : Nat) (A4 : Option Addr) (c4 l4 : Nat) (w : World) :
    Calls Tryz.prog 103 #[.agg #[.int .i64 k, .int .i64 n, .string t, .slice A3 l3 c3, .slice A4 l4 c4]] w fun e w' => e = .returned (.bool (bareB k n t l3)) ∧ Below w.heap.size w w' := by
  go_enter Tryz.func103, Tryz.ntmps103
  go_wp2
  all_goals
    go_ret
    refine ⟨retB ?_, (Below.refl _ _).alloc (Nat.le_refl _) _⟩
    go_light
    unfold bareB
    refine Eq.symm ?_
    first
    | (refine decide_eq_true ?_; unfold bareP; simp [*]; done)
    | (refine decide_eq_false ?_; unfold bareP; simp [*]; done)
    | (refine decide_eq_true ?_; unfold bareP; simp [*]; omega)
    | (refine decide_eq_false ?_; unfold bareP; simp [*]; omega)
    | (refine decide_eq_false ?_; unfold bareP; simp [*]; intros; omega)
    | (congr 1; unfold bareP; simp [*]; done)
    | (congr 1; unfold bareP; simp [*]; omega)
end Go.Proofs.YtiddjadfkpjpdaaGreatDoor.Q
