/- strings.Builder, as this program's functions use it: a builder in a block of the call's own; what it holds is a list of bytes. -/
import Derived.Test.YtiddjadfkpjpdaaGreatDoorHBase
import Derived.Test.YtiddjadfkpjpdaaGreatDoorHShelf
namespace Go.Proofs.YtiddjadfkpjpdaaGreatDoor.Q
open Go.RowKit
/-- The builder in block B holds the bytes acc; what it owns lies from B on. -/
def Bd (B : Nat) (acc : List UInt8) (w : World) : Prop := Lib.IsBuilder 105 5 B B (Lib.byteCells acc) w
theorem Bd.lt {B : Nat} {acc : List UInt8} {w : World} (h : Bd B acc w) : B < w.heap.size := by
  rcases h with h | h <;> exact h.lt
theorem Bd.fresh (w : World) : Bd w.heap.size [] (w.alloc (.cells #[.pointer none, .slice none 0 0] 105)) := Lib.fresh_isBuilder 105 5 w
theorem wb (B : Nat) (acc : List UInt8) (n : Int) (w : World) (h : Bd B acc w) (h0 : 0 ≤ n) (h1 : n < 256) (hl : acc.length ≤ 1099511627776) :
    Calls Tryz.prog 88 #[.pointer (some ⟨B, 0, none⟩), .int .u8 n] w fun e w' => e = .returned .nilIface ∧ Bd B (acc ++ [n.toNat.toUInt8]) w' ∧ Below B w w' := by
  refine (Tryz.Builder_WriteByte B B _ n w h (by rw [Lib.byteCells_length]; omega) (Nat.le_of_lt h.lt)).mono ?_
  rintro e w' ⟨rfl, hb, hbe⟩
  refine ⟨rfl, ?_, hbe⟩
  unfold Bd
  rw [Lib.byteCells_append]
  have e1 : Lib.byteCells [n.toNat.toUInt8] = [Value.int .u8 n] := by
    have : ((n.toNat.toUInt8).toNat : Int) = n := by
      rw [show n.toNat.toUInt8.toNat = n.toNat % 256 from rfl]; omega
    simp only [Lib.byteCells, List.map_cons, List.map_nil]
    rw [this]
  rw [e1]
  exact Or.inr hb
theorem ws (B : Nat) (acc : List UInt8) (s : ByteArray) (w : World) (h : Bd B acc w) (hl : acc.length ≤ 1099511627776) (hs : s.size ≤ 1099511627776) :
    Calls Tryz.prog 135 #[.pointer (some ⟨B, 0, none⟩), .string s] w fun e w' => e = .returned (.tuple #[.int .i64 s.size, .nilIface]) ∧ Bd B (acc ++ s.data.toList) w' ∧ Below B w w' := by
  refine (Tryz.Builder_WriteString B B _ s w h (by rw [Lib.byteCells_length]; omega) (Nat.le_of_lt h.lt)).mono ?_
  rintro e w' ⟨rfl, hb, hbe⟩
  refine ⟨rfl, ?_, hbe⟩
  unfold Bd
  rw [Lib.byteCells_append]
  exact Or.inr hb
theorem bstr (B : Nat) (acc : List UInt8) (w : World) (h : Bd B acc w) :
    Calls Tryz.prog 89 #[.pointer (some ⟨B, 0, none⟩)] w fun e w' => e = .returned (.string ⟨acc.toArray⟩) ∧ Below B w w' :=
  Tryz.Builder_String_any B B acc w h (Nat.le_of_lt h.lt)
end Go.Proofs.YtiddjadfkpjpdaaGreatDoor.Q
