/- json.quote writes a text as it stands in JSON. -/
import Derived.Test.YtiddjadfkpjpdaaGreatDoorHBuild
import Derived.Lib.Hide
namespace Go.Proofs.YtiddjadfkpjpdaaGreatDoor.Q
open Go.RowKit
def hexd (n : Nat) : UInt8 := ([48, 49, 50, 51, 52, 53, 54, 55, 56, 57, 97, 98, 99, 100, 101, 102] : List UInt8).getD n 0
def quoteByte (c : UInt8) : List UInt8 := if c = 34 ∨ c = 92 then [92, c] else if c < 32 then [92, 117, 48, 48, hexd (c.toNat / 16), hexd (c.toNat % 16)] else [c]
def quoteL (l : List UInt8) : List UInt8 := 34 :: (l.flatMap quoteByte ++ [34])
theorem quoteByte_len (c : UInt8) : (quoteByte c).length ≤ 6 := by unfold quoteByte; split <;> (try split) <;> simp
theorem flat_len (l : List UInt8) : (l.flatMap quoteByte).length ≤ 6 * l.length := by
  induction l with
  | nil => simp
  | cons c l ih => simp only [List.flatMap_cons, List.length_append, List.length_cons]; have := quoteByte_len c; omega
def hexT : ByteArray := ⟨#[48, 49, 50, 51, 52, 53, 54, 55, 56, 57, 97, 98, 99, 100, 101, 102]⟩
theorem hex_at (n : Nat) (h : n < 16) (h' : n < (⟨#[48, 49, 50, 51, 52, 53, 54, 55, 56, 57, 97, 98, 99, 100, 101, 102]⟩ : ByteArray).size) : (⟨#[48, 49, 50, 51, 52, 53, 54, 55, 56, 57, 97, 98, 99, 100, 101, 102]⟩ : ByteArray)[n] = hexd n := by
  have : ∀ n : Fin 16, (#[48, 49, 50, 51, 52, 53, 54, 55, 56, 57, 97, 98, 99, 100, 101, 102] : Array UInt8)[n.val]'(by simp) = hexd n.val := by decide
  exact this ⟨n, h⟩
theorem u8_cast (c : UInt8) : ((c.toNat : Int)).toNat.toUInt8 = c := by simp
theorem take_snoc (s : ByteArray) (k : Nat) (h : k < s.size) : s.data.toList.take (k + 1) = s.data.toList.take k ++ [s[k]] := by
  rw [List.take_succ_eq_append_getElem (by simpa using h)]; rfl
set_option maxHeartbeats 4000000 in
set_option maxRecDepth 100000 in
theorem quote_calls (s : ByteArray) (w : World) (hs : s.size ≤ 1073741824) :
    Calls Tryz.prog 109 #[.string s] w fun e w' => e = .returned (.string ⟨(quoteL s.data.toList).toArray⟩) ∧ Below w.heap.size w w' := by
  go_enter Tryz.func109, Tryz.ntmps109
  go_wp2_with fail
  refine (wb w.heap.size [] 34 _ (Bd.fresh w) (by omega) (by omega) (by simp)).mono ?_
  rintro e w1 ⟨rfl, h1, b1⟩
  have hb1 : Below w.heap.size w w1 := ((Below.refl _ w).alloc (Nat.le_refl _) _).trans b1
  clear b1
  go_wp2_with fail
  go_loopw [9] (fun i wr => ∃ k : Nat, k ≤ s.size ∧ i = .int .i64 k ∧ Bd w.heap.size (34 :: (s.data.toList.take k).flatMap quoteByte) wr ∧ Below w.heap.size w wr) (fun i _ => s.size - (intOf i).toNat)
  case atStart => exact ⟨0, Nat.zero_le _, rfl, h1, hb1⟩
  case round =>
    obtain ⟨k, hk, rfl, hB, hbw⟩ := hrel
    have hL : (34 :: (s.data.toList.take k).flatMap quoteByte).length ≤ 6442450945 := by
      have := flat_len (s.data.toList.take k)
      have h2 : (s.data.toList.take k).length ≤ k := List.length_take_le _ _
      simp only [List.length_cons]; omega
    by_cases hlt : k < s.size
    · have hts := take_snoc s k hlt
      have hq : (34 :: (s.data.toList.take (k + 1)).flatMap quoteByte) = (34 :: (s.data.toList.take k).flatMap quoteByte) ++ quoteByte s[k] := by
        rw [hts]; simp
      have HQ := Lib.hid hq
      clear hts hq
      obtain ⟨acc, HA⟩ : ∃ acc, Hid (acc = 34 :: (s.data.toList.take k).flatMap quoteByte) := ⟨_, rfl⟩
      rw [← HA.out] at hB hL
      have HQ2 : Hid (34 :: (s.data.toList.take (k + 1)).flatMap quoteByte = acc ++ quoteByte s[k]) := by
        show _ = _
        rw [HQ.out, HA.out]
      clear HQ HA
      have hc : s[k].toNat < 256 := s[k].toNat_lt
      have fin : ∀ (l : List UInt8) (wz : World), Bd w.heap.size (acc ++ l) wz → quoteByte s[k] = l → Below w.heap.size w wz → Bd w.heap.size (34 :: (s.data.toList.take (k + 1)).flatMap quoteByte) wz ∧ Below w.heap.size w wz := by
        intro l wz h1 h2 h3
        rw [HQ2.out, h2]
        exact ⟨h1, h3⟩
      have FIN := Lib.hid fin
      clear fin
      by_cases c34 : (s[k].toNat : Int) = 34 ∨ (s[k].toNat : Int) = 92
      · have QB : Hid (quoteByte s[k] = [92, s[k]]) := by
          show _ = _
          have : s[k] = 34 ∨ s[k] = 92 := c34.imp (fun h => UInt8.toNat_inj.1 (by rw [show (34 : UInt8).toNat = 34 from rfl]; omega)) (fun h => UInt8.toNat_inj.1 (by rw [show (92 : UInt8).toNat = 92 from rfl]; omega))
          unfold quoteByte; rw [if_pos this]
        rcases c34 with c34 | c34
        all_goals
          go_wp2_with fail
          refine (wb w.heap.size _ 92 _ hB (by omega) (by omega) (by omega)).mono ?_
          rintro e w2 ⟨rfl, h2, b2⟩
          go_wp2_with fail
          refine (wb w.heap.size _ _ _ h2 (by omega) (by omega) (by simp; omega)).mono ?_
          rintro e w3 ⟨rfl, h3, b3⟩
          go_wp2_with fail
          go_roundw
          case rel =>
            obtain ⟨f1, f2⟩ := FIN.out [92, s[k]] w3 (by
              rw [List.append_assoc] at h3
              have e8 : s[k] = ((s[k].toNat : Int)).toNat.toUInt8 := by simp
              rw [e8, c34]; exact h3) QB.out (hbw.trans (b2.trans b3))
            exact ⟨k + 1, by omega, by go_num, f1, f2⟩
          case measure => simp [intOf]; omega
      · have n34 : ((s[k].toNat : Int) == 34) = false := by simp; omega
        have n92 : ((s[k].toNat : Int) == 92) = false := by simp; omega
        have q0 : ¬ (s[k] = 34 ∨ s[k] = 92) := fun h => c34 (h.imp (fun h => by rw [h]; rfl) (fun h => by rw [h]; rfl))
        by_cases c32 : (s[k].toNat : Int) < 32
        · go_wp2_with fail
          refine (ws w.heap.size _ _ _ hB (by omega) (by decide)).mono ?_
          rintro e w2 ⟨rfl, h2, b2⟩
          go_wp2_with fail
          rw [hex_at _ (by omega)]
          have hx1 := (hexd (s[k].toNat / 16)).toNat_lt
          have hx2 := (hexd (s[k].toNat % 16)).toNat_lt
          refine (wb w.heap.size _ _ _ h2 (by omega) (by omega) (by simp; omega)).mono ?_
          rintro e w3 ⟨rfl, h3, b3⟩
          go_wp2_with fail
          rw [hex_at _ (by omega)]
          refine (wb w.heap.size _ _ _ h3 (by omega) (by omega) (by simp; omega)).mono ?_
          rintro e w4 ⟨rfl, h4, b4⟩
          go_wp2_with fail
          go_roundw
          case rel =>
            obtain ⟨f1, f2⟩ := FIN.out [92, 117, 48, 48, hexd (s[k].toNat / 16), hexd (s[k].toNat % 16)] w4 (by
              rw [u8_cast, u8_cast] at h4
              simpa using h4) (by unfold quoteByte; rw [if_neg q0, if_pos (UInt8.lt_iff_toNat_lt.2 (by rw [show (32 : UInt8).toNat = 32 from rfl]; omega))]) (hbw.trans (b2.trans (b3.trans b4)))
            exact ⟨k + 1, by omega, by go_num, f1, f2⟩
          case measure => simp [intOf]; omega
        · go_wp2_with fail
          refine (wb w.heap.size _ _ _ hB (by omega) (by omega) (by omega)).mono ?_
          rintro e w2 ⟨rfl, h2, b2⟩
          go_wp2_with fail
          go_roundw
          case rel =>
            obtain ⟨f1, f2⟩ := FIN.out [s[k]] w2 (by rw [u8_cast] at h2; exact h2) (by unfold quoteByte; rw [if_neg q0, if_neg (fun h => by have := UInt8.lt_iff_toNat_lt.1 h; rw [show (32 : UInt8).toNat = 32 from rfl] at this; omega)]) (hbw.trans b2)
            exact ⟨k + 1, by omega, by go_num, f1, f2⟩
          case measure => simp [intOf]; omega
    · have HE : Hid (34 :: (s.data.toList.take k).flatMap quoteByte = 34 :: s.data.toList.flatMap quoteByte) := by
        show _ = _
        rw [List.take_of_length_le (by simp; have : s.data.size = s.size := rfl; omega)]
      rw [HE.out] at hB hL
      go_wp2_with fail
      refine (wb w.heap.size _ _ _ hB (by omega) (by omega) (by omega)).mono ?_
      rintro e w2 ⟨rfl, h2, b2⟩
      go_wp2_with fail
      refine (bstr w.heap.size _ _ h2).mono ?_
      rintro e w3 ⟨rfl, b3⟩
      go_wp2_with fail
      go_ret
      exact ⟨rfl, hbw.trans (b2.trans b3)⟩
end Go.Proofs.YtiddjadfkpjpdaaGreatDoor.Q
