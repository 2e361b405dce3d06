/- json.reader: take, need, escaped, text. -/
import Derived.Test.YtiddjadfkpjpdaaGreatDoorHRender
set_option linter.unusedVariables false
set_option linter.unusedSimpArgs false
namespace Go.Proofs.YtiddjadfkpjpdaaGreatDoor.Q
open Go.RowKit Go.Proofs.YtiddjadfkpjpdaaGreatDoorW.PrintWords
/-- The reader in block p: what is left of its text, and whether it is bad. -/
def Rd (p : Nat) (w : World) (l : List UInt8) (b : Bool) : Prop := w.heap[p]? = some (.cells #[.string ⟨l.toArray⟩, .bool b] 83 (0, 0))
theorem Rd.lt {p : Nat} {w : World} {l : List UInt8} {b : Bool} (h : Rd p w l b) : p < w.heap.size := by
  rcases Nat.lt_or_ge p w.heap.size with hh | hh
  · exact hh
  · unfold Rd at h; rw [Array.getElem?_eq_none hh] at h; cases h
theorem Rd.cells {p : Nat} {w : World} {l : List UInt8} {b : Bool} (h : Rd p w l b) : w.cell? ⟨p, 0, none⟩ = some (.string ⟨l.toArray⟩) ∧ w.cell? ⟨p, 1, none⟩ = some (.bool b) ∧ w.frozen? ⟨p, 0, none⟩ = false ∧ w.frozen? ⟨p, 1, none⟩ = false := by
  unfold Rd at h
  simp [World.cell?, World.frozen?, h]
theorem gset (w : World) (g i : Nat) (v : Value) : w.grownBy (w.setCell ⟨g, i, none⟩ v) (some g) := ⟨rfl, rfl, rfl, by simp [World.setCell], fun k _ hne => Below.heap_setCell w _ v k (fun e => hne (by rw [e]))⟩
theorem gbelow {w w' : World} (h : Below w.heap.size w w') (row : Option Nat) : w.grownBy w' row := grown_of_below h row
theorem Rd.setS {p : Nat} {w : World} {l l' : List UInt8} {b : Bool} (h : Rd p w l b) : Rd p (w.setCell ⟨p, 0, none⟩ (.string ⟨l'.toArray⟩)) l' b := blk_set h 0 _
theorem Rd.setB {p : Nat} {w : World} {l : List UInt8} {b b' : Bool} (h : Rd p w l b) : Rd p (w.setCell ⟨p, 1, none⟩ (.bool b')) l b' := blk_set h 1 _
theorem Rd.kept {p : Nat} {w w' : World} {l : List UInt8} {b : Bool} (h : Rd p w l b) (hb : Below w.heap.size w w') : Rd p w' l b := (hb.block p h.lt).trans h
theorem ext_mk (l : List UInt8) (a b : Nat) : (⟨l.toArray⟩ : ByteArray).extract a b = ⟨((l.drop a).take (b - a)).toArray⟩ := by
  apply ByteArray.ext
  apply Array.ext'
  rw [Lib.extract_data]
theorem pre_eq (l t : List UInt8) : (l.take t.length == t) = t.isPrefixOf l := by
  rw [Bool.eq_iff_iff, beq_iff_eq, List.isPrefixOf_iff_prefix]
  constructor
  · intro h; rw [← h]; exact List.take_prefix _ _
  · rintro ⟨r, rfl⟩; simp
set_option maxRecDepth 100000 in
set_option maxHeartbeats 2000000 in
theorem hp_calls (l t : List UInt8) (w : World) (hl : l.length ≤ 1099511627776) :
    Calls Tryz.prog 124 #[.string ⟨l.toArray⟩, .string ⟨t.toArray⟩] w fun e w' => e = .returned (.bool (t.isPrefixOf l)) ∧ w' = w := by
  by_cases h : t.length ≤ l.length
  · have hx : Hid (((({ data := l.toArray } : ByteArray).extract 0 t.length).toList == t) = t.isPrefixOf l) := by show _ = _; rw [ext_mk, ByteArray.toList_mk, List.drop_zero, Nat.sub_zero, pre_eq]
    go_enter Tryz.func124, Tryz.ntmps124
    go_wp2_with fail
    go_ret
    exact ⟨retB hx.out, rfl⟩
  · have hx : Hid (t.isPrefixOf l = false) := by
      show _ = _
      cases hp : t.isPrefixOf l with
      | false => rfl
      | true => have := (List.isPrefixOf_iff_prefix.1 hp).length_le; omega
    go_enter Tryz.func124, Tryz.ntmps124
    go_wp2_with fail
    go_ret
    exact ⟨retB hx.out.symm, rfl⟩
set_option maxRecDepth 100000 in
set_option maxHeartbeats 2000000 in
theorem cut_calls (l t : List UInt8) (w : World) (hl : l.length ≤ 1099511627776) :
    Calls Tryz.prog 148 #[.string ⟨l.toArray⟩, .string ⟨t.toArray⟩] w fun e w' => e = .returned (.tuple (if t.isPrefixOf l then #[.string ⟨(l.drop t.length).toArray⟩, .bool true] else #[.string ⟨l.toArray⟩, .bool false])) ∧ w' = w := by
  cases hp : t.isPrefixOf l with
  | false =>
    go_enter Tryz.func148, Tryz.ntmps148
    go_wp2_with fail
    refine (hp_calls l t w hl).mono ?_
    rw [hp]
    rintro e w' ⟨rfl, rfl⟩
    go_wp2_with fail
    go_ret2
    exact ⟨rfl, rfl⟩
  | true =>
    have hle := (List.isPrefixOf_iff_prefix.1 hp).length_le
    have hx : Hid ((({ data := l.toArray } : ByteArray).extract t.length l.length) = ⟨(l.drop t.length).toArray⟩) := by show _ = _; rw [ext_mk, List.take_of_length_le (by simp)]
    go_enter Tryz.func148, Tryz.ntmps148
    go_wp2_with fail
    refine (hp_calls l t w hl).mono ?_
    rw [hp]
    rintro e w' ⟨rfl, rfl⟩
    go_wp2_with fail
    go_ret2
    exact ⟨by rw [hx.out]; rfl, rfl⟩
set_option maxRecDepth 100000 in
set_option maxHeartbeats 2000000 in
theorem cutp_calls (l t : List UInt8) (w : World) (hl : l.length ≤ 1099511627776) :
    Calls Tryz.prog 123 #[.string ⟨l.toArray⟩, .string ⟨t.toArray⟩] w fun e w' => e = .returned (.tuple (if t.isPrefixOf l then #[.string ⟨(l.drop t.length).toArray⟩, .bool true] else #[.string ⟨l.toArray⟩, .bool false])) ∧ w' = w := by
  have HC := Lib.hid (cut_calls l t w hl)
  cases hp : t.isPrefixOf l with
  | false =>
    simp only [hp, Bool.false_eq_true, if_false] at HC ⊢
    clear hp
    go_enter Tryz.func123, Tryz.ntmps123
    go_wp2_with fail
    refine HC.out.mono ?_
    rintro e w' ⟨rfl, rfl⟩
    go_wp2_with fail
    go_ret2
    exact ⟨rfl, rfl⟩
  | true =>
    simp only [hp, if_true] at HC ⊢
    clear hp
    go_enter Tryz.func123, Tryz.ntmps123
    go_wp2_with fail
    refine HC.out.mono ?_
    rintro e w' ⟨rfl, rfl⟩
    go_wp2_with fail
    go_ret2
    exact ⟨rfl, rfl⟩
set_option maxRecDepth 100000 in
set_option maxHeartbeats 2000000 in
theorem take_calls (p : Nat) (l t : List UInt8) (b : Bool) (w : World) (h : Rd p w l b) (hl : l.length ≤ 1099511627776) :
    Calls Tryz.prog 98 #[.pointer (some ⟨p, 0, none⟩), .string ⟨t.toArray⟩] w fun e w' => e = .returned (.bool (t.isPrefixOf l)) ∧ Rd p w' (if t.isPrefixOf l then l.drop t.length else l) b ∧ w.grownBy w' (some p) := by
  obtain ⟨h0, h1, f0, f1⟩ := h.cells
  have HR := Lib.hid h
  clear h
  have HC := Lib.hid (cutp_calls l t w hl)
  cases hp : t.isPrefixOf l with
  | false =>
    simp only [hp, Bool.false_eq_true, if_false] at HC ⊢
    clear hp
    go_enter Tryz.func98, Tryz.ntmps98
    go_wp2_with fail
    refine HC.out.mono ?_
    rintro e w' ⟨rfl, rfl⟩
    go_wp2_with fail
    go_ret
    exact ⟨rfl, HR.out, World.grownBy.refl _ _⟩
  | true =>
    simp only [hp, if_true] at HC ⊢
    clear hp
    go_enter Tryz.func98, Tryz.ntmps98
    go_wp2_with fail
    refine HC.out.mono ?_
    rintro e w' ⟨rfl, rfl⟩
    go_wp2_with fail
    go_ret
    exact ⟨rfl, HR.out.setS, gset _ _ _ _⟩
set_option maxRecDepth 100000 in
set_option maxHeartbeats 2000000 in
theorem need_calls (p : Nat) (l t : List UInt8) (b : Bool) (w : World) (h : Rd p w l b) (hl : l.length ≤ 1099511627776) :
    Calls Tryz.prog 125 #[.pointer (some ⟨p, 0, none⟩), .string ⟨t.toArray⟩] w fun e w' => (∃ v, e = .returned v) ∧ Rd p w' (if t.isPrefixOf l then l.drop t.length else l) (b || !t.isPrefixOf l) ∧ w.grownBy w' (some p) := by
  have HC := Lib.hid (take_calls p l t b w h hl)
  cases hp : t.isPrefixOf l with
  | false =>
    simp only [hp, Bool.false_eq_true, if_false] at HC ⊢
    clear hp
    go_enter Tryz.func125, Tryz.ntmps125
    go_wp2_with fail
    refine HC.out.mono ?_
    rintro e w2 ⟨rfl, h2, g2⟩
    obtain ⟨c0, c1, f0, f1⟩ := h2.cells
    go_wp2_with fail
    go_end0
    exact ⟨⟨_, rfl⟩, by rw [Bool.not_false, Bool.or_true]; exact h2.setB, g2.trans (gset _ _ _ _)⟩
  | true =>
    simp only [hp, if_true] at HC ⊢
    clear hp
    go_enter Tryz.func125, Tryz.ntmps125
    go_wp2_with fail
    refine HC.out.mono ?_
    rintro e w2 ⟨rfl, h2, g2⟩
    obtain ⟨c0, c1, f0, f1⟩ := h2.cells
    go_wp2_with fail
    go_end0
    exact ⟨⟨_, rfl⟩, by rw [Bool.not_true, Bool.or_false]; exact h2.setB, g2.trans (gset _ _ _ _)⟩
/-- A byte's place among the digits. -/
def idxH (c : UInt8) : Int := Lib.indexByte [48, 49, 50, 51, 52, 53, 54, 55, 56, 57, 97, 98, 99, 100, 101, 102] c
theorem idxH_lo (c : UInt8) : -1 ≤ idxH c ∧ idxH c ≤ 15 := by
  have : ∀ n : Fin 256, -1 ≤ idxH (UInt8.ofNat n.val) ∧ idxH (UInt8.ofNat n.val) ≤ 15 := by decide +kernel
  have h := this ⟨c.toNat, c.toNat_lt⟩
  simpa using h
theorem idxH_hexd (n : Nat) (h : n < 16) : idxH (hexd n) = n := by
  have : ∀ n : Fin 16, idxH (hexd n.val) = n.val := by decide +kernel
  exact this ⟨n, h⟩
theorem or_hex (n : Nat) (h : n < 32) : bits BinOp.or IntKind.i64 (((n / 16 : Nat) : Int) * 16) ((n % 16 : Nat) : Int) % 256 = n := by
  have : ∀ n : Fin 32, bits BinOp.or IntKind.i64 (((n.val / 16 : Nat) : Int) * 16) ((n.val % 16 : Nat) : Int) % 256 = n.val := by decide +kernel
  exact this ⟨n, h⟩
theorem idxH_calls (c : UInt8) (w : World) : Calls Tryz.prog 122 #[.string ⟨#[48, 49, 50, 51, 52, 53, 54, 55, 56, 57, 97, 98, 99, 100, 101, 102]⟩, .int .u8 c.toNat] w fun e w' => e = .returned (.int .i64 (idxH c)) ∧ w' = w := by
  refine (Tryz.strings_IndexByte _ _ w).mono ?_
  rintro e w' ⟨rfl, rfl⟩
  exact ⟨by unfold idxH; simp, rfl⟩
theorem esc_cases {x : UInt8} {l t : List UInt8} (h : 92 :: l = quoteByte x ++ t) (hx : x = 34 ∨ x = 92 ∨ x < 32) : (x = 34 ∧ l = 34 :: t) ∨ (x = 92 ∧ l = 92 :: t) ∨ (x.toNat < 32 ∧ l = 117 :: 48 :: 48 :: hexd (x.toNat / 16) :: hexd (x.toNat % 16) :: t) := by
  unfold quoteByte at h
  by_cases h1 : x = 34
  · subst h1; simp at h; exact .inl ⟨rfl, h⟩
  · by_cases h2 : x = 92
    · subst h2; simp at h; exact .inr (.inl ⟨rfl, h⟩)
    · have h3 : x < 32 := by rcases hx with h | h | h; exact absurd h h1; exact absurd h h2; exact h
      rw [if_neg (by simp [h1, h2]), if_pos h3] at h
      simp at h
      exact .inr (.inr ⟨h3, h⟩)
theorem u8_mod (n : Int) : ∃ c : UInt8, (n % 256 : Int) = c.toNat := ⟨UInt8.ofNat (n % 256).toNat, by simp; omega⟩
/-- What escaped does. -/
def EscP (p : Nat) (l : List UInt8) (b : Bool) (w : World) (e : Ending) (w' : World) : Prop :=
  ∃ (c : UInt8) (r : List UInt8) (b' : Bool), e = .returned (.int .u8 c.toNat) ∧ Rd p w' r b' ∧ w.grownBy w' (some p) ∧ r.length ≤ l.length ∧
      (∀ x t, b = false → (92 :: l) = quoteByte x ++ t → (x = 34 ∨ x = 92 ∨ x < 32) → c = x ∧ r = t ∧ b' = false)
set_option maxRecDepth 100000 in
set_option maxHeartbeats 4000000 in
/-- escaped: what is left is not longer; where the text is as quote prints it, the byte is the one that was printed. -/
theorem escaped_calls (p : Nat) (l : List UInt8) (b : Bool) (w : World) (h : Rd p w l b) (hl : l.length ≤ 1099511627776) :
    Calls Tryz.prog 126 #[.pointer (some ⟨p, 0, none⟩)] w (EscP p l b w) := by
  have HR := Lib.hid h
  have H1 := Lib.hid (take_calls p l [34] b w h hl)
  clear h
  cases hp : [34].isPrefixOf l with
  | true =>
    simp only [hp, if_true] at H1
    go_enter Tryz.func126, Tryz.ntmps126
    go_wp2_with fail
    refine H1.out.mono ?_
    rintro e w2 ⟨rfl, h2, g2⟩
    go_wp2_with fail
    go_ret
    refine ⟨34, _, _, rfl, h2, g2, by simp, ?_⟩
    intro x t hb hq hx
    rcases esc_cases hq hx with ⟨rfl, rfl⟩ | ⟨rfl, rfl⟩ | ⟨_, rfl⟩
    · exact ⟨rfl, rfl, hb⟩
    · simp at hp
    · simp at hp
  | false =>
    simp only [hp, Bool.false_eq_true, if_false] at H1
    go_enter Tryz.func126, Tryz.ntmps126
    go_wp2_with fail
    refine H1.out.mono ?_
    rintro e w2 ⟨rfl, h2, g2⟩
    go_wp2_with fail
    have H2 := Lib.hid (take_calls p l [92] b w2 h2 hl)
    have G2 := Lib.hid g2
    clear H1 h2 g2
    cases hq : [92].isPrefixOf l with
    | true =>
      simp only [hq, if_true] at H2
      refine H2.out.mono ?_
      rintro e w3 ⟨rfl, h3, g3⟩
      go_wp2_with fail
      go_ret
      refine ⟨92, _, _, rfl, h3, G2.out.trans g3, by simp, ?_⟩
      intro x t hb hqq hx
      rcases esc_cases hqq hx with ⟨rfl, rfl⟩ | ⟨rfl, rfl⟩ | ⟨_, rfl⟩
      · simp at hp
      · exact ⟨rfl, rfl, hb⟩
      · simp at hq
    | false =>
      simp only [hq, Bool.false_eq_true, if_false] at H2
      refine H2.out.mono ?_
      rintro e w3 ⟨rfl, h3, g3⟩
      go_wp2_with fail
      refine (need_calls p l [117, 48, 48] b w3 h3 hl).mono ?_
      rintro e w4 ⟨⟨v4, rfl⟩, h4, g4⟩
      obtain ⟨l4, b4, hl4l, hc4, h4⟩ : ∃ l4 b4, l4.length ≤ l.length ∧ (∀ r, l = 117 :: 48 :: 48 :: r → b = false → l4 = r ∧ b4 = false) ∧ Rd p w4 l4 b4 := by
        refine ⟨_, _, ?_, ?_, h4⟩
        · split <;> simp
        · rintro r rfl rfl; simp
      have HC : Hid (∀ x t, b = false → (92 :: l) = quoteByte x ++ t → (x = 34 ∨ x = 92 ∨ x < 32) → x.toNat < 32 ∧ b4 = false ∧ l4 = hexd (x.toNat / 16) :: hexd (x.toNat % 16) :: t) := by
        show ∀ x t, _
        intro x t hb hqq hx
        rcases esc_cases hqq hx with ⟨rfl, rfl⟩ | ⟨rfl, rfl⟩ | ⟨h32, rfl⟩
        · simp at hp
        · simp at hq
        · have := hc4 _ rfl hb; exact ⟨h32, this.2, this.1⟩
      have G4 := Lib.hid ((G2.out.trans g3).trans g4)
      have H4 := Lib.hid h4
      obtain ⟨c0, c1, f0, f1⟩ := h4.cells
      clear hc4 h3 g3 g4 H2 h4 G2 hp hq
      cases b4 with
      | true =>
        go_wp2_with fail
        go_ret
        refine ⟨0, _, _, rfl, H4.out.setB, G4.out.trans (gset _ _ _ _), hl4l, ?_⟩
        intro x t hb hqq hx
        have hh := (HC.out x t hb hqq hx).2.1; simp at hh
      | false =>
        by_cases hn : l4.length < 2
        · go_wp2_with fail
          go_ret
          refine ⟨0, _, _, rfl, H4.out.setB, G4.out.trans (gset _ _ _ _), hl4l, ?_⟩
          intro x t hb hqq hx
          have := (HC.out x t hb hqq hx).2.2
          rw [this] at hn; simp only [List.length_cons] at hn; omega
        · obtain ⟨x, y, r, hxy⟩ : ∃ x y r, l4 = x :: y :: r := by
            cases l4 with
            | nil => simp at hn
            | cons x l5 => cases l5 with
              | nil => simp at hn
              | cons y r => exact ⟨x, y, r, rfl⟩
          subst hxy
          have q0 : (0 : Int) < (r.length : Int) + 1 + 1 := by omega
          have q1 : (1 : Int) < (r.length : Int) + 1 + 1 := by omega
          obtain ⟨ix0, ix1⟩ := idxH_lo x
          obtain ⟨iy0, iy1⟩ := idxH_lo y
          have HX : Hid ((({ data := (x :: y :: r).toArray } : ByteArray).extract 2 (r.length + 1 + 1)) = ⟨r.toArray⟩) := by show _ = _; rw [ext_mk]; simp
          have HW : Hid (∀ (fl : Bool) w', Rd p w' r fl → w4.grownBy w' (some p) → (0 ≤ idxH x → idxH x ≤ 1 → 0 ≤ idxH y → fl = false) → EscP p l b w (.returned (.int .u8 (bits BinOp.or IntKind.i64 (idxH x * 16) (idxH y) % 256))) w') := by
            show ∀ fl w', _
            intro fl w' hr hg hfl
            obtain ⟨c, hc⟩ := u8_mod (bits BinOp.or IntKind.i64 (idxH x * 16) (idxH y))
            refine ⟨c, r, fl, by rw [hc], hr, G4.out.trans hg, by simp at hl4l; omega, ?_⟩
            intro x' t hb hqq hx
            obtain ⟨h32, _, he⟩ := HC.out x' t hb hqq hx
            simp only [List.cons.injEq] at he
            obtain ⟨rfl, rfl, rfl⟩ := he
            rw [idxH_hexd _ (by omega), idxH_hexd _ (by omega)] at hfl hc
            rw [or_hex _ h32] at hc
            refine ⟨?_, rfl, hfl (by omega) (by omega) (by omega)⟩
            apply UInt8.toNat_inj.1
            omega
          go_wp2_with fail
          go_quiet (first | (go_at_call 122; first | refine Calls.quiet_of_same (idxH_calls x _) | refine Calls.quiet_of_same (idxH_calls y _)))
          go_wp2_with fail
          all_goals go_ret
          all_goals rw [HX.out]
          all_goals refine HW.out _ _ (Rd.setB (Rd.setS (show Rd p (w4.drewN nq) _ _ from H4.out))) (((show w4.grownBy (w4.drewN nq) (some p) from ⟨rfl, rfl, rfl, Nat.le_refl _, fun _ _ _ => rfl⟩).trans (gset _ _ _ _)).trans (gset _ _ _ _)) ?_
          all_goals intro z0 z1 z2
          all_goals simp
          all_goals omega
end Go.Proofs.YtiddjadfkpjpdaaGreatDoor.Q
