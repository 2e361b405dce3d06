/- A number's text is read again. No program in sight. -/
import Derived.Test.YtiddjadfkpjpdaaGreatDoorHRender
import Derived.Lib.ParseIntBTie
set_option linter.unusedVariables false
set_option linter.unusedSimpArgs false
namespace Go.Proofs.YtiddjadfkpjpdaaGreatDoor.Q
def numC : List UInt8 := [45, 48, 49, 50, 51, 52, 53, 54, 55, 56, 57]
def isNum (c : UInt8) : Bool := numC.contains c
theorem parseUintM_app (M : Nat) (l r : List UInt8) (acc a : Nat) (h : Lib.parseUintM M acc l = .ok a) : Lib.parseUintM M acc (l ++ r) = Lib.parseUintM M a r := by
  induction l generalizing acc with
  | nil => simp only [Lib.parseUintM] at h; cases h; rfl
  | cons c l ih =>
    simp only [Lib.parseUintM, List.cons_append] at h ⊢
    split at h
    · rename_i h1
      rw [if_pos h1]
      split at h
      · cases h
      · rename_i h2
        rw [if_neg h2]
        split at h
        · cases h
        · rename_i h3
          rw [if_neg h3]
          exact ih _ h
    · cases h
theorem digit_nat (d : Nat) (h : d < 10) : (UInt8.ofNat (48 + d)).toNat = 48 + d := by simp; omega
theorem parse_dec (u : Nat) (h : u ≤ 9007199254740992) : Lib.parseUintM 18446744073709551615 0 (Lib.decDigits u) = .ok u := by
  induction u using Nat.strongRecOn with
  | _ u ih =>
    by_cases hu : u < 10
    · rw [Lib.decDigits_one hu]
      simp only [Lib.parseUintM, digit_nat u hu]
      rw [if_pos (by omega), if_neg (by omega), if_neg (by omega)]
      congr 1; omega
    · rw [Lib.decDigits, dif_neg hu, parseUintM_app _ _ _ _ _ (ih (u / 10) (by omega) (by omega))]
      simp only [Lib.parseUintM, digit_nat (u % 10) (by omega)]
      rw [if_pos (by omega), if_neg (by omega), if_neg (by omega)]
      congr 1; omega
theorem isNum_iff (c : UInt8) : isNum c = true ↔ c.toNat = 45 ∨ (48 ≤ c.toNat ∧ c.toNat ≤ 57) := by
  have : ∀ n : Fin 256, (isNum (UInt8.ofNat n.val) = true ↔ n.val = 45 ∨ (48 ≤ n.val ∧ n.val ≤ 57)) := by decide +kernel
  have h := this ⟨c.toNat, c.toNat_lt⟩
  simpa using h
theorem dec_digits (u : Nat) : ∀ c ∈ Lib.decDigits u, 48 ≤ c.toNat ∧ c.toNat ≤ 57 := by
  induction u using Nat.strongRecOn with
  | _ u ih =>
    intro c hc
    by_cases hu : u < 10
    · rw [Lib.decDigits_one hu] at hc
      simp only [List.mem_cons, List.not_mem_nil, or_false] at hc
      subst hc
      rw [digit_nat u hu]; omega
    · rw [Lib.decDigits, dif_neg hu, List.mem_append] at hc
      rcases hc with hc | hc
      · exact ih (u / 10) (by omega) c hc
      · simp only [List.mem_cons, List.not_mem_nil, or_false] at hc
        subst hc
        rw [digit_nat _ (by omega)]; omega
theorem dec_ne (u : Nat) : Lib.decDigits u ≠ [] := by
  rw [Lib.decDigits]
  split <;> simp
theorem itoa_num (n : Int) : ∀ c ∈ Lib.itoa n, isNum c = true := by
  intro c hc
  rw [isNum_iff]
  unfold Lib.itoa at hc
  split at hc
  · rcases List.mem_cons.1 hc with rfl | hc
    · exact .inl rfl
    · exact .inr (dec_digits _ c hc)
  · exact .inr (dec_digits _ c hc)
theorem parse_itoa (n : Int) (h0 : -9007199254740992 ≤ n) (h1 : n ≤ 9007199254740992) : Lib.parseIntB 64 (Lib.itoa n) = .ok n := by
  unfold Lib.itoa
  split
  · rename_i hn
    simp only [Lib.parseIntB]
    rw [if_pos (.inr rfl)]
    unfold Lib.parseUintB
    rw [if_neg (dec_ne _), show (2 : Nat) ^ 64 - 1 = 18446744073709551615 from rfl, parse_dec _ (by omega)]
    simp only [show (45 : UInt8).toNat = 45 from rfl, not_true_eq_false, false_and, if_false, true_and, if_true]
    rw [if_neg (by omega)]
    congr 1; omega
  · rename_i hn
    have hd := dec_digits n.toNat
    have hp := parse_dec n.toNat (by omega)
    have hne := dec_ne n.toNat
    cases he : Lib.decDigits n.toNat with
    | nil => exact absurd he hne
    | cons c r =>
      rw [he] at hd hp
      have hc := hd c List.mem_cons_self
      simp only [Lib.parseIntB]
      rw [if_neg (by omega)]
      unfold Lib.parseUintB
      rw [if_neg (by simp), show (2 : Nat) ^ 64 - 1 = 18446744073709551615 from rfl, hp]
      have h45 : ¬ c.toNat = 45 := by omega
      simp only [h45, not_false_eq_true, true_and, false_and, if_false]
      rw [if_neg (by omega)]
      congr 1; omega
theorem itoa_ne (n : Int) : Lib.itoa n ≠ [] := by
  unfold Lib.itoa; split
  · simp
  · exact dec_ne _
/-- A number's text, and behind it what is none of a number's. -/
theorem num_cut (n : Int) (t : List UInt8) (h : ∀ c t', t = c :: t' → isNum c = false) : (Lib.itoa n ++ t).takeWhile isNum = Lib.itoa n ∧ (Lib.itoa n ++ t).dropWhile isNum = t := by
  have hi := itoa_num n
  revert hi
  generalize Lib.itoa n = l
  intro hi
  induction l with
  | nil =>
    cases t with
    | nil => simp
    | cons c t' => simp [h c t' rfl]
  | cons c l ih =>
    obtain ⟨h1, h2⟩ := ih (fun c hc => hi c (List.mem_cons_of_mem _ hc))
    simp [hi c List.mem_cons_self, h1, h2]
end Go.Proofs.YtiddjadfkpjpdaaGreatDoor.Q
