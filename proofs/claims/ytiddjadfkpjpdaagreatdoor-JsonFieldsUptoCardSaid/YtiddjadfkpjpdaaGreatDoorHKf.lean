/- A kind of values that are only read, each by blocks of its own. -/
import Derived.Test.YtiddjadfkpjpdaaGreatDoorHRField
import Derived.Test.YtiddjadfkpjpdaaGreatDoorHShelf
set_option linter.unusedVariables false
set_option linter.unusedSimpArgs false
namespace Go.Proofs.YtiddjadfkpjpdaaGreatDoor.Q
open Go.RowKit Go.Proofs.YtiddjadfkpjpdaaGreatDoorW.PrintWords
/-- A block that is ok, made from base on, of values or of texts. -/
def okAt (w : World) (base : Nat) (ok : Nat → Prop) (k : Nat) : Prop := ok k ∧ base ≤ k ∧ k < w.heap.size ∧ ∃ q, q ∈ [38, 9] ∧ ∃ cells, w.heap[k]? = some (.cells cells q (0, 0))
theorem lt_of_block {w : World} {k : Nat} {o : Obj} (h : w.heap[k]? = some o) : k < w.heap.size := by
  rcases Nat.lt_or_ge k w.heap.size with hh | hh
  · exact hh
  · rw [Array.getElem?_eq_none hh] at h; cases h
/-- Values that are read, and stay so while what is ok stays. -/
def kf : Kd S38 where
  sz := 5
  E := [38, 9]
  K := fun w x cs => k38.K w x cs
  M := fun w base ok x cs => ∃ S : Nat → Prop, (∀ k, S k → okAt w base ok k) ∧ ∀ w' : World, (∀ k, S k → w'.heap[k]? = w.heap[k]?) → k38.K w' x cs
  K_len := fun h => k38.K_len h
  K_one := fun h => k38.K_one h
  K_below := fun hb h => k38.K_below hb h
  K_of_M := fun ⟨S, _, h⟩ => h _ (fun _ _ => rfl)
  M_mono := fun hok ⟨S, h1, h2⟩ => ⟨S, fun k hk => ⟨hok k (h1 k hk).1, (h1 k hk).2⟩, h2⟩
  M_bound := fun ⟨S, h1, h2⟩ => ⟨S, fun k hk => ⟨⟨(h1 k hk).1, (h1 k hk).2.1, (h1 k hk).2.2.1, (h1 k hk).2.2.2⟩, (h1 k hk).2⟩, h2⟩
  M_move := by
    rintro w w1 base ok x cs hm ⟨S, h1, h2⟩
    refine ⟨S, fun k hk => ?_, fun w' hw => h2 w' (fun k hk => (hw k hk).trans (hm k (h1 k hk).1))⟩
    obtain ⟨a, b, c, q, hq, cells, hc⟩ := h1 k hk
    have := (hm k a).trans hc
    exact ⟨a, b, lt_of_block this, q, hq, cells, this⟩
  M_lower := fun hb ⟨S, h1, h2⟩ => ⟨S, fun k hk => ⟨(h1 k hk).1, Nat.le_trans hb (h1 k hk).2.1, (h1 k hk).2.2⟩, h2⟩
/-- A value made of two rows of the call's own: the values (kind kf), the keys, whose row may be clipped. -/
theorem kf_mk {w : World} {base : Nat} {ok : Nat → Prop} {x : S38} {A3 A4 : Option Addr} {c3 c4 cap : Nat} (h3 : kf.R 38 w base ok (.slice A3 x.f3.length c3) x.f3) (h4 : Kd.string.R 9 w base ok (.slice A4 x.f4.length cap) x.f4) (hc : x.f4.length ≤ c4) :
    kf.M w base ok x [.int .i64 x.f0, .int .i64 x.f1, .string x.f2, .slice A3 x.f3.length c3, .slice A4 x.f4.length c4] := by
  refine ⟨fun k => okAt w base ok k, fun k hk => hk, fun w' hw => ?_⟩
  have g3 : kf.R 38 w' base _ (.slice A3 x.f3.length c3) x.f3 := Kd.R_move (Kd.R_bound h3) (fun k hk => hw k (by
    obtain ⟨a, b, c, q, hq, r⟩ := hk
    refine ⟨a, b, c, q, ?_, r⟩
    simp only [kf, List.mem_cons, List.not_mem_nil, or_false] at hq ⊢
    rcases hq with h | h | h
    · exact .inl h
    · exact .inl h
    · exact .inr h))
  have g4 : Kd.string.R 9 w' base _ (.slice A4 x.f4.length cap) x.f4 := Kd.R_move (Kd.R_bound h4) (fun k hk => hw k (by
    obtain ⟨a, b, c, q, hq, r⟩ := hk
    refine ⟨a, b, c, q, ?_, r⟩
    simp only [Kd.string, Kd.scalar, List.mem_cons, List.not_mem_nil, or_false] at hq ⊢
    exact .inr hq))
  obtain ⟨_, l3, r3⟩ := Kd.R_reads' g3
  obtain ⟨_, _, r4⟩ := Kd.R_reads' g4
  exact k38_mk w' x l3 r3 hc r4
theorem kf_C {w : World} {base : Nat} {ok : Nat → Prop} {A : Option Addr} {n c : Nat} {xs : List S38} (h : kf.R 38 w base ok (.slice A n c) xs) : n = xs.length ∧ n ≤ c ∧ k38.C w A xs.length xs := by
  obtain ⟨a, b, c⟩ := Kd.R_reads' (d := kf) h
  exact ⟨a, b, c⟩
set_option maxRecDepth 100000 in
set_option maxHeartbeats 4000000 in
theorem clip_calls (A : Option Addr) (n c : Nat) (w : World) (h : n ≤ c) : Calls Tryz.prog 115 #[.slice A n c] w fun e w' => e = .returned (.slice A n n) ∧ w = w' := by
  go_enter Tryz.func115, Tryz.ntmps115
  go_wp2_with fail
  go_ret
  exact ⟨rfl, rfl⟩
theorem clone_calls (ks : List ByteArray) (A : Option Addr) (c : Nat) (w : World) (hC : Kd.string.C w A ks.length ks) (hm : ks.length ≤ 1099511627776) :
    Calls Tryz.prog 116 #[.slice A ks.length c] w fun e w' => ∃ A' c', e = .returned (.slice A' ks.length c') ∧ Kd.string.R 9 w' w.heap.size (fun _ => True) (.slice A' ks.length c') ks ∧ Below w.heap.size w w' := by
  have fin : ∀ (e : Ending) (w' : World), (∃ v', e = .returned v' ∧ w'.ownsRow w.heap.size 9 1 v' ks.length (ks.map Value.string) ∧ Below w.heap.size w w') → ∃ A' c', e = .returned (.slice A' ks.length c') ∧ Kd.string.R 9 w' w.heap.size (fun _ => True) (.slice A' ks.length c') ks ∧ Below w.heap.size w w' := by
    rintro e w' ⟨v', rfl, ho, hb⟩
    have hR : Kd.string.R 9 w' w.heap.size (fun _ => True) v' ks := Kd.R_of_own (enc := Value.string) (h1 := fun _ => rfl) ho (fun _ _ => trivial)
    obtain ⟨A', c', rfl⟩ := Kd.R_slice hR
    exact ⟨A', c', rfl, hR, hb⟩
  cases A with
  | none =>
    have hk : ks = [] := by
      rcases Nat.eq_zero_or_pos ks.length with h | h
      · exact List.eq_nil_of_length_eq_zero h
      · obtain ⟨_, _, hx⟩ := hC
        obtain ⟨_, e, _⟩ := hx h
        cases e
    subst hk
    refine (Tryz.slices_Clone_string_nil 0 c w).mono ?_
    rintro e w' ⟨rfl, rfl⟩
    exact ⟨none, 0, rfl, Kd.R_nil _ _ _ _ _, Below.refl _ _⟩
  | some a =>
    rcases Nat.eq_zero_or_pos ks.length with h | h
    · have hk := List.eq_nil_of_length_eq_zero h
      subst hk
      refine (Tryz.slices_Clone_string_zero a c w).mono ?_
      rintro e w' ⟨v', rfl, ho, _, hb⟩
      exact fin _ _ ⟨v', rfl, ho, hb⟩
    · obtain ⟨b, o, he, hb, _⟩ := at_str hC 0 h
      cases he
      refine (Tryz.slices_Clone_string b o ks.length c ks w (Nat.le_refl _) (by omega) ?_).mono ?_
      · intro j hj
        obtain ⟨b', o', he', _, hc⟩ := at_str hC j hj
        cases he'
        rw [hc, List.getD_eq_getElem?_getD, List.getElem?_eq_getElem hj]
        rfl
      · rintro e w' ⟨v', rfl, ho, _, hb⟩
        exact fin _ _ ⟨v', rfl, by rw [List.take_length] at ho; exact ho, hb⟩
end Go.Proofs.YtiddjadfkpjpdaaGreatDoor.Q
