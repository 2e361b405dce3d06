/- How deep a printed value may be. No program in sight. -/
import Derived.Test.YtiddjadfkpjpdaaGreatDoorHCases
set_option linter.unusedVariables false
set_option linter.unusedSimpArgs false
namespace Go.Proofs.YtiddjadfkpjpdaaGreatDoor.Q
theorem fitsB_open (d : Nat) (x : S38) : fitsB (d + 1) x = true ↔ headB x = true ∧ ∀ y ∈ x.f3, fitsB d y = true := by
  constructor
  · intro h
    obtain ⟨e, he, h1, h2⟩ := fits_open h
    obtain rfl : d = e := by omega
    exact ⟨h1, h2⟩
  · rintro ⟨h1, h2⟩
    simp only [fitsB, h1, Bool.true_and, Bool.not_eq_true', List.any_eq_false, Bool.not_eq_true', Bool.not_eq_false]
    intro y hy
    simp [h2 y hy]
theorem fitsB_mono (d : Nat) : ∀ (e : Nat) (x : S38), d ≤ e → fitsB d x = true → fitsB e x = true := by
  induction d with
  | zero => intro e x _ h; cases h
  | succ d ih =>
    intro e x he h
    obtain ⟨e', rfl⟩ : ∃ e', e = e' + 1 := ⟨e - 1, by omega⟩
    obtain ⟨h1, h2⟩ := (fitsB_open d x).1 h
    exact (fitsB_open e' x).2 ⟨h1, fun y hy => ih e' y (by omega) (h2 y hy)⟩
theorem join_mem (xs : List (List UInt8)) (x : List UInt8) (h : x ∈ xs) : x.length ≤ (Lib.join xs [44]).length := by
  induction xs with
  | nil => cases h
  | cons a r ih =>
    cases r with
    | nil => simp only [List.mem_cons, List.not_mem_nil, or_false] at h; subst h; rw [Lib.join_one]; exact Nat.le_refl _
    | cons b r =>
      rw [join_two]
      simp only [List.length_append, List.length_cons]
      rcases List.mem_cons.1 h with rfl | h
      · omega
      · have := ih h; omega
theorem pairs_mem (ks : List ByteArray) (xs : List S38) (h : ks.length = xs.length) (y : S38) (hy : y ∈ xs) : ∃ p ∈ pairsL ks (rendersL xs), (renderL y).length ≤ p.length := by
  induction xs generalizing ks with
  | nil => cases hy
  | cons a xs ih =>
    cases ks with
    | nil => simp at h
    | cons k ks =>
      simp only [pairsL, rendersL, List.zipWith_cons_cons]
      rcases List.mem_cons.1 hy with rfl | hy
      · exact ⟨_, List.mem_cons_self, by simp; omega⟩
      · obtain ⟨p, hp, hl⟩ := ih ks (by simpa using h) hy
        exact ⟨p, List.mem_cons_of_mem _ hp, hl⟩
theorem renders_mem (xs : List S38) (y : S38) (hy : y ∈ xs) : renderL y ∈ rendersL xs := by
  rw [rendersL_map]; exact List.mem_map.2 ⟨y, hy, rfl⟩
/-- A printed value is at most so deep as its text is long. -/
theorem fits_depth (d : Nat) : ∀ (x : S38), fitsB d x = true → fitsB ((renderL x).length + 1) x = true := by
  induction d with
  | zero => intro x h; cases h
  | succ d ih =>
    intro x h
    obtain ⟨h1, h2⟩ := (fitsB_open d x).1 h
    refine (fitsB_open _ x).2 ⟨h1, fun y hy => ?_⟩
    refine fitsB_mono _ _ y ?_ (ih y (h2 y hy))
    cases kind_of h with
    | null hx => subst hx; cases hy
    | tru hx => subst hx; cases hy
    | fls hx => subst hx; cases hy
    | num n _ _ hx => subst hx; cases hy
    | text t hx => subst hx; cases hy
    | list e he xs hx _ hh =>
      subst hh
      have := join_mem _ _ (renders_mem xs y hy)
      simp [renderL]; omega
    | object e he xs ks hx hl _ _ hh =>
      subst hh
      obtain ⟨p, hp, hpl⟩ := pairs_mem ks xs hl y hy
      have := join_mem _ _ hp
      simp [renderL]; omega
end Go.Proofs.YtiddjadfkpjpdaaGreatDoor.Q
