/- What a good value is, by its kind. No program in sight. -/
import Derived.Test.YtiddjadfkpjpdaaGreatDoorHRow
set_option linter.unusedVariables false
set_option linter.unusedSimpArgs false
namespace Go.Proofs.YtiddjadfkpjpdaaGreatDoor.Q
theorem empty_text {t : ByteArray} (h : t.toList = []) : t = ⟨#[]⟩ := by
  rw [ByteArray.toList_eq] at h
  apply ByteArray.ext
  exact Array.toList_eq_nil_iff.1 h
/-- A good value, by its kind. -/
inductive Kind (d : Nat) (x : S38) : Prop
  | null (h : x = ⟨1, 0, ⟨#[]⟩, [], []⟩)
  | tru (h : x = ⟨2, 1, ⟨#[]⟩, [], []⟩)
  | fls (h : x = ⟨2, 0, ⟨#[]⟩, [], []⟩)
  | num (n : Int) (h0 : -9007199254740992 ≤ n) (h1 : n ≤ 9007199254740992) (h : x = ⟨3, n, ⟨#[]⟩, [], []⟩)
  | text (t : ByteArray) (h : x = ⟨4, 0, t, [], []⟩)
  | list (e : Nat) (he : d = e + 1) (xs : List S38) (hx : ∀ y ∈ xs, fitsB e y = true) (h64 : xs.length ≤ 64) (h : x = ⟨5, 0, ⟨#[]⟩, xs, []⟩)
  | object (e : Nat) (he : d = e + 1) (xs : List S38) (ks : List ByteArray) (hx : ∀ y ∈ xs, fitsB e y = true) (hl : ks.length = xs.length) (hu : unlikeL (ks.map byt) = true) (h64 : xs.length ≤ 64) (h : x = ⟨6, 0, ⟨#[]⟩, xs, ks⟩)
theorem kind_of {d : Nat} {x : S38} (h : fitsB d x = true) : Kind d x := by
  obtain ⟨e, he, hh, hl⟩ := fits_open h
  have hp := head_open hh
  obtain ⟨hb1, hb2, hb3, hb4⟩ := hp.bare
  have k1 := hp.k1
  have k6 := hp.k6
  have ob := hp.obj
  have nb := hp.nob
  obtain ⟨k, n, t, l, ks⟩ := x
  simp only at *
  have nl : k ≠ 5 → k ≠ 6 → l = [] := fun h5 h6 => by
    rcases hb3 with hb | hb | hb
    · exact absurd hb h5
    · exact absurd hb h6
    · exact List.eq_nil_of_length_eq_zero hb
  have nt : k ≠ 4 → t = ⟨#[]⟩ := fun h4 => by
    rcases hb2 with hb | hb
    · exact absurd hb h4
    · exact empty_text hb
  have nk : k ≠ 6 → ks = [] := fun h6 => List.eq_nil_of_length_eq_zero (nb h6)
  have nn : k ≠ 3 → k ≠ 2 → n = 0 := fun h3 h2 => by omega
  have hk : k = 1 ∨ k = 2 ∨ k = 3 ∨ k = 4 ∨ k = 5 ∨ k = 6 := by omega
  rcases hk with rfl | rfl | rfl | rfl | rfl | rfl
  · rw [nl (by decide) (by decide), nt (by decide), nk (by decide), nn (by decide) (by decide)]; exact .null rfl
  · rw [nl (by decide) (by decide), nt (by decide), nk (by decide)]
    have : n = 0 ∨ n = 1 := by omega
    rcases this with rfl | rfl
    · exact .fls rfl
    · exact .tru rfl
  · rw [nl (by decide) (by decide), nt (by decide), nk (by decide)]
    exact .num n (by omega) (by omega) rfl
  · rw [nl (by decide) (by decide), nk (by decide), nn (by decide) (by decide)]; exact .text t rfl
  · rw [nt (by decide), nk (by decide), nn (by decide) (by decide)]; exact .list e he l hl hb4 rfl
  · rw [nt (by decide), nn (by decide) (by decide)]
    obtain ⟨h1, h2⟩ := ob rfl
    exact .object e he l ks hl h1 h2 hb4 rfl
end Go.Proofs.YtiddjadfkpjpdaaGreatDoor.Q
