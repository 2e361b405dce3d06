/- What the hand-written texts of this seat share: the values of JSON as trees, and their plain functions. -/
import Derived.Test.YtiddjadfkpjpdaaGreatDoorQ0
namespace Go.Proofs.YtiddjadfkpjpdaaGreatDoor.Q
open Go.RowKit Go.Proofs.YtiddjadfkpjpdaaGreatDoorW.PrintWords Go.Proofs.YtiddjadfkpjpdaaGreatDoorW.PrintLast
set_option linter.unusedVariables false
set_option linter.unusedSimpArgs false

theorem retB {a b : Bool} (h : a = b) : Ending.returned (.bool a) = .returned (.bool b) := by rw [h]
/-- has a value nothing but what its kind has? -/
def bareP (k n : Int) (t : ByteArray) (len : Nat) : Prop :=
  (k = 3 ∧ -9007199254740992 ≤ n ∧ n ≤ 9007199254740992 ∨ k = 2 ∧ 0 ≤ n ∧ n ≤ 1 ∨ n = 0) ∧ (k = 4 ∨ t.toList = []) ∧ (k = 5 ∨ k = 6 ∨ len = 0) ∧ len ≤ 64
instance (k n : Int) (t : ByteArray) (len : Nat) : Decidable (bareP k n t len) := by unfold bareP; infer_instance
def bareB (k n : Int) (t : ByteArray) (len : Nat) : Bool := decide (bareP k n t len)

/-- The value x lies in w behind its two slices. -/
structure VC (w : World) (x : S38) (A3 : Option Addr) (c3 : Nat) (A4 : Option Addr) (c4 : Nat) : Prop where
  l3 : x.f3.length ≤ c3
  g3 : k38.C w A3 x.f3.length x.f3
  l4 : x.f4.length ≤ c4
  g4 : Kd.string.C w A4 x.f4.length x.f4
theorem VC.below {w w' : World} {x : S38} {A3 : Option Addr} {c3 : Nat} {A4 : Option Addr} {c4 : Nat} (h : VC w x A3 c3 A4 c4) (hb : Below w.heap.size w w') : VC w' x A3 c3 A4 c4 :=
  ⟨h.l3, Kd.C_below h.g3 hb, h.l4, Kd.C_below h.g4 hb⟩
/-- Element i of a row of values. -/
theorem at_val {w : World} {A : Option Addr} {l : List S38} (h : k38.C w A l.length l) (i : Nat) (hi : i < l.length) :
    ∃ b o A3 c3 A4 c4, A = some ⟨b, o, none⟩ ∧ b < w.heap.size ∧ w.cell? ⟨b, o + i * 5, none⟩ = some (.int .i64 l[i].f0) ∧ w.cell? ⟨b, o + i * 5 + 1, none⟩ = some (.int .i64 l[i].f1) ∧ w.cell? ⟨b, o + i * 5 + 2, none⟩ = some (.string l[i].f2) ∧
      w.cell? ⟨b, o + i * 5 + 3, none⟩ = some (.slice A3 l[i].f3.length c3) ∧ w.cell? ⟨b, o + i * 5 + 4, none⟩ = some (.slice A4 l[i].f4.length c4) ∧ VC w l[i] A3 c3 A4 c4 := by
  obtain ⟨ad, A3, c3, A4, c4, rfl, h0, h1, h2, h3, h4, l3, g3, l4, g4⟩ := at_T38 h (i : Int) (by omega) (by omega)
  have er : rd_T38 l (i : Int) = l[i] := by unfold rd_T38; rw [Int.toNat_natCast, List.getD_eq_getElem?_getD, List.getElem?_eq_getElem hi]; rfl
  rw [er] at h0 h1 h2 h3 h4 l3 g3 l4 g4
  rw [Int.toNat_natCast] at h0 h1 h2 h3 h4
  obtain ⟨b, o, sp⟩ := ad
  have hsp : sp = none := by
    cases sp with
    | none => rfl
    | some s =>
      exfalso
      have hx : w.cell? ⟨b, o, some s⟩ = none := by unfold World.cell?; split <;> simp
      obtain ⟨ad, A3', c3', A4', c4', e, q0, _⟩ := at_T38 h 0 (by omega) (by omega)
      simp only [Option.some.injEq] at e
      subst e
      simp [Addr.add] at q0
      rw [hx] at q0
      cases q0
  subst hsp
  have ea : (⟨b, o, none⟩ : Addr).add (i * 5) = ⟨b, o + i * 5, none⟩ := by
    unfold Addr.add
    split
    · rename_i h; simp [h]
    · rfl
  rw [ea] at h0 h1 h2 h3 h4
  exact ⟨b, o, A3, c3, A4, c4, rfl, World.block_lt_of_cell? w _ h0, h0, h1, h2, h3, h4, ⟨l3, g3, l4, g4⟩⟩
/-- Element i of a row of texts. -/
theorem at_str {w : World} {A : Option Addr} {l : List ByteArray} (h : Kd.string.C w A l.length l) (i : Nat) (hi : i < l.length) :
    ∃ b o, A = some ⟨b, o, none⟩ ∧ b < w.heap.size ∧ w.cell? ⟨b, o + i, none⟩ = some (.string l[i]) := by
  have key : ∀ j : Nat, (hj : j < l.length) → ∃ ad, A = some ad ∧ w.cell? (ad.add j) = some (.string l[j]) := by
    intro j hj
    obtain ⟨ad, c, e, _, hK, hc⟩ := Kd.C_get h ByteArray.empty (j : Int) (by omega) (by omega)
    refine ⟨ad, e, ?_⟩
    have hk : c = [.string (l.getD ((j : Int)).toNat ByteArray.empty)] := hK
    rw [Int.toNat_natCast] at hk
    have := hc 0 (.string (l.getD j ByteArray.empty)) (by rw [hk]; rfl)
    rw [List.getD_eq_getElem?_getD, List.getElem?_eq_getElem hj] at this
    simpa [Kd.string, Kd.scalar] using this
  obtain ⟨ad, rfl, hc⟩ := key i hi
  obtain ⟨b, o, sp⟩ := ad
  have hsp : sp = none := by
    cases sp with
    | none => rfl
    | some s =>
      exfalso
      have hx : w.cell? ⟨b, o, some s⟩ = none := by unfold World.cell?; split <;> simp
      obtain ⟨ad, e, q0⟩ := key 0 (by omega)
      simp only [Option.some.injEq] at e
      subst e
      simp [Addr.add] at q0
      rw [hx] at q0
      cases q0
  subst hsp
  have ea : (⟨b, o, none⟩ : Addr).add i = ⟨b, o + i, none⟩ := by
    unfold Addr.add
    split
    · rename_i h; simp [h]
    · rfl
  rw [ea] at hc
  exact ⟨b, o, rfl, World.block_lt_of_cell? w _ hc, hc⟩

/-- How much a value holds, all in all. -/
def wts0 (l : List Nat) : Nat := l.sum
mutual
def S38.wt : S38 → Nat
  | ⟨_, _, t, l, ks⟩ => 1 + t.size + wtsL l + (ks.map (fun s => 1 + s.size)).sum
def wtsL : List S38 → Nat
  | [] => 0
  | x :: l => x.wt + wtsL l
end
theorem wt_pos (x : S38) : 1 ≤ x.wt := by cases x; simp only [S38.wt]; omega
theorem wts_len (l : List S38) : l.length ≤ wtsL l := by
  induction l with
  | nil => simp
  | cons x l ih => have := wt_pos x; simp only [List.length_cons, wtsL]; omega
theorem wts_mem (l : List S38) (i : Nat) (hi : i < l.length) : l[i].wt ≤ wtsL l := by
  induction l generalizing i with
  | nil => simp at hi
  | cons x l ih =>
    cases i with
    | zero => simp only [List.getElem_cons_zero, wtsL]; omega
    | succ i => simp only [List.getElem_cons_succ, wtsL]; have := ih i (by simpa using hi); omega
theorem keys_len (ks : List ByteArray) : ks.length ≤ (ks.map (fun s => 1 + s.size)).sum := by
  induction ks with
  | nil => simp
  | cons x l ih => simp only [List.length_cons, List.map_cons, List.sum_cons]; omega
theorem wt_f2 (x : S38) : x.f2.size < x.wt := by cases x; simp only [S38.wt]; omega
theorem wt_f3 (x : S38) : wtsL x.f3 < x.wt := by cases x; simp only [S38.wt]; omega
theorem wt_len3 (x : S38) : x.f3.length < x.wt := by have := wt_f3 x; have := wts_len x.f3; omega
theorem wt_len4 (x : S38) : x.f4.length < x.wt := by cases x with | mk k n t l ks => simp only [S38.wt]; have := keys_len ks; omega
theorem wt_elem (x : S38) (i : Nat) (hi : i < x.f3.length) : x.f3[i].wt < x.wt := by have := wt_f3 x; have := wts_mem x.f3 i hi; omega

theorem ba (w : World) (o : Obj) : Below w.heap.size w (w.alloc o) := (Below.refl _ w).alloc (Nat.le_refl _) _
theorem ba2 (w : World) (o o' : Obj) : Below w.heap.size w ((w.alloc o).alloc o') := ((Below.refl _ _).alloc (Nat.le_refl _) _).alloc (by simp) _
/-- A value is stored in a block of its own. -/
def set5 (w : World) (g : Nat) (v0 v1 v2 v3 v4 : Value) : World := (((((w.setCell ⟨g, 0, none⟩ v0).setCell ⟨g, 1, none⟩ v1).setCell ⟨g, 2, none⟩ v2).setCell ⟨g, 3, none⟩ v3).setCell ⟨g, 4, none⟩ v4)
theorem set5_blk {w : World} {g : Nat} {c0 c1 c2 c3 c4 : Value} {t : TypeId} (h : w.heap[g]? = some (.cells #[c0, c1, c2, c3, c4] t (0, 0))) (v0 v1 v2 v3 v4 : Value) : (set5 w g v0 v1 v2 v3 v4).heap[g]? = some (.cells #[v0, v1, v2, v3, v4] t (0, 0)) :=
  blk_set (blk_set (blk_set (blk_set (blk_set h 0 v0) 1 v1) 2 v2) 3 v3) 4 v4
theorem set5_far (w : World) (g : Nat) (v0 v1 v2 v3 v4 : Value) (k : Nat) (h : k ≠ g) : (set5 w g v0 v1 v2 v3 v4).heap[k]? = w.heap[k]? := by
  unfold set5
  rw [Below.heap_setCell _ _ _ _ h, Below.heap_setCell _ _ _ _ h, Below.heap_setCell _ _ _ _ h, Below.heap_setCell _ _ _ _ h, Below.heap_setCell _ _ _ _ h]
theorem gfar {w0 w : World} {row : Option Nat} (h : w0.grownBy w row) (g i : Nat) (hg : w0.heap.size ≤ g) (v : Value) : w0.grownBy (w.setCell ⟨g, i, none⟩ v) row :=
  ⟨h.os, h.tape, h.output, by have := h.size; simpa [World.setCell] using this, fun k hk hne => (Below.heap_setCell w ⟨g, i, none⟩ v k (fun e => by simp at e; omega)).trans (h.block k hk hne)⟩
theorem set5_grown {w0 w : World} {row : Option Nat} (h : w0.grownBy w row) (g : Nat) (hg : w0.heap.size ≤ g) (v0 v1 v2 v3 v4 : Value) : w0.grownBy (set5 w g v0 v1 v2 v3 v4) row := by
  unfold set5
  exact gfar (gfar (gfar (gfar (gfar h g 0 hg v0) g 1 hg v1) g 2 hg v2) g 3 hg v3) g 4 hg v4
end Go.Proofs.YtiddjadfkpjpdaaGreatDoor.Q
