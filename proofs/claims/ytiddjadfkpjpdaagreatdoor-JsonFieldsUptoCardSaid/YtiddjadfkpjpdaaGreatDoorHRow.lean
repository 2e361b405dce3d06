/- json.reader.row. -/
import Derived.Test.YtiddjadfkpjpdaaGreatDoorHNumber
set_option linter.unusedVariables false
set_option linter.unusedSimpArgs false
namespace Go.Proofs.YtiddjadfkpjpdaaGreatDoor.Q
open Go.RowKit Go.Proofs.YtiddjadfkpjpdaaGreatDoorW.PrintWords Go.Proofs.YtiddjadfkpjpdaaGreatDoorW.PrintLast
/-- Where a reader works: the tables lie below it. -/
structure Ctx (p : Nat) (w0 w : World) : Prop where
  env : Env w0
  below : Below w0.heap.size w0 w
  lo : w0.heap.size ≤ p
theorem Ctx.step {p : Nat} {w0 w w' : World} (h : Ctx p w0 w) (hg : w.grownBy w' (some p)) : Ctx p w0 w' := ⟨h.env, h.below.grown hg h.below.size (fun k e => by cases e; exact h.lo), h.lo⟩
theorem Ctx.env' {p : Nat} {w0 w : World} (h : Ctx p w0 w) : Env w := h.env.below h.below
/-- What the reader still may make of its text. -/
def phi (l : List UInt8) (b : Bool) : Nat := 4 * l.length + (if b then 0 else 3)
theorem phi_le {l l' : List UInt8} {b b' : Bool} (h : l'.length ≤ l.length) (hb : b = true → b' = true) : phi l' b' ≤ phi l b := by
  unfold phi
  cases b <;> cases b' <;> simp at hb ⊢ <;> omega
/-- What may stand behind a value. -/
def endOk (t : List UInt8) : Prop := ∀ c t', t = c :: t' → isNum c = false
/-- What value does. -/
def ValP (p : Nat) (l : List UInt8) (b : Bool) (w : World) (e : Ending) (w' : World) : Prop :=
  ∃ (x : S38) (v3 v4 : Value) (r : List UInt8) (b' : Bool), e = .returned (.agg #[.int .i64 x.f0, .int .i64 x.f1, .string x.f2, v3, v4]) ∧ k38.R 38 w' w.heap.size (fun _ => True) v3 x.f3 ∧ Kd.string.R 9 w' w.heap.size (fun _ => True) v4 x.f4 ∧
    Rd p w' r b' ∧ w.grownBy w' (some p) ∧ r.length ≤ l.length ∧ x.wt + phi r b' ≤ 1 + phi l b ∧ (b = true → b' = true) ∧
    (∀ d x0 t, b = false → fitsB d x0 = true → endOk t → l = renderL x0 ++ t → x = x0 ∧ r = t ∧ b' = false)
/-- The parts of a row, with commas between. -/
def partsT (k : Int) (ks : List ByteArray) (xs : List S38) : List UInt8 := Lib.join (if k = 6 then pairsL ks (rendersL xs) else rendersL xs) [44]
/-- What stands behind a part. -/
def tailT (k : Int) (ed : UInt8) (ks : List ByteArray) (xs : List S38) (t : List UInt8) : List UInt8 := if xs = [] then ed :: t else 44 :: (partsT k ks xs ++ ed :: t)
theorem join_two (x a : List UInt8) (r : List (List UInt8)) : Lib.join (x :: a :: r) [44] = x ++ 44 :: Lib.join (a :: r) [44] := by
  rw [Lib.join_cons, Lib.join_cons]
  simp [Lib.joinTail]
theorem parts5 {k : Int} (hk : k ≠ 6) (ed : UInt8) (ks : List ByteArray) (y : S38) (x2 : List S38) (t : List UInt8) : partsT k ks (y :: x2) ++ ed :: t = renderL y ++ tailT k ed ks x2 t := by
  unfold tailT partsT
  simp only [if_neg hk, rendersL]
  cases x2 with
  | nil => simp [rendersL, Lib.join_one]
  | cons z x3 => simp only [rendersL, join_two]; simp
theorem parts6 (ed : UInt8) (key : ByteArray) (ks : List ByteArray) (y : S38) (x2 : List S38) (h : ks.length = x2.length) (t : List UInt8) : partsT 6 (key :: ks) (y :: x2) ++ ed :: t = quoteL (byt key) ++ 58 :: (renderL y ++ tailT 6 ed ks x2 t) := by
  unfold tailT partsT
  simp only [if_true, rendersL, pairsL, List.zipWith_cons_cons]
  cases x2 with
  | nil =>
    have : ks = [] := List.eq_nil_of_length_eq_zero (by simpa using h)
    subst this
    simp [rendersL, Lib.join_one]
  | cons z x3 =>
    cases ks with
    | nil => simp at h
    | cons k2 ks => simp only [rendersL, List.zipWith_cons_cons, join_two]; simp
/-- What the text is where row stands, if it is a row's. -/
structure RowQ (k : Int) (ed : UInt8) (l : List UInt8) (b : Bool) (xs0 : List S38) (ks0 : List ByteArray) (t : List UInt8) : Prop where
  b : b = false
  fits : ∃ d, ∀ y ∈ xs0, fitsB d y = true
  six : k = 6 → ks0.length = xs0.length
  five : k ≠ 6 → ks0 = []
  text : l = partsT k ks0 xs0 ++ ed :: t
theorem wts_app (l : List S38) (x : S38) : wtsL (l ++ [x]) = wtsL l + x.wt := by
  induction l with
  | nil => simp [wtsL]
  | cons y l ih => simp only [List.cons_append, wtsL, ih]; omega
/-- What row does: k: an array's kind or an object's; end: the bracket. -/
def RowP (k : Int) (ed : UInt8) (p : Nat) (l : List UInt8) (b : Bool) (w : World) (e : Ending) (w' : World) : Prop :=
  ∃ (xs : List S38) (ks : List ByteArray) (v3 v4 : Value) (r : List UInt8) (b' : Bool), e = .returned (.agg #[.int .i64 k, .int .i64 0, .string ⟨#[]⟩, v3, v4]) ∧ k38.R 38 w' w.heap.size (fun _ => True) v3 xs ∧ Kd.string.R 9 w' w.heap.size (fun _ => True) v4 ks ∧
    Rd p w' r b' ∧ w.grownBy w' (some p) ∧ r.length ≤ l.length ∧ wtsL xs + (ks.map (fun s => 1 + s.size)).sum + phi r b' ≤ phi l b + 2 ∧ (b = true → b' = true) ∧
    (∀ xs0 ks0 t, RowQ k ed l b xs0 ks0 t → xs = xs0 ∧ ks = ks0 ∧ r = t ∧ b' = false)
/-- Where row stands at its loop's head. -/
structure RowI (k : Int) (ed : UInt8) (p : Nat) (l : List UInt8) (b : Bool) (w : World) (xs : List S38) (ks : List ByteArray) (vL vK : Value) (l' : List UInt8) (b' : Bool) (dt : Nat) (wr : World) : Prop where
  rd : Rd p wr l' b'
  V : wr.heap[w.heap.size]? = some (.cells #[.int .i64 k, .int .i64 0, .string ⟨#[]⟩, vL, vK] 38 (0, 0))
  Z : wr.heap[w.heap.size + 1]? = some (.cells #[.int .i64 0, .int .i64 0, .string ⟨#[]⟩, .slice none 0 0, .slice none 0 0] 38 (0, 0))
  L : k38.R 38 wr (w.heap.size + 2) (fun q => some q ≠ vK.ownBlock) vL xs
  K : Kd.string.R 9 wr (w.heap.size + 2) (fun _ => True) vK ks
  gr : w.grownBy wr (some p)
  sz : w.heap.size + 2 ≤ wr.heap.size
  len : l'.length ≤ l.length
  wt : wtsL xs + (ks.map (fun s => 1 + s.size)).sum + phi l' b' ≤ phi l b + dt
  bb : b = true → b' = true
/-- .. and what the rest of the text is, if the whole is a row's. -/
def RowC (k : Int) (ed : UInt8) (l : List UInt8) (b : Bool) (xs : List S38) (ks : List ByteArray) (l' : List UInt8) (b' : Bool) : Prop :=
  ∀ xs0 ks0 t, RowQ k ed l b xs0 ks0 t → b' = false ∧ ∃ x1 ks1, x1 ≠ [] ∧ xs0 = xs ++ x1 ∧ ks0 = ks ++ ks1 ∧ RowQ k ed l' b' x1 ks1 t
/-- A reader's step leaves the rows that lie behind it. -/
theorem RowI.step {k : Int} {ed : UInt8} {p : Nat} {l : List UInt8} {b : Bool} {w : World} {xs : List S38} {ks : List ByteArray} {vL vK : Value} {l' : List UInt8} {b' : Bool} {dt : Nat} {wr : World} (h : RowI k ed p l b w xs ks vL vK l' b' dt wr) (hp : p < w.heap.size) {l2 : List UInt8} {b2 : Bool} {w2 : World}
    (hr : Rd p w2 l2 b2) (hg : wr.grownBy w2 (some p)) (hl : l2.length ≤ l'.length) (hbb : b' = true → b2 = true) : RowI k ed p l b w xs ks vL vK l2 b2 dt w2 where
  rd := hr
  V := blk_grown h.V hg (by simp; omega)
  Z := blk_grown h.Z hg (by simp; omega)
  L := Kd.R_mono (Kd.R_grown (Kd.R_bound h.L) hg (fun q hq => by have := hq.2.1; simp; omega)) (fun _ hq => hq.1)
  K := Kd.R_mono (Kd.R_grown (Kd.R_bound h.K) hg (fun q hq => by have := hq.2.1; simp; omega)) (fun _ hq => hq.1)
  gr := h.gr.trans hg
  sz := Nat.le_trans h.sz hg.size
  len := Nat.le_trans hl h.len
  wt := by have := h.wt; have := phi_le hl hbb; omega
  bb := fun hb => hbb (h.bb hb)
theorem RowI.addK {k : Int} {ed : UInt8} {p : Nat} {l : List UInt8} {b : Bool} {w : World} {xs : List S38} {ks : List ByteArray} {vL vK : Value} {l' : List UInt8} {b' : Bool} {dt : Nat} {wr : World} (h : RowI k ed p l b w xs ks vL vK l' b' dt wr) (hp : p < w.heap.size) (s : ByteArray) {v1 : Value} {w1 : World}
    (hK : Kd.string.R 9 w1 (w.heap.size + 2) (fun _ => True) v1 (ks ++ [s])) (hB : Below (w.heap.size + 2) wr w1) (hg : wr.grownBy w1 vK.ownBlock) (hat : v1.ownBlock = vK.ownBlock ∨ ∃ b, v1.ownBlock = some b ∧ wr.heap.size ≤ b) (dt' : Nat)
    (hw : wtsL xs + ((ks ++ [s]).map (fun s => 1 + s.size)).sum + phi l' b' ≤ phi l b + dt') : RowI k ed p l b w xs (ks ++ [s]) vL v1 l' b' dt' (w1.setCell ⟨w.heap.size, 4, none⟩ v1) where
  rd := blk_far ((hB.block p (by omega)).trans h.rd) (p := ⟨w.heap.size, 4, none⟩) (by simp; omega) _
  V := blk_set ((hB.block _ (by omega)).trans h.V) 4 _
  Z := blk_far ((hB.block _ (by omega)).trans h.Z) (p := ⟨w.heap.size, 4, none⟩) (by simp) _
  L := by
    have h1 := Kd.R_after (ok := fun _ => True) (Kd.R_mono h.L (fun q hq => ⟨trivial, hq⟩)) hg hat
    refine Kd.R_mono (Kd.R_far (p := ⟨w.heap.size, 4, none⟩) (Kd.R_bound h1) (fun q hq => ?_) v1) (fun q hq => hq.1.2)
    have := hq.2.1; simp; omega
  K := by
    refine Kd.R_mono (Kd.R_far (p := ⟨w.heap.size, 4, none⟩) (Kd.R_bound hK) (fun q hq => ?_) v1) (fun q hq => hq.1)
    have := hq.2.1; simp; omega
  gr := gfar (gthen h.gr hB (by omega)) _ _ (Nat.le_refl _) _
  sz := by have := hB.size; have := h.sz; simp [World.setCell]; omega
  len := h.len
  wt := hw
  bb := h.bb
theorem RowI.addL {k : Int} {ed : UInt8} {p : Nat} {l : List UInt8} {b : Bool} {w : World} {xs : List S38} {ks : List ByteArray} {vL vK : Value} {l' : List UInt8} {b' : Bool} {dt : Nat} {wr : World} (h : RowI k ed p l b w xs ks vL vK l' b' dt wr) (hp : p < w.heap.size) (x : S38) {v1 : Value} {w1 : World}
    (hL : k38.R 38 w1 (w.heap.size + 2) (fun q => some q ≠ vK.ownBlock) v1 (xs ++ [x])) (hB : Below (w.heap.size + 2) wr w1) (hg : wr.grownBy w1 vL.ownBlock) (dt' : Nat)
    (hw : wtsL (xs ++ [x]) + (ks.map (fun s => 1 + s.size)).sum + phi l' b' ≤ phi l b + dt') : RowI k ed p l b w (xs ++ [x]) ks v1 vK l' b' dt' (w1.setCell ⟨w.heap.size, 3, none⟩ v1) where
  rd := blk_far ((hB.block p (by omega)).trans h.rd) (p := ⟨w.heap.size, 3, none⟩) (by simp; omega) _
  V := blk_set ((hB.block _ (by omega)).trans h.V) 3 _
  Z := blk_far ((hB.block _ (by omega)).trans h.Z) (p := ⟨w.heap.size, 3, none⟩) (by simp) _
  L := by
    refine Kd.R_mono (Kd.R_far (p := ⟨w.heap.size, 3, none⟩) (Kd.R_bound hL) (fun q hq => ?_) v1) (fun q hq => hq.1)
    have := hq.2.1; simp; omega
  K := by
    have h1 := Kd.R_over h.K h.L (by decide) hg
    refine Kd.R_mono (Kd.R_far (p := ⟨w.heap.size, 3, none⟩) (Kd.R_bound h1) (fun q hq => ?_) v1) (fun q hq => hq.1)
    have := hq.2.1; simp; omega
  gr := gfar (gthen h.gr hB (by omega)) _ _ (Nat.le_refl _) _
  sz := by have := hB.size; have := h.sz; simp [World.setCell]; omega
  len := h.len
  wt := hw
  bb := h.bb
theorem RowI.done {k : Int} {ed : UInt8} {p : Nat} {l : List UInt8} {b : Bool} {w : World} {xs : List S38} {ks : List ByteArray} {vL vK : Value} {l' : List UInt8} {b' : Bool} {dt : Nat} {wr : World} (h : RowI k ed p l b w xs ks vL vK l' b' dt wr) (hp : p < w.heap.size) (hdt : dt ≤ 2)
    (hok : ∀ xs0 ks0 t, RowQ k ed l b xs0 ks0 t → xs = xs0 ∧ ks = ks0 ∧ l' = t ∧ b' = false) :
    RowP k ed p l b w (.returned (.agg #[.int .i64 k, .int .i64 0, .string ⟨#[]⟩, vL, vK])) (set5 wr (w.heap.size + 1) (.int .i64 k) (.int .i64 0) (.string ⟨#[]⟩) vL vK) := by
  refine ⟨xs, ks, vL, vK, l', b', rfl, ?_, ?_, set5_rd h.rd _ (by omega) _ _ _ _ _, set5_grown h.gr _ (by omega) _ _ _ _ _, h.len, by have := h.wt; omega, h.bb, hok⟩
  · refine Kd.R_lower (Kd.R_mono (Kd.R_step (Kd.R_bound h.L) (fun q hq _ => set5_far _ _ _ _ _ _ _ q ?_)) (fun _ _ => trivial)) (by omega)
    have := hq.2.1; omega
  · refine Kd.R_lower (Kd.R_mono (Kd.R_step (Kd.R_bound h.K) (fun q hq _ => set5_far _ _ _ _ _ _ _ q ?_)) (fun _ _ => trivial)) (by omega)
    have := hq.2.1; omega
theorem head_dec (u : Nat) : ∃ c r, Lib.decDigits u = c :: r ∧ 48 ≤ c.toNat ∧ c.toNat ≤ 57 := by
  cases h : Lib.decDigits u with
  | nil => exact absurd h (dec_ne u)
  | cons c r => exact ⟨c, r, rfl, dec_digits u c (by rw [h]; exact List.mem_cons_self)⟩
theorem head_itoa (n : Int) : ∃ c r, Lib.itoa n = c :: r ∧ isNum c = true := by
  cases h : Lib.itoa n with
  | nil => exact absurd h (itoa_ne n)
  | cons c r => exact ⟨c, r, rfl, itoa_num n c (by rw [h]; exact List.mem_cons_self)⟩
/-- How a value's text begins. -/
theorem render_head (y : S38) : ∃ c r, renderL y = c :: r ∧ c ≠ 93 ∧ c ≠ 125 := by
  obtain ⟨k, n, t, l, ks⟩ := y
  simp only [renderL]
  split
  · exact ⟨110, _, rfl, by decide, by decide⟩
  · split
    · split
      · exact ⟨116, _, rfl, by decide, by decide⟩
      · exact ⟨102, _, rfl, by decide, by decide⟩
    · split
      · obtain ⟨c, r, h, hc⟩ := head_itoa n
        rw [isNum_iff] at hc
        exact ⟨c, r, h, by rintro rfl; revert hc; decide, by rintro rfl; revert hc; decide⟩
      · split
        · exact ⟨34, _, rfl, by decide, by decide⟩
        · split
          · exact ⟨91, _, rfl, by decide, by decide⟩
          · exact ⟨123, _, rfl, by decide, by decide⟩
theorem parts_head {k : Int} {ed : UInt8} (hk : k = 5 ∧ ed = 93 ∨ k = 6 ∧ ed = 125) (ks : List ByteArray) (y : S38) (x2 : List S38) (h6 : k = 6 → ks.length = (y :: x2).length) (t : List UInt8) : ∃ c r, partsT k ks (y :: x2) ++ ed :: t = c :: r ∧ c ≠ ed := by
  rcases hk with ⟨rfl, rfl⟩ | ⟨rfl, rfl⟩
  · rw [parts5 (by decide)]
    obtain ⟨c, r, h, h1, h2⟩ := render_head y
    exact ⟨c, _, by rw [h]; rfl, h1⟩
  · cases ks with
    | nil => simp at h6
    | cons key ks => rw [parts6 _ _ _ _ _ (by simpa using h6)]; exact ⟨34, _, rfl, by decide⟩
/-- A row whose text begins with its end is empty. -/
theorem RowQ.empty {k : Int} {ed : UInt8} {l : List UInt8} {b : Bool} (hk : k = 5 ∧ ed = 93 ∨ k = 6 ∧ ed = 125) {xs0 : List S38} {ks0 : List ByteArray} {t : List UInt8} (h : RowQ k ed (ed :: l) b xs0 ks0 t) : [] = xs0 ∧ [] = ks0 ∧ l = t ∧ b = false := by
  cases xs0 with
  | nil =>
    have hk0 : ks0 = [] := by
      by_cases h6 : k = 6
      · exact List.eq_nil_of_length_eq_zero (by simpa using h.six h6)
      · exact h.five h6
    subst hk0
    have := h.text
    simp [partsT, rendersL, pairsL, Lib.join_nil] at this
    exact ⟨rfl, rfl, this, h.b⟩
  | cons y x2 =>
    obtain ⟨c, r, hc, hne⟩ := parts_head hk ks0 y x2 h.six t
    have := h.text
    rw [hc] at this
    simp at this
    exact absurd this.1.symm hne
theorem RowQ.some {k : Int} {ed : UInt8} {l : List UInt8} {b : Bool} {xs0 : List S38} {ks0 : List ByteArray} {t : List UInt8} (h : RowQ k ed l b xs0 ks0 t) (hl : [ed].isPrefixOf l = false) : xs0 ≠ [] := by
  rintro rfl
  have := h.text
  rw [this] at hl
  have hk0 : ks0 = [] := by
    by_cases h6 : k = 6
    · exact List.eq_nil_of_length_eq_zero (by simpa using h.six h6)
    · exact h.five h6
  subst hk0
  simp [partsT, rendersL, pairsL, Lib.join_nil] at hl
def msr (p : Nat) (w : World) : Nat := match w.cell? ⟨p, 0, none⟩, w.cell? ⟨p, 1, none⟩ with | .some (.string s), .some (.bool b) => 2 * s.size + (if b then 0 else 1) | _, _ => 0
theorem Rd.msr {p : Nat} {w : World} {l : List UInt8} {b : Bool} (h : Rd p w l b) : msr p w = 2 * l.length + (if b then 0 else 1) := by
  unfold Q.msr; rw [h.cells.1, h.cells.2.1]; rfl
/-- The end of a round: the next one's text. -/
theorem RowC.next {k : Int} {ed : UInt8} {l : List UInt8} {b : Bool} {xs : List S38} {ks : List ByteArray} {l' : List UInt8} (h : RowC k ed l b xs ks l' false) (hk : k = 5 ∧ ed = 93 ∨ k = 6 ∧ ed = 125) (x : S38) (kadd : List ByteArray) (r : List UInt8) (b3 : Bool)
    (hx : ∀ d y ks1 x2 t, RowQ k ed l' false (y :: x2) ks1 t → fitsB d y = true → ∃ ks2, ks1 = kadd ++ ks2 ∧ x = y ∧ r = tailT k ed ks2 x2 t ∧ b3 = false ∧ (k = 6 → ks2.length = x2.length) ∧ (k ≠ 6 → ks2 = [])) :
    ∀ xs0 ks0 t, RowQ k ed l b xs0 ks0 t → ∃ x2 ks2, b3 = false ∧ xs0 = xs ++ [x] ++ x2 ∧ ks0 = ks ++ kadd ++ ks2 ∧ r = tailT k ed ks2 x2 t ∧ (k = 6 → ks2.length = x2.length) ∧ (k ≠ 6 → ks2 = []) ∧ (∃ d, ∀ y ∈ x2, fitsB d y = true) := by
  intro xs0 ks0 t hq
  obtain ⟨_, x1, ks1, hne, rfl, rfl, hq1⟩ := h xs0 ks0 t hq
  cases x1 with
  | nil => exact absurd rfl hne
  | cons y x2 =>
    obtain ⟨d, hd⟩ := hq1.fits
    obtain ⟨ks2, rfl, rfl, hr, hb, h6, h5⟩ := hx d y ks1 x2 t hq1 (hd y List.mem_cons_self)
    exact ⟨x2, ks2, hb, by simp, by simp, hr, h6, h5, d, fun z hz => hd z (List.mem_cons_of_mem _ hz)⟩
theorem gundrew {w w' : World} {row : Option Nat} (h : w.drew.grownBy w' row) : w.grownBy w' row := ⟨h.os, h.tape, h.output, h.size, h.block⟩
theorem Ctx.drew {p : Nat} {w0 w : World} (h : Ctx p w0 w) : Ctx p w0 w.drew := ⟨h.env, below_drew1 h.below, h.lo⟩
set_option maxRecDepth 100000 in
set_option maxHeartbeats 16000000 in
theorem row_of (k : Int) (ed : UInt8) (hk : k = 5 ∧ ed = 93 ∨ k = 6 ∧ ed = 125) (p : Nat) (l : List UInt8) (b : Bool) (w0 w : World) (h : Rd p w l b) (hl : l.length ≤ 1073741824) (hC : Ctx p w0 w)
    (HV : ∀ (l' : List UInt8) (b' : Bool) (W : World), l'.length ≤ l.length → Rd p W l' b' → Ctx p w0 W → Calls Tryz.prog 65 #[.pointer (some ⟨p, 0, none⟩)] W (ValP p l' b' W)) :
    Calls Tryz.prog 101 #[.pointer (some ⟨p, 0, none⟩), .agg #[.int .i64 k, .int .i64 0, .string ⟨#[]⟩, .slice none 0 0, .slice none 0 0], .string ⟨#[ed]⟩] w (RowP k ed p l b w) := by
  have hpl := h.lt
  obtain ⟨W1, hW1⟩ : ∃ W1, (w.alloc (.cells #[.int .i64 k, .int .i64 0, .string ⟨#[]⟩, .slice none 0 0, .slice none 0 0] 38)).alloc (.cells #[.int .i64 0, .int .i64 0, .string ⟨#[]⟩, .slice none 0 0, .slice none 0 0] 38) = W1 := ⟨_, rfl⟩
  have hs1 : W1.heap.size = w.heap.size + 2 := by rw [← hW1]; simp
  have hV1 : W1.heap[w.heap.size]? = some (.cells #[.int .i64 k, .int .i64 0, .string ⟨#[]⟩, .slice none 0 0, .slice none 0 0] 38 (0, 0)) := by
    rw [← hW1]; exact ((ba _ _).block _ (by simp)).trans (World.alloc_heap_new w _)
  have hZ1 : W1.heap[w.heap.size + 1]? = some (.cells #[.int .i64 0, .int .i64 0, .string ⟨#[]⟩, .slice none 0 0, .slice none 0 0] 38 (0, 0)) := by
    rw [← hW1]; have := World.alloc_heap_new (w.alloc (.cells #[.int .i64 k, .int .i64 0, .string ⟨#[]⟩, .slice none 0 0, .slice none 0 0] 38)) (.cells #[.int .i64 0, .int .i64 0, .string ⟨#[]⟩, .slice none 0 0, .slice none 0 0] 38); rwa [World.size_alloc] at this
  have hb1 : Below w.heap.size w W1 := by rw [← hW1]; exact (ba _ _).trans ((ba _ _).mono (by simp))
  have hR1 := h.kept hb1
  have hI1 : RowI k ed p l b w [] [] (.slice none 0 0) (.slice none 0 0) l b 0 W1 := ⟨hR1, hV1, hZ1, Kd.R_nil _ _ _ _ _, Kd.R_nil _ _ _ _ _, gbelow hb1 _, by omega, Nat.le_refl _, by simp [wtsL], fun h => h⟩
  have HI1 := Lib.hid hI1
  have HPH : Hid (phi l b ≤ 4294967299) := by show _ ≤ _; unfold phi; split <;> omega
  have hCX := Lib.hid hC
  have HW1 := Lib.hid hW1
  have HVV := Lib.hid HV
  have HT := Lib.hid (take_calls p l [ed] b W1 hR1 (by omega))
  clear h hR1 hW1 HV hI1 hV1 hZ1 hC hb1 hs1
  cases hp : [ed].isPrefixOf l with
  | true =>
    simp only [hp, if_true] at HT
    go_enter Tryz.func101, Tryz.ntmps101
    go_wp2_with fail
    rw [HW1.out]
    refine HT.out.mono ?_
    rintro e w2 ⟨rfl, h2, g2⟩
    have HI2 := Lib.hid (HI1.out.step hpl h2 g2 (by simp) (fun h => h))
    clear h2 g2
    have V0 := blk_cell HI2.out.V 0
    have V1 := blk_cell HI2.out.V 1
    have V2 := blk_cell HI2.out.V 2
    have V3 := blk_cell HI2.out.V 3
    have V4 := blk_cell HI2.out.V 4
    have Z0 := blk_cell HI2.out.Z 0
    have Z1 := blk_cell HI2.out.Z 1
    have Z2 := blk_cell HI2.out.Z 2
    have Z3 := blk_cell HI2.out.Z 3
    have Z4 := blk_cell HI2.out.Z 4
    have F0 := blk_frozen HI2.out.Z 0
    have F1 := blk_frozen HI2.out.Z 1
    have F2 := blk_frozen HI2.out.Z 2
    have F3 := blk_frozen HI2.out.Z 3
    have F4 := blk_frozen HI2.out.Z 4
    have hZ9 := set5_blk HI2.out.Z (.int .i64 k) (.int .i64 0) (.string ⟨#[]⟩) (.slice none 0 0) (.slice none 0 0)
    have HDN := Lib.hid (HI2.out.done hpl (Nat.zero_le _) (fun xs0 ks0 t hq => by
        cases l with
        | nil => simp at hp
        | cons c r =>
          simp at hp
          subst hp
          simpa using hq.empty hk))
    have HZ9 := Lib.hid hZ9
    clear hZ9
    go_wp2_with fail
    refine bodyPost_ret (results_cell_row rfl _ _ (w.heap.size + 1) 38 _ (0, 0) _ rfl HZ9.out Tryz.underlying38 rfl (by kernel_rfl)) rfl ?_
    exact HDN.out

  | false =>
    simp only [hp, Bool.false_eq_true, if_false] at HT
    go_enter Tryz.func101, Tryz.ntmps101
    go_wp2_with fail
    rw [HW1.out]
    refine HT.out.mono ?_
    rintro e w2 ⟨rfl, h2, g2⟩
    have HI2 := Lib.hid (HI1.out.step hpl h2 g2 (Nat.le_refl _) (fun h => h))
    clear h2 g2
    go_wp2_with fail
    go_loopw [11] (fun _ wr => ∃ xs ks vL vK l' b' dt, RowI k ed p l b w xs ks vL vK l' b' dt wr ∧ RowC k ed l b xs ks l' b' ∧ dt ≤ 2 ∧ (b' = false → dt = 0)) (fun _ wr => msr p wr)
    case atStart => exact ⟨[], [], _, _, l, b, 0, HI2.out, fun xs0 ks0 t hq => ⟨hq.b, xs0, ks0, hq.some hp, rfl, rfl, by rw [hq.b]; rw [hq.b] at hq; exact hq⟩, by omega, fun _ => rfl⟩
    case round =>
      obtain ⟨xs, ks, vL, vK, l', b', dt, hI, hRCx, hdt, hd0⟩ := hrel
      have HI := Lib.hid hI
      have hRC := Lib.hid hRCx
      have HLL := Lib.hid hI.len
      have HMS := Lib.hid hI.rd.msr
      clear hRCx
      obtain ⟨AL, cL, rfl⟩ := Kd.R_slice hI.L
      obtain ⟨AK, cK, rfl⟩ := Kd.R_slice hI.K
      obtain ⟨c0, c1, f0, f1⟩ := hI.rd.cells
      cases b' with
      | true =>
        clear hI
        have V0 := blk_cell HI.out.V 0
        have V1 := blk_cell HI.out.V 1
        have V2 := blk_cell HI.out.V 2
        have V3 := blk_cell HI.out.V 3
        have V4 := blk_cell HI.out.V 4
        have Z0 := blk_cell HI.out.Z 0
        have Z1 := blk_cell HI.out.Z 1
        have Z2 := blk_cell HI.out.Z 2
        have Z3 := blk_cell HI.out.Z 3
        have Z4 := blk_cell HI.out.Z 4
        have F0 := blk_frozen HI.out.Z 0
        have F1 := blk_frozen HI.out.Z 1
        have F2 := blk_frozen HI.out.Z 2
        have F3 := blk_frozen HI.out.Z 3
        have F4 := blk_frozen HI.out.Z 4
        have hZ9 := set5_blk HI.out.Z (.int .i64 k) (.int .i64 0) (.string ⟨#[]⟩) (Value.slice AL xs.length cL) (Value.slice AK ks.length cK)
        have HDN := Lib.hid (HI.out.done hpl hdt (fun xs0 ks0 t hq => by have := (hRC.out xs0 ks0 t hq).1; simp at this))
        have HZ9 := Lib.hid hZ9
        clear hZ9
        go_wp2_with fail
        refine bodyPost_ret (results_cell_row rfl _ _ (w.heap.size + 1) 38 _ (0, 0) _ rfl HZ9.out Tryz.underlying38 rfl (by kernel_rfl)) rfl ?_
        exact HDN.out

      | false =>
        have hdz : dt = 0 := hd0 rfl
        subst hdz
        clear hI hd0
        have V0 := blk_cell HI.out.V 0
        have V1 := blk_cell HI.out.V 1
        have V2 := blk_cell HI.out.V 2
        have V3 := blk_cell HI.out.V 3
        have V4 := blk_cell HI.out.V 4
        have Z0 := blk_cell HI.out.Z 0
        have Z1 := blk_cell HI.out.Z 1
        have Z2 := blk_cell HI.out.Z 2
        have Z3 := blk_cell HI.out.Z 3
        have Z4 := blk_cell HI.out.Z 4
        have F0 := blk_frozen HI.out.Z 0
        have F1 := blk_frozen HI.out.Z 1
        have F2 := blk_frozen HI.out.Z 2
        have F3 := blk_frozen HI.out.Z 3
        have F4 := blk_frozen HI.out.Z 4

        by_cases hk6 : k = 6
        · have q6 : (k == 6) = true := by simp [hk6]
          have HK6 := Lib.hid hk6
          clear hk6
          go_wp2_with fail
          refine start_ (n := 8) (S := fun w' => w'.cell? ⟨w.heap.size, 4, none⟩ = some (Value.slice AK ks.length cK) ∧ w'.frozen? ⟨w.heap.size, 4, none⟩ = false) (ds := [7]) #[false, false, false, false, false, false, false, false] (by kernel_rfl) rfl rfl ⟨V4.trans rfl, blk_frozen HI.out.V 4⟩ (fun hHeld => ?_)
          refine pure_ (i := 0) (N := some 19) (v := ?_) (a' := ?_) #[true, false, false, false, false, false, false, false] rfl rfl (by kernel_rfl) (fun _ _ _ h => h) (Or.inl ⟨by rfl, ?_⟩) ?_ ?_
          rotate_left
          · intro w'
            go_simp
            with_reducible rfl
          rotate_left
          · simp only [Act.put, List.setIfInBounds_toArray, List.set_cons_zero, List.set_cons_succ, Go.Proofs.YtiddjadfkpjpdaaGreatDoorW.PrintLast.i64_w, Go.Proofs.YtiddjadfkpjpdaaGreatDoorW.PrintLast.i32_w]
            rfl
          refine take_ (i := 1) (N := some 20) (v := ?_) (a' := ?_) #[true, true, false, false, false, false, false, false] rfl rfl (by kernel_rfl) (fun _ _ _ h => h) (Or.inl ⟨by rfl, ?_⟩) hHeld ?_ ?_
          rotate_left
          · rintro w' ⟨s0, s1⟩
            go_simp
            with_reducible rfl
          rotate_left
          · simp only [Act.put, List.setIfInBounds_toArray, List.set_cons_zero, List.set_cons_succ, Go.Proofs.YtiddjadfkpjpdaaGreatDoorW.PrintLast.i64_w, Go.Proofs.YtiddjadfkpjpdaaGreatDoorW.PrintLast.i32_w]
            rfl
          refine pure_ (i := 2) (N := some 21) (v := ?_) (a' := ?_) #[true, true, true, false, false, false, false, false] rfl rfl (by kernel_rfl) (fun _ _ _ h => h) (Or.inl ⟨by rfl, ?_⟩) ?_ ?_
          rotate_left
          · intro w'
            go_simp
            with_reducible rfl
          rotate_left
          · simp only [Act.put, List.setIfInBounds_toArray, List.set_cons_zero, List.set_cons_succ, Go.Proofs.YtiddjadfkpjpdaaGreatDoorW.PrintLast.i64_w, Go.Proofs.YtiddjadfkpjpdaaGreatDoorW.PrintLast.i32_w]
            rfl
          refine one_ (i := 3) (N := some 22) #[true, true, true, true, false, false, false, false] rfl rfl (by kernel_rfl) (by decide) (fun K hK => ?_)
          refine goes_ Tryz.func100 (by kernel_rfl) rfl #[.pointer (some ⟨p, 0, none⟩)] (by rfl) rfl rfl (by (try simp only [List.map_toArray, List.map_cons, List.map_nil]); first | done | rfl) ?_
          refine (text_calls p l' false _ HI.out.rd.drew (by have := HLL.out; omega)).mono ?_
          rintro e w5 ⟨s, r1, b1, rfl, hr1, hg1, hl1, hc1⟩
          have HI5 := Lib.hid (HI.out.step hpl hr1 (gundrew hg1) (by omega) (fun h => by cases h))
          have HC1 := Lib.hid hc1
          have HL1 := Lib.hid hl1
          clear hr1 hg1 hc1 hl1
          refine ⟨_, rfl, ?_⟩
          refine hK.out _ _ ⟨(blk_cell HI5.out.V 4).trans rfl, blk_frozen HI5.out.V 4⟩ (fun hHeld => ?_)
          clear hK K
          refine norm_ (a' := ?_) ?_ ?_
          rotate_left
          · show Act.put _ (some 22) _ = _
            simp only [Act.put, List.setIfInBounds_toArray, List.set_cons_zero, List.set_cons_succ, Go.Proofs.YtiddjadfkpjpdaaGreatDoorW.PrintLast.i64_w, Go.Proofs.YtiddjadfkpjpdaaGreatDoorW.PrintLast.i32_w]
            rfl
          refine one_ (i := 4) (N := some 23) #[true, true, true, true, true, false, false, false] rfl rfl (by kernel_rfl) (by decide) (fun K hK => ?_)
          refine value_ (w1 := ?_) (v := ?_) (by rfl) rfl ?_ ?_
          rotate_left 2
          · go_simp
            constructor
            · rfl
            · rfl
          refine hK.out _ _ ⟨(blk_cell (blk_alloc HI5.out.V _) 4).trans rfl, blk_frozen (blk_alloc HI5.out.V _) 4⟩ (fun hHeld => ?_)
          clear hK K
          refine norm_ (a' := ?_) ?_ ?_
          rotate_left
          · show Act.put _ (some 23) _ = _
            simp only [Act.put, List.setIfInBounds_toArray, List.set_cons_zero, List.set_cons_succ, Go.Proofs.YtiddjadfkpjpdaaGreatDoorW.PrintLast.i64_w, Go.Proofs.YtiddjadfkpjpdaaGreatDoorW.PrintLast.i32_w]
            rfl
          refine one_ (i := 5) (N := some 24) #[true, true, true, true, true, true, false, false] rfl rfl (by kernel_rfl) (by decide) (fun K hK => ?_)
          refine Kd.R_append_step Kd.string (w0 := w5) (w.heap.size + 2) (by rfl) (.tmp 20) (.tmp 23) 32 9 (.string ⟨#[]⟩) 16 rfl Tryz.underlying32 info9 rfl (by decide) (by omega) (Value.slice AK ks.length cK) ks ⟨s.toArray⟩ [.string ⟨s.toArray⟩] (fun _ => True) (fun _ => False) rfl rfl rfl (fun _ hk => hk.elim) (fun _ _ => trivial) HI5.out.K (Below.refl _ _) HI5.out.sz ?aL ?_
          (case aL => have hx1 := keys_len ks; have hx2 := HI5.out.wt; have hx3 := HPH.out; omega)
          intro v1K w6 hK6 hB6 hg6 hat6
          obtain ⟨AK6, cK6, hv1⟩ := Kd.R_slice hK6
          rw [List.length_append, List.length_cons, List.length_nil, Nat.zero_add] at hv1
          subst hv1
          have hV6 := (hB6.block w.heap.size (by omega)).trans HI5.out.V
          refine hK.out _ _ ⟨(blk_cell hV6 4).trans rfl, blk_frozen hV6 4⟩ (fun hHeld => ?_)
          clear hK K
          refine norm_ (a' := ?_) ?_ ?_
          rotate_left
          · show Act.put _ (some 24) _ = _
            simp only [Act.put, List.setIfInBounds_toArray, List.set_cons_zero, List.set_cons_succ, Go.Proofs.YtiddjadfkpjpdaaGreatDoorW.PrintLast.i64_w, Go.Proofs.YtiddjadfkpjpdaaGreatDoorW.PrintLast.i32_w]
            rfl
          refine pure_ (i := 6) (N := some 25) (v := ?_) (a' := ?_) #[true, true, true, true, true, true, true, false] rfl rfl (by kernel_rfl) (fun _ _ _ h => h) (Or.inl ⟨by rfl, ?_⟩) ?_ ?_
          rotate_left
          · intro w'
            go_simp
            with_reducible rfl
          rotate_left
          · simp only [Act.put, List.setIfInBounds_toArray, List.set_cons_zero, List.set_cons_succ, Go.Proofs.YtiddjadfkpjpdaaGreatDoorW.PrintLast.i64_w, Go.Proofs.YtiddjadfkpjpdaaGreatDoorW.PrintLast.i32_w]
            rfl
          refine last_ (i := 7) (N := none) #[true, true, true, true, true, true, true, true] rfl rfl (by kernel_rfl) (by decide) (fun K hK => ?_)
          obtain ⟨s0, s1⟩ := hHeld
          refine skip_ (w1 := ?_) (by rfl) rfl ?_ ?_
          rotate_left
          · go_simp
            rfl
          refine hK.out _ _ ?_
          clear hK K
          refine done_ (by kernel_rfl) ?_

          have HI6 := Lib.hid (HI5.out.addK hpl ⟨s.toArray⟩ hK6 hB6 hg6 hat6 1 (by
            have h1 := HI.out.wt
            have h2 := HL1.out
            have h3 : (⟨s.toArray⟩ : ByteArray).size = s.length := by show s.toArray.size = _; simp
            rw [List.map_append, List.sum_append]
            simp only [List.map_cons, List.map_nil, List.sum_cons, List.sum_nil, h3]
            unfold phi at h1 ⊢
            cases b1 <;> simp at h1 ⊢ <;> omega))
          clear hK6 hB6 hg6 hat6 hV6 hHeld s0 s1
          simp only [Exit.then]
          apply_assumption
          obtain ⟨w66, hw66⟩ : ∃ w66, w66 = w6.setCell ⟨w.heap.size, 4, none⟩ (Value.slice AK6 (ks.length + 1) cK6) := ⟨_, rfl⟩
          rw [← hw66] at HI6 ⊢
          clear hw66
          clear V0 V1 V2 V3 V4 Z0 Z1 Z2 Z3 Z4 F0 F1 F2 F3 F4 c0 c1 f0 f1
          go_wp2_with fail
          refine (need_calls p r1 [58] b1 w66 HI6.out.rd (by have := HL1.out; have := HLL.out; omega)).mono ?_
          rintro e w7 ⟨⟨v7, rfl⟩, h7, g7⟩
          obtain ⟨l2, b2, hl2, hbb2, hc2, h7⟩ : ∃ l2 b2, l2.length ≤ r1.length ∧ (b1 = true → b2 = true) ∧ (∀ r, r1 = 58 :: r → b1 = false → l2 = r ∧ b2 = false) ∧ Rd p w7 l2 b2 := by
            refine ⟨_, _, ?_, ?_, ?_, h7⟩
            · split <;> simp
            · intro h; simp [h]
            · rintro r rfl rfl; simp
          have HI7 := Lib.hid (HI6.out.step hpl h7 g7 hl2 hbb2)
          have HL2 : Hid (l2.length ≤ l'.length) := by show _ ≤ _; have := HL1.out; omega
          have HCK : Hid (∀ d y ks1 x2 t, RowQ k ed l' false (y :: x2) ks1 t → fitsB d y = true → ∃ ks2, ks1 = [(⟨s.toArray⟩ : ByteArray)] ++ ks2 ∧ l2 = renderL y ++ tailT k ed ks2 x2 t ∧ b2 = false ∧ (k = 6 → ks2.length = x2.length) ∧ (k ≠ 6 → ks2 = [])) := by
            show ∀ d y ks1 x2 t, _
            intro d y ks1 x2 t hq hd
            have h66 := HK6.out
            cases ks1 with
            | nil => have := hq.six h66; simp at this
            | cons key ks2 =>
              have hlen : ks2.length = x2.length := by simpa using hq.six h66
              have htx := hq.text
              subst h66
              rw [parts6 _ _ _ _ _ hlen] at htx
              obtain ⟨g1, g2, g3⟩ := HC1.out _ _ (by simp) htx
              obtain ⟨g4, g5⟩ := hc2 _ g2 g3
              exact ⟨ks2, by rw [g1]; simp [byt], g4, g5, fun _ => hlen, fun h => absurd rfl h⟩
          clear h7 g7 hc2
          have V0 := blk_cell HI7.out.V 0
          have V1 := blk_cell HI7.out.V 1
          have V2 := blk_cell HI7.out.V 2
          have V3 := blk_cell HI7.out.V 3
          have V4 := blk_cell HI7.out.V 4
          have Z0 := blk_cell HI7.out.Z 0
          have Z1 := blk_cell HI7.out.Z 1
          have Z2 := blk_cell HI7.out.Z 2
          have Z3 := blk_cell HI7.out.Z 3
          have Z4 := blk_cell HI7.out.Z 4
          have F0 := blk_frozen HI7.out.Z 0
          have F1 := blk_frozen HI7.out.Z 1
          have F2 := blk_frozen HI7.out.Z 2
          have F3 := blk_frozen HI7.out.Z 3
          have F4 := blk_frozen HI7.out.Z 4
          obtain ⟨c0, c1, f0, f1⟩ := HI7.out.rd.cells
          go_wp2_with fail
          refine start_ (n := 8) (S := fun w' => w'.cell? ⟨w.heap.size, 3, none⟩ = some (Value.slice AL xs.length cL) ∧ w'.frozen? ⟨w.heap.size, 3, none⟩ = false) (ds := [7]) #[false, false, false, false, false, false, false, false] (by kernel_rfl) rfl rfl ⟨V3.trans rfl, blk_frozen HI7.out.V 3⟩ (fun hHeld => ?_)
          refine pure_ (i := 0) (N := some 28) (v := ?_) (a' := ?_) #[true, false, false, false, false, false, false, false] rfl rfl (by kernel_rfl) (fun _ _ _ h => h) (Or.inl ⟨by rfl, ?_⟩) ?_ ?_
          rotate_left
          · intro w'
            go_simp
            with_reducible rfl
          rotate_left
          · simp only [Act.put, List.setIfInBounds_toArray, List.set_cons_zero, List.set_cons_succ, Go.Proofs.YtiddjadfkpjpdaaGreatDoorW.PrintLast.i64_w, Go.Proofs.YtiddjadfkpjpdaaGreatDoorW.PrintLast.i32_w]
            rfl
          refine take_ (i := 1) (N := some 29) (v := ?_) (a' := ?_) #[true, true, false, false, false, false, false, false] rfl rfl (by kernel_rfl) (fun _ _ _ h => h) (Or.inl ⟨by rfl, ?_⟩) hHeld ?_ ?_
          rotate_left
          · rintro w' ⟨s0, s1⟩
            go_simp
            with_reducible rfl
          rotate_left
          · simp only [Act.put, List.setIfInBounds_toArray, List.set_cons_zero, List.set_cons_succ, Go.Proofs.YtiddjadfkpjpdaaGreatDoorW.PrintLast.i64_w, Go.Proofs.YtiddjadfkpjpdaaGreatDoorW.PrintLast.i32_w]
            rfl
          refine pure_ (i := 2) (N := some 30) (v := ?_) (a' := ?_) #[true, true, true, false, false, false, false, false] rfl rfl (by kernel_rfl) (fun _ _ _ h => h) (Or.inl ⟨by rfl, ?_⟩) ?_ ?_
          rotate_left
          · intro w'
            go_simp
            with_reducible rfl
          rotate_left
          · simp only [Act.put, List.setIfInBounds_toArray, List.set_cons_zero, List.set_cons_succ, Go.Proofs.YtiddjadfkpjpdaaGreatDoorW.PrintLast.i64_w, Go.Proofs.YtiddjadfkpjpdaaGreatDoorW.PrintLast.i32_w]
            rfl
          refine one_ (i := 3) (N := some 31) #[true, true, true, true, false, false, false, false] rfl rfl (by kernel_rfl) (by decide) (fun K hK => ?_)
          refine goes_ Tryz.func65 (by kernel_rfl) rfl #[.pointer (some ⟨p, 0, none⟩)] (by rfl) rfl rfl (by (try simp only [List.map_toArray, List.map_cons, List.map_nil]); first | done | rfl) ?_
          refine (HVV.out l2 b2 _ (Nat.le_trans HL2.out HLL.out) HI7.out.rd.drew (hCX.out.step HI7.out.gr).drew).mono ?_
          rintro e w8 ⟨x, v3, v4, r3, b3, rfl, hL8, hK8, hr8, hg8, hl8, hw8, hb8, hc8⟩
          have HI8 := Lib.hid (HI7.out.step hpl hr8 (gundrew hg8) hl8 hb8)
          obtain ⟨A3, c3, rfl⟩ := Kd.R_slice hL8
          obtain ⟨A4, c4, rfl⟩ := Kd.R_slice hK8
          have HM8 : Hid (k38.M w8 (w.heap.size + 2) (fun q => w7.heap.size ≤ q) x [.int .i64 x.f0, .int .i64 x.f1, .string x.f2, .slice A3 x.f3.length c3, .slice A4 x.f4.length c4]) := k38_mkM w8 _ _ x (Kd.R_lower (Kd.R_mono (Kd.R_bound hL8) (fun q hq => hq.2.1)) HI7.out.sz) (Kd.R_lower (Kd.R_mono (Kd.R_bound hK8) (fun q hq => hq.2.1)) HI7.out.sz)
          have HC8 := Lib.hid hc8
          have HW8 := Lib.hid hw8
          have HG8 := Lib.hid hg8.size
          have HR8 := Lib.hid hl8
          have HB8 := Lib.hid hb8
          clear hc8 hw8 hL8 hK8 hr8 hg8 hl8 hb8
          refine ⟨_, rfl, ?_⟩
          refine hK.out _ _ ⟨(blk_cell HI8.out.V 3).trans rfl, blk_frozen HI8.out.V 3⟩ (fun hHeld => ?_)
          clear hK K
          refine norm_ (a' := ?_) ?_ ?_
          rotate_left
          · show Act.put _ (some 31) _ = _
            simp only [Act.put, List.setIfInBounds_toArray, List.set_cons_zero, List.set_cons_succ, Go.Proofs.YtiddjadfkpjpdaaGreatDoorW.PrintLast.i64_w, Go.Proofs.YtiddjadfkpjpdaaGreatDoorW.PrintLast.i32_w]
            rfl
          refine one_ (i := 4) (N := some 32) #[true, true, true, true, true, false, false, false] rfl rfl (by kernel_rfl) (by decide) (fun K hK => ?_)
          refine value_ (w1 := ?_) (v := ?_) (by rfl) rfl ?_ ?_
          rotate_left 2
          · go_simp
            constructor
            · rfl
            · rfl
          refine hK.out _ _ ⟨(blk_cell (blk_alloc HI8.out.V _) 3).trans rfl, blk_frozen (blk_alloc HI8.out.V _) 3⟩ (fun hHeld => ?_)
          clear hK K
          refine norm_ (a' := ?_) ?_ ?_
          rotate_left
          · show Act.put _ (some 32) _ = _
            simp only [Act.put, List.setIfInBounds_toArray, List.set_cons_zero, List.set_cons_succ, Go.Proofs.YtiddjadfkpjpdaaGreatDoorW.PrintLast.i64_w, Go.Proofs.YtiddjadfkpjpdaaGreatDoorW.PrintLast.i32_w]
            rfl
          refine one_ (i := 5) (N := some 33) #[true, true, true, true, true, true, false, false] rfl rfl (by kernel_rfl) (by decide) (fun K hK => ?_)
          refine Kd.R_append_step k38 (w0 := w8) (w.heap.size + 2) (by rfl) (.tmp 29) (.tmp 32) 36 38 (.agg #[(.int .i64 0), (.int .i64 0), (.string ⟨#[]⟩), (.slice none 0 0), (.slice none 0 0)]) 80 rfl Tryz.underlying36 info38 rfl (by decide) (by omega) (Value.slice AL xs.length cL) xs x [.int .i64 x.f0, .int .i64 x.f1, .string x.f2, .slice A3 x.f3.length c3, .slice A4 x.f4.length c4] (fun q => some q ≠ (Value.slice AK6 (ks.length + 1) cK6).ownBlock) (fun q => w7.heap.size ≤ q) rfl rfl HM8.out ?aK ?aF HI8.out.L (Below.refl _ _) HI8.out.sz ?aL ?_
          (case aK => exact fun q hq => ⟨fun e => by have := Kd.R_lt HI7.out.K q e.symm; omega, fun e => by have := Kd.R_lt HI7.out.L q e.symm; omega⟩)
          (case aF => exact fun q hq e => by have := Kd.R_lt HI8.out.K q e.symm; omega)
          (case aL => have hx1 := wts_len xs; have hx2 := HI8.out.wt; have hx3 := HPH.out; omega)
          intro v1 w9 hL9 hB9 hg9 hat9
          obtain ⟨AL9, cL9, hv9⟩ := Kd.R_slice hL9
          rw [List.length_append, List.length_cons, List.length_nil, Nat.zero_add] at hv9
          subst hv9
          have hV9 := (hB9.block w.heap.size (by omega)).trans HI8.out.V
          refine hK.out _ _ ⟨(blk_cell hV9 3).trans rfl, blk_frozen hV9 3⟩ (fun hHeld => ?_)
          clear hK K
          refine norm_ (a' := ?_) ?_ ?_
          rotate_left
          · show Act.put _ (some 33) _ = _
            simp only [Act.put, List.setIfInBounds_toArray, List.set_cons_zero, List.set_cons_succ, Go.Proofs.YtiddjadfkpjpdaaGreatDoorW.PrintLast.i64_w, Go.Proofs.YtiddjadfkpjpdaaGreatDoorW.PrintLast.i32_w]
            rfl
          refine pure_ (i := 6) (N := some 34) (v := ?_) (a' := ?_) #[true, true, true, true, true, true, true, false] rfl rfl (by kernel_rfl) (fun _ _ _ h => h) (Or.inl ⟨by rfl, ?_⟩) ?_ ?_
          rotate_left
          · intro w'
            go_simp
            with_reducible rfl
          rotate_left
          · simp only [Act.put, List.setIfInBounds_toArray, List.set_cons_zero, List.set_cons_succ, Go.Proofs.YtiddjadfkpjpdaaGreatDoorW.PrintLast.i64_w, Go.Proofs.YtiddjadfkpjpdaaGreatDoorW.PrintLast.i32_w]
            rfl
          refine last_ (i := 7) (N := none) #[true, true, true, true, true, true, true, true] rfl rfl (by kernel_rfl) (by decide) (fun K hK => ?_)
          obtain ⟨s0, s1⟩ := hHeld
          refine skip_ (w1 := ?_) (by rfl) rfl ?_ ?_
          rotate_left
          · go_simp
            rfl
          refine hK.out _ _ ?_
          clear hK K
          refine done_ (by kernel_rfl) ?_
          have HI9 := Lib.hid (HI8.out.addL hpl x hL9 hB9 hg9 2 (by
            have h1 := HI7.out.wt
            have h2 := HW8.out
            rw [wts_app]
            omega))
          clear hL9 hB9 hg9 hat9 hV9 hHeld s0 s1
          simp only [Exit.then]
          apply_assumption
          obtain ⟨w10, hw10⟩ : ∃ w10, w10 = w9.setCell ⟨w.heap.size, 3, none⟩ (Value.slice AL9 (xs.length + 1) cL9) := ⟨_, rfl⟩
          rw [← hw10] at HI9 ⊢
          clear hw10
          go_wp2_with fail
          have HRC : Hid (∀ xs0 ks0 t, RowQ k ed l b xs0 ks0 t → ∃ x2 ks2, b3 = false ∧ xs0 = xs ++ [x] ++ x2 ∧ ks0 = ks ++ [(⟨s.toArray⟩ : ByteArray)] ++ ks2 ∧ r3 = tailT k ed ks2 x2 t ∧ (k = 6 → ks2.length = x2.length) ∧ (k ≠ 6 → ks2 = []) ∧ (∃ d, ∀ y ∈ x2, fitsB d y = true)) := by
            refine hRC.out.next hk x [(⟨s.toArray⟩ : ByteArray)] r3 b3 ?_
            intro d y ks1 x2 t hq hd
            obtain ⟨ks2, h1, h2, h3, h4, h5⟩ := HCK.out d y ks1 x2 t hq hd
            have he : endOk (tailT k ed ks2 x2 t) := by
              intro c t' hc
              unfold tailT at hc
              rcases hk with ⟨rfl, rfl⟩ | ⟨rfl, rfl⟩ <;> (split at hc <;> simp only [List.cons.injEq] at hc <;> (obtain ⟨rfl, -⟩ := hc; decide))
            obtain ⟨g1, g2, g3⟩ := HC8.out d y _ h3 hd he h2
            exact ⟨ks2, h1, g1, g2, g3, h4, h5⟩
          have HTK := Lib.hid (take_calls p r3 [ed] b3 w10 HI9.out.rd (by have := HR8.out; have := HL2.out; have := HLL.out; omega))
          cases hpe : [ed].isPrefixOf r3 with
          | true =>
            simp only [hpe, if_true] at HTK
            refine HTK.out.mono ?_
            rintro e w11 ⟨rfl, h11, g11⟩
            have HI11 := Lib.hid (HI9.out.step hpl h11 g11 (by simp) (fun h => h))
            have V0 := blk_cell HI11.out.V 0
            have V1 := blk_cell HI11.out.V 1
            have V2 := blk_cell HI11.out.V 2
            have V3 := blk_cell HI11.out.V 3
            have V4 := blk_cell HI11.out.V 4
            have Z0 := blk_cell HI11.out.Z 0
            have Z1 := blk_cell HI11.out.Z 1
            have Z2 := blk_cell HI11.out.Z 2
            have Z3 := blk_cell HI11.out.Z 3
            have Z4 := blk_cell HI11.out.Z 4
            have F0 := blk_frozen HI11.out.Z 0
            have F1 := blk_frozen HI11.out.Z 1
            have F2 := blk_frozen HI11.out.Z 2
            have F3 := blk_frozen HI11.out.Z 3
            have F4 := blk_frozen HI11.out.Z 4
            have hZ9 := set5_blk HI11.out.Z (.int .i64 k) (.int .i64 0) (.string ⟨#[]⟩) (Value.slice AL9 (xs.length + 1) cL9) (Value.slice AK6 (ks.length + 1) cK6)
            have HDN := Lib.hid (HI11.out.done hpl (Nat.le_refl 2) (fun xs0 ks0 t hq => by
                obtain ⟨x2, ks2, hb3, h1, h2, h3, h6, h5, hf⟩ := HRC.out xs0 ks0 t hq
                obtain ⟨r4, hr4⟩ : ∃ r4, r3 = ed :: r4 := by
                  cases r3 with
                  | nil => simp at hpe
                  | cons c r4 => simp at hpe; exact ⟨r4, by rw [hpe]⟩
                have hx2 : x2 = [] := by
                  by_cases hx2 : x2 = []
                  · exact hx2
                  · exfalso
                    unfold tailT at h3
                    rw [if_neg hx2, hr4] at h3
                    simp only [List.cons.injEq] at h3
                    rcases hk with ⟨_, rfl⟩ | ⟨_, rfl⟩ <;> exact absurd h3.1 (by decide)
                subst hx2
                have hk2 : ks2 = [] := by
                  by_cases h66 : k = 6
                  · exact List.eq_nil_of_length_eq_zero (by simpa using h6 h66)
                  · exact h5 h66
                subst hk2
                unfold tailT at h3
                rw [if_pos rfl] at h3
                exact ⟨by simpa using h1.symm, by simpa using h2.symm, by rw [h3]; simp, hb3⟩))
            have HZ9 := Lib.hid hZ9
            clear hZ9
            go_wp2_with fail
            refine bodyPost_ret (results_cell_row rfl _ _ (w.heap.size + 1) 38 _ (0, 0) _ rfl HZ9.out Tryz.underlying38 rfl (by kernel_rfl)) rfl ?_
            exact HDN.out

          | false =>
            simp only [hpe, Bool.false_eq_true, if_false] at HTK
            refine HTK.out.mono ?_
            rintro e w11 ⟨rfl, h11, g11⟩
            have HI11 := Lib.hid (HI9.out.step hpl h11 g11 (Nat.le_refl _) (fun h => h))
            go_wp2_with fail
            refine (need_calls p r3 [44] b3 w11 HI11.out.rd (by have := HR8.out; have := HL2.out; have := HLL.out; omega)).mono ?_
            rintro e w12 ⟨⟨v12, rfl⟩, h12, g12⟩
            obtain ⟨l4, b4, hl4, hb4, hm4, hc4, h12⟩ : ∃ l4 b4, l4.length ≤ r3.length ∧ (b3 = true → b4 = true) ∧ (b4 = true ∨ l4.length < r3.length) ∧ (∀ r, r3 = 44 :: r → b3 = false → l4 = r ∧ b4 = false) ∧ Rd p w12 l4 b4 := by
              refine ⟨_, _, ?_, ?_, ?_, ?_, h12⟩
              · split <;> simp
              · intro h; simp [h]
              · cases r3 with
                | nil => left; simp
                | cons c r4 =>
                  by_cases hc : c = 44
                  · right; subst hc; simp
                  · left; have hpn : [44].isPrefixOf (c :: r4) = false := pre1_no (fun e => hc e.symm); simp [hpn]
              · rintro r rfl rfl; simp
            have HI12 := Lib.hid (HI11.out.step hpl h12 g12 hl4 hb4)
            go_wp2_with fail
            go_roundw
            case rel =>
              refine ⟨xs ++ [x], ks ++ [(⟨s.toArray⟩ : ByteArray)], (Value.slice AL9 (xs.length + 1) cL9), (Value.slice AK6 (ks.length + 1) cK6), l4, b4, (if b4 then 2 else 0), ?_, ?_, ?_, ?_⟩
              · have hb := HI12.out
                refine { hb with wt := ?_ }
                have h1 := HI11.out.wt
                unfold phi at h1 ⊢
                cases b4 with
                | true => have h2 := hl4; cases b3 <;> simp at h1 ⊢ <;> omega
                | false =>
                  have h2 : l4.length < r3.length := by rcases hm4 with h | h; cases h; exact h
                  have h3 : b3 = false := by cases b3; rfl; exact absurd (hb4 rfl) (by simp)
                  rw [h3] at h1
                  simp at h1 ⊢
                  omega
              · intro xs0 ks0 t hq
                obtain ⟨x2, ks2, hb3, h1, h2, h3, h6, h5, hf⟩ := HRC.out xs0 ks0 t hq
                by_cases hx2 : x2 = []
                · exfalso
                  unfold tailT at h3
                  rw [if_pos hx2] at h3
                  rw [h3] at hpe
                  simp at hpe
                · unfold tailT at h3
                  rw [if_neg hx2] at h3
                  obtain ⟨g1, g2⟩ := hc4 _ h3 hb3
                  exact ⟨g2, x2, ks2, hx2, h1, by simpa using h2, g2, hf, h6, h5, g1⟩
              · split <;> omega
              · intro h; simp [h]
            case measure =>
              rw [HI12.out.rd.msr, HMS.out]
              have h2 := HR8.out
              have h3 := HL2.out
              rcases hm4 with h | h
              · rw [h]; simp; omega
              · simp; split <;> omega

        · have q6 : (k == 6) = false := by simp [hk6]
          have HK6 := Lib.hid hk6
          clear hk6
          have HI7 := HI
          have HL2 : Hid (l'.length ≤ l'.length) := Nat.le_refl _
          have HCK : Hid (∀ d y ks1 x2 t, RowQ k ed l' false (y :: x2) ks1 t → fitsB d y = true → ∃ ks2, ks1 = ([] : List ByteArray) ++ ks2 ∧ l' = renderL y ++ tailT k ed ks2 x2 t ∧ false = false ∧ (k = 6 → ks2.length = x2.length) ∧ (k ≠ 6 → ks2 = [])) := by
            show ∀ d y ks1 x2 t, _
            intro d y ks1 x2 t hq hd
            have h66 : k ≠ 6 := HK6.out
            have htx := hq.text
            rw [parts5 h66, hq.five h66] at htx
            exact ⟨[], hq.five h66, htx, rfl, fun h => absurd h h66, fun _ => rfl⟩
          clear V0 V1 V2 V3 V4 Z0 Z1 Z2 Z3 Z4 F0 F1 F2 F3 F4 c0 c1 f0 f1
          have V0 := blk_cell HI7.out.V 0
          have V1 := blk_cell HI7.out.V 1
          have V2 := blk_cell HI7.out.V 2
          have V3 := blk_cell HI7.out.V 3
          have V4 := blk_cell HI7.out.V 4
          have Z0 := blk_cell HI7.out.Z 0
          have Z1 := blk_cell HI7.out.Z 1
          have Z2 := blk_cell HI7.out.Z 2
          have Z3 := blk_cell HI7.out.Z 3
          have Z4 := blk_cell HI7.out.Z 4
          have F0 := blk_frozen HI7.out.Z 0
          have F1 := blk_frozen HI7.out.Z 1
          have F2 := blk_frozen HI7.out.Z 2
          have F3 := blk_frozen HI7.out.Z 3
          have F4 := blk_frozen HI7.out.Z 4
          obtain ⟨c0, c1, f0, f1⟩ := HI7.out.rd.cells
          go_wp2_with fail
          refine start_ (n := 8) (S := fun w' => w'.cell? ⟨w.heap.size, 3, none⟩ = some (Value.slice AL xs.length cL) ∧ w'.frozen? ⟨w.heap.size, 3, none⟩ = false) (ds := [7]) #[false, false, false, false, false, false, false, false] (by kernel_rfl) rfl rfl ⟨V3.trans rfl, blk_frozen HI7.out.V 3⟩ (fun hHeld => ?_)
          refine pure_ (i := 0) (N := some 28) (v := ?_) (a' := ?_) #[true, false, false, false, false, false, false, false] rfl rfl (by kernel_rfl) (fun _ _ _ h => h) (Or.inl ⟨by rfl, ?_⟩) ?_ ?_
          rotate_left
          · intro w'
            go_simp
            with_reducible rfl
          rotate_left
          · simp only [Act.put, List.setIfInBounds_toArray, List.set_cons_zero, List.set_cons_succ, Go.Proofs.YtiddjadfkpjpdaaGreatDoorW.PrintLast.i64_w, Go.Proofs.YtiddjadfkpjpdaaGreatDoorW.PrintLast.i32_w]
            rfl
          refine take_ (i := 1) (N := some 29) (v := ?_) (a' := ?_) #[true, true, false, false, false, false, false, false] rfl rfl (by kernel_rfl) (fun _ _ _ h => h) (Or.inl ⟨by rfl, ?_⟩) hHeld ?_ ?_
          rotate_left
          · rintro w' ⟨s0, s1⟩
            go_simp
            with_reducible rfl
          rotate_left
          · simp only [Act.put, List.setIfInBounds_toArray, List.set_cons_zero, List.set_cons_succ, Go.Proofs.YtiddjadfkpjpdaaGreatDoorW.PrintLast.i64_w, Go.Proofs.YtiddjadfkpjpdaaGreatDoorW.PrintLast.i32_w]
            rfl
          refine pure_ (i := 2) (N := some 30) (v := ?_) (a' := ?_) #[true, true, true, false, false, false, false, false] rfl rfl (by kernel_rfl) (fun _ _ _ h => h) (Or.inl ⟨by rfl, ?_⟩) ?_ ?_
          rotate_left
          · intro w'
            go_simp
            with_reducible rfl
          rotate_left
          · simp only [Act.put, List.setIfInBounds_toArray, List.set_cons_zero, List.set_cons_succ, Go.Proofs.YtiddjadfkpjpdaaGreatDoorW.PrintLast.i64_w, Go.Proofs.YtiddjadfkpjpdaaGreatDoorW.PrintLast.i32_w]
            rfl
          refine one_ (i := 3) (N := some 31) #[true, true, true, true, false, false, false, false] rfl rfl (by kernel_rfl) (by decide) (fun K hK => ?_)
          refine goes_ Tryz.func65 (by kernel_rfl) rfl #[.pointer (some ⟨p, 0, none⟩)] (by rfl) rfl rfl (by (try simp only [List.map_toArray, List.map_cons, List.map_nil]); first | done | rfl) ?_
          refine (HVV.out l' false _ (Nat.le_trans HL2.out HLL.out) HI7.out.rd.drew (hCX.out.step HI7.out.gr).drew).mono ?_
          rintro e w8 ⟨x, v3, v4, r3, b3, rfl, hL8, hK8, hr8, hg8, hl8, hw8, hb8, hc8⟩
          have HI8 := Lib.hid (HI7.out.step hpl hr8 (gundrew hg8) hl8 hb8)
          obtain ⟨A3, c3, rfl⟩ := Kd.R_slice hL8
          obtain ⟨A4, c4, rfl⟩ := Kd.R_slice hK8
          have HM8 : Hid (k38.M w8 (w.heap.size + 2) (fun q => wr.heap.size ≤ q) x [.int .i64 x.f0, .int .i64 x.f1, .string x.f2, .slice A3 x.f3.length c3, .slice A4 x.f4.length c4]) := k38_mkM w8 _ _ x (Kd.R_lower (Kd.R_mono (Kd.R_bound hL8) (fun q hq => hq.2.1)) HI7.out.sz) (Kd.R_lower (Kd.R_mono (Kd.R_bound hK8) (fun q hq => hq.2.1)) HI7.out.sz)
          have HC8 := Lib.hid hc8
          have HW8 := Lib.hid hw8
          have HG8 := Lib.hid hg8.size
          have HR8 := Lib.hid hl8
          have HB8 := Lib.hid hb8
          clear hc8 hw8 hL8 hK8 hr8 hg8 hl8 hb8
          refine ⟨_, rfl, ?_⟩
          refine hK.out _ _ ⟨(blk_cell HI8.out.V 3).trans rfl, blk_frozen HI8.out.V 3⟩ (fun hHeld => ?_)
          clear hK K
          refine norm_ (a' := ?_) ?_ ?_
          rotate_left
          · show Act.put _ (some 31) _ = _
            simp only [Act.put, List.setIfInBounds_toArray, List.set_cons_zero, List.set_cons_succ, Go.Proofs.YtiddjadfkpjpdaaGreatDoorW.PrintLast.i64_w, Go.Proofs.YtiddjadfkpjpdaaGreatDoorW.PrintLast.i32_w]
            rfl
          refine one_ (i := 4) (N := some 32) #[true, true, true, true, true, false, false, false] rfl rfl (by kernel_rfl) (by decide) (fun K hK => ?_)
          refine value_ (w1 := ?_) (v := ?_) (by rfl) rfl ?_ ?_
          rotate_left 2
          · go_simp
            constructor
            · rfl
            · rfl
          refine hK.out _ _ ⟨(blk_cell (blk_alloc HI8.out.V _) 3).trans rfl, blk_frozen (blk_alloc HI8.out.V _) 3⟩ (fun hHeld => ?_)
          clear hK K
          refine norm_ (a' := ?_) ?_ ?_
          rotate_left
          · show Act.put _ (some 32) _ = _
            simp only [Act.put, List.setIfInBounds_toArray, List.set_cons_zero, List.set_cons_succ, Go.Proofs.YtiddjadfkpjpdaaGreatDoorW.PrintLast.i64_w, Go.Proofs.YtiddjadfkpjpdaaGreatDoorW.PrintLast.i32_w]
            rfl
          refine one_ (i := 5) (N := some 33) #[true, true, true, true, true, true, false, false] rfl rfl (by kernel_rfl) (by decide) (fun K hK => ?_)
          refine Kd.R_append_step k38 (w0 := w8) (w.heap.size + 2) (by rfl) (.tmp 29) (.tmp 32) 36 38 (.agg #[(.int .i64 0), (.int .i64 0), (.string ⟨#[]⟩), (.slice none 0 0), (.slice none 0 0)]) 80 rfl Tryz.underlying36 info38 rfl (by decide) (by omega) (Value.slice AL xs.length cL) xs x [.int .i64 x.f0, .int .i64 x.f1, .string x.f2, .slice A3 x.f3.length c3, .slice A4 x.f4.length c4] (fun q => some q ≠ (Value.slice AK ks.length cK).ownBlock) (fun q => wr.heap.size ≤ q) rfl rfl HM8.out ?aK ?aF HI8.out.L (Below.refl _ _) HI8.out.sz ?aL ?_
          (case aK => exact fun q hq => ⟨fun e => by have := Kd.R_lt HI7.out.K q e.symm; omega, fun e => by have := Kd.R_lt HI7.out.L q e.symm; omega⟩)
          (case aF => exact fun q hq e => by have := Kd.R_lt HI8.out.K q e.symm; omega)
          (case aL => have hx1 := wts_len xs; have hx2 := HI8.out.wt; have hx3 := HPH.out; omega)
          intro v1 w9 hL9 hB9 hg9 hat9
          obtain ⟨AL9, cL9, hv9⟩ := Kd.R_slice hL9
          rw [List.length_append, List.length_cons, List.length_nil, Nat.zero_add] at hv9
          subst hv9
          have hV9 := (hB9.block w.heap.size (by omega)).trans HI8.out.V
          refine hK.out _ _ ⟨(blk_cell hV9 3).trans rfl, blk_frozen hV9 3⟩ (fun hHeld => ?_)
          clear hK K
          refine norm_ (a' := ?_) ?_ ?_
          rotate_left
          · show Act.put _ (some 33) _ = _
            simp only [Act.put, List.setIfInBounds_toArray, List.set_cons_zero, List.set_cons_succ, Go.Proofs.YtiddjadfkpjpdaaGreatDoorW.PrintLast.i64_w, Go.Proofs.YtiddjadfkpjpdaaGreatDoorW.PrintLast.i32_w]
            rfl
          refine pure_ (i := 6) (N := some 34) (v := ?_) (a' := ?_) #[true, true, true, true, true, true, true, false] rfl rfl (by kernel_rfl) (fun _ _ _ h => h) (Or.inl ⟨by rfl, ?_⟩) ?_ ?_
          rotate_left
          · intro w'
            go_simp
            with_reducible rfl
          rotate_left
          · simp only [Act.put, List.setIfInBounds_toArray, List.set_cons_zero, List.set_cons_succ, Go.Proofs.YtiddjadfkpjpdaaGreatDoorW.PrintLast.i64_w, Go.Proofs.YtiddjadfkpjpdaaGreatDoorW.PrintLast.i32_w]
            rfl
          refine last_ (i := 7) (N := none) #[true, true, true, true, true, true, true, true] rfl rfl (by kernel_rfl) (by decide) (fun K hK => ?_)
          obtain ⟨s0, s1⟩ := hHeld
          refine skip_ (w1 := ?_) (by rfl) rfl ?_ ?_
          rotate_left
          · go_simp
            rfl
          refine hK.out _ _ ?_
          clear hK K
          refine done_ (by kernel_rfl) ?_
          have HI9 := Lib.hid (HI8.out.addL hpl x hL9 hB9 hg9 2 (by
            have h1 := HI7.out.wt
            have h2 := HW8.out
            rw [wts_app]
            omega))
          clear hL9 hB9 hg9 hat9 hV9 hHeld s0 s1
          simp only [Exit.then]
          apply_assumption
          obtain ⟨w10, hw10⟩ : ∃ w10, w10 = w9.setCell ⟨w.heap.size, 3, none⟩ (Value.slice AL9 (xs.length + 1) cL9) := ⟨_, rfl⟩
          rw [← hw10] at HI9 ⊢
          clear hw10
          go_wp2_with fail
          have HRC : Hid (∀ xs0 ks0 t, RowQ k ed l b xs0 ks0 t → ∃ x2 ks2, b3 = false ∧ xs0 = xs ++ [x] ++ x2 ∧ ks0 = ks ++ ([] : List ByteArray) ++ ks2 ∧ r3 = tailT k ed ks2 x2 t ∧ (k = 6 → ks2.length = x2.length) ∧ (k ≠ 6 → ks2 = []) ∧ (∃ d, ∀ y ∈ x2, fitsB d y = true)) := by
            refine hRC.out.next hk x ([] : List ByteArray) r3 b3 ?_
            intro d y ks1 x2 t hq hd
            obtain ⟨ks2, h1, h2, h3, h4, h5⟩ := HCK.out d y ks1 x2 t hq hd
            have he : endOk (tailT k ed ks2 x2 t) := by
              intro c t' hc
              unfold tailT at hc
              rcases hk with ⟨rfl, rfl⟩ | ⟨rfl, rfl⟩ <;> (split at hc <;> simp only [List.cons.injEq] at hc <;> (obtain ⟨rfl, -⟩ := hc; decide))
            obtain ⟨g1, g2, g3⟩ := HC8.out d y _ h3 hd he h2
            exact ⟨ks2, h1, g1, g2, g3, h4, h5⟩
          have HTK := Lib.hid (take_calls p r3 [ed] b3 w10 HI9.out.rd (by have := HR8.out; have := HL2.out; have := HLL.out; omega))
          cases hpe : [ed].isPrefixOf r3 with
          | true =>
            simp only [hpe, if_true] at HTK
            refine HTK.out.mono ?_
            rintro e w11 ⟨rfl, h11, g11⟩
            have HI11 := Lib.hid (HI9.out.step hpl h11 g11 (by simp) (fun h => h))
            have V0 := blk_cell HI11.out.V 0
            have V1 := blk_cell HI11.out.V 1
            have V2 := blk_cell HI11.out.V 2
            have V3 := blk_cell HI11.out.V 3
            have V4 := blk_cell HI11.out.V 4
            have Z0 := blk_cell HI11.out.Z 0
            have Z1 := blk_cell HI11.out.Z 1
            have Z2 := blk_cell HI11.out.Z 2
            have Z3 := blk_cell HI11.out.Z 3
            have Z4 := blk_cell HI11.out.Z 4
            have F0 := blk_frozen HI11.out.Z 0
            have F1 := blk_frozen HI11.out.Z 1
            have F2 := blk_frozen HI11.out.Z 2
            have F3 := blk_frozen HI11.out.Z 3
            have F4 := blk_frozen HI11.out.Z 4
            have hZ9 := set5_blk HI11.out.Z (.int .i64 k) (.int .i64 0) (.string ⟨#[]⟩) (Value.slice AL9 (xs.length + 1) cL9) (Value.slice AK ks.length cK)
            have HDN := Lib.hid (HI11.out.done hpl (Nat.le_refl 2) (fun xs0 ks0 t hq => by
                obtain ⟨x2, ks2, hb3, h1, h2, h3, h6, h5, hf⟩ := HRC.out xs0 ks0 t hq
                obtain ⟨r4, hr4⟩ : ∃ r4, r3 = ed :: r4 := by
                  cases r3 with
                  | nil => simp at hpe
                  | cons c r4 => simp at hpe; exact ⟨r4, by rw [hpe]⟩
                have hx2 : x2 = [] := by
                  by_cases hx2 : x2 = []
                  · exact hx2
                  · exfalso
                    unfold tailT at h3
                    rw [if_neg hx2, hr4] at h3
                    simp only [List.cons.injEq] at h3
                    rcases hk with ⟨_, rfl⟩ | ⟨_, rfl⟩ <;> exact absurd h3.1 (by decide)
                subst hx2
                have hk2 : ks2 = [] := by
                  by_cases h66 : k = 6
                  · exact List.eq_nil_of_length_eq_zero (by simpa using h6 h66)
                  · exact h5 h66
                subst hk2
                unfold tailT at h3
                rw [if_pos rfl] at h3
                exact ⟨by simpa using h1.symm, by simpa using h2.symm, by rw [h3]; simp, hb3⟩))
            have HZ9 := Lib.hid hZ9
            clear hZ9
            go_wp2_with fail
            refine bodyPost_ret (results_cell_row rfl _ _ (w.heap.size + 1) 38 _ (0, 0) _ rfl HZ9.out Tryz.underlying38 rfl (by kernel_rfl)) rfl ?_
            exact HDN.out

          | false =>
            simp only [hpe, Bool.false_eq_true, if_false] at HTK
            refine HTK.out.mono ?_
            rintro e w11 ⟨rfl, h11, g11⟩
            have HI11 := Lib.hid (HI9.out.step hpl h11 g11 (Nat.le_refl _) (fun h => h))
            go_wp2_with fail
            refine (need_calls p r3 [44] b3 w11 HI11.out.rd (by have := HR8.out; have := HL2.out; have := HLL.out; omega)).mono ?_
            rintro e w12 ⟨⟨v12, rfl⟩, h12, g12⟩
            obtain ⟨l4, b4, hl4, hb4, hm4, hc4, h12⟩ : ∃ l4 b4, l4.length ≤ r3.length ∧ (b3 = true → b4 = true) ∧ (b4 = true ∨ l4.length < r3.length) ∧ (∀ r, r3 = 44 :: r → b3 = false → l4 = r ∧ b4 = false) ∧ Rd p w12 l4 b4 := by
              refine ⟨_, _, ?_, ?_, ?_, ?_, h12⟩
              · split <;> simp
              · intro h; simp [h]
              · cases r3 with
                | nil => left; simp
                | cons c r4 =>
                  by_cases hc : c = 44
                  · right; subst hc; simp
                  · left; have hpn : [44].isPrefixOf (c :: r4) = false := pre1_no (fun e => hc e.symm); simp [hpn]
              · rintro r rfl rfl; simp
            have HI12 := Lib.hid (HI11.out.step hpl h12 g12 hl4 hb4)
            go_wp2_with fail
            go_roundw
            case rel =>
              refine ⟨xs ++ [x], ks, (Value.slice AL9 (xs.length + 1) cL9), (Value.slice AK ks.length cK), l4, b4, (if b4 then 2 else 0), ?_, ?_, ?_, ?_⟩
              · have hb := HI12.out
                refine { hb with wt := ?_ }
                have h1 := HI11.out.wt
                unfold phi at h1 ⊢
                cases b4 with
                | true => have h2 := hl4; cases b3 <;> simp at h1 ⊢ <;> omega
                | false =>
                  have h2 : l4.length < r3.length := by rcases hm4 with h | h; cases h; exact h
                  have h3 : b3 = false := by cases b3; rfl; exact absurd (hb4 rfl) (by simp)
                  rw [h3] at h1
                  simp at h1 ⊢
                  omega
              · intro xs0 ks0 t hq
                obtain ⟨x2, ks2, hb3, h1, h2, h3, h6, h5, hf⟩ := HRC.out xs0 ks0 t hq
                by_cases hx2 : x2 = []
                · exfalso
                  unfold tailT at h3
                  rw [if_pos hx2] at h3
                  rw [h3] at hpe
                  simp at hpe
                · unfold tailT at h3
                  rw [if_neg hx2] at h3
                  obtain ⟨g1, g2⟩ := hc4 _ h3 hb3
                  exact ⟨g2, x2, ks2, hx2, h1, by simpa using h2, g2, hf, h6, h5, g1⟩
              · split <;> omega
              · intro h; simp [h]
            case measure =>
              rw [HI12.out.rd.msr, HMS.out]
              have h2 := HR8.out
              have h3 := HL2.out
              rcases hm4 with h | h
              · rw [h]; simp; omega
              · simp; split <;> omega


end Go.Proofs.YtiddjadfkpjpdaaGreatDoor.Q
