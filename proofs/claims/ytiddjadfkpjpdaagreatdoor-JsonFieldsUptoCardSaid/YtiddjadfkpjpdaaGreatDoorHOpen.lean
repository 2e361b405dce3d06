/- Arguments opened: values, pairs: what is read, and how much of it there is. -/
import Derived.Test.YtiddjadfkpjpdaaGreatDoorHLaw0
import Derived.Test.YtiddjadfkpjpdaaGreatDoorHRObj
import Derived.Deep.Slices
import Derived.Deep.Fields
import Derived.WideKeyArgs
set_option linter.unusedVariables false
set_option linter.unusedSimpArgs false
namespace Go.Proofs.YtiddjadfkpjpdaaGreatDoor.Q
open Go.RowKit Go.WideShapes Go.ChangeShapes Go.ChangeAt Go.Deep Go.Proofs.YtiddjadfkpjpdaaGreatDoorW.PrintWords
section
variable {H : Type} {enc : TypeId × Value → H} {W : World} {base : Nat} {spare : Nat → Bool} {held : Bool}
theorem wtsL_sum (l : List S38) : (l.map S38.wt).sum = wtsL l := by
  induction l with
  | nil => rfl
  | cons a r ih => simp [wtsL, ih]
theorem bulk_one (d : DataW H) : 1 ≤ Rows.uptoBulk d := by
  cases d with
  | lit l => cases l <;> simp [Rows.uptoBulk]
  | nil => simp [Rows.uptoBulk]
  | ptr d => simp [Rows.uptoBulk]
  | slice elems spare => simp [Rows.uptoBulk]
  | agg parts => simp [Rows.uptoBulk]
  | iface t d => simp [Rows.uptoBulk]
  | map entries => simp [Rows.uptoBulk]
  | held h => simp [Rows.uptoBulk]
theorem bulk_in {d : DataW H} {l : List (DataW H)} (h : d ∈ l) : Rows.uptoBulk d ≤ Rows.uptoBulkAll l := by
  induction l with
  | nil => cases h
  | cons x r ih =>
    simp only [Rows.uptoBulkAll]
    cases List.mem_cons.1 h with
    | inl e => subst e; omega
    | inr e => have := ih e; omega
theorem bulk_str (s : List UInt8) : Rows.uptoBulk (DataW.lit (H := H) (.string s)) = s.length + 1 := by simp [Rows.uptoBulk]
theorem sum_of {α : Type} (wt : α → Nat) (D : Nat → DataW H) (xs : List α) (f : Nat → Nat) (h : ∀ i v, xs[i]? = some v → wt v ≤ Rows.uptoBulk (D (f i))) : (xs.map wt).sum ≤ Rows.uptoBulkAll ((List.range xs.length).map (fun i => D (f i))) := by
  induction xs generalizing f with
  | nil => simp [Rows.uptoBulkAll]
  | cons a r ih =>
    have h0 := h 0 a rfl
    have h1 := ih (fun i => f (i + 1)) (fun i v hv => h (i + 1) v (by simpa using hv))
    rw [List.map_cons, List.sum_cons, List.length_cons, List.range_succ_eq_map, List.map_cons, Rows.uptoBulkAll, List.map_map]
    have e : ((fun i => D (f i)) ∘ Nat.succ) = (fun i => D (f (i + 1))) := rfl
    rw [e]
    omega
/-- A slice's row, element by element. -/
theorem row_open {α : Type} (d : Kd α) (wt : α → Nat) {t e : TypeId} {fuel : Nat} {cs : List Value} {x : DataW H × List MemPlace} (ht : Tryz.prog.underlying t = some (.slice e)) (hsz : Tryz.prog.cellsOf e = d.sz)
    (h : DataW.trod enc Tryz.prog W base spare held fuel t cs = some x)
    (hel : ∀ n cs' y, DataW.trod enc Tryz.prog W base spare held n e cs' = some y → Rows.uptoBulk y.1 < Rows.uptoBulk x.1 → ∃ v, d.K W v cs' ∧ wt v ≤ Rows.uptoBulk y.1) :
    ∃ A xs c, cs = [.slice A xs.length c] ∧ xs.length ≤ c ∧ d.C W A xs.length xs ∧ (xs.map wt).sum + 1 ≤ Rows.uptoBulk x.1 := by
  rcases open_slice ht h with ⟨rfl, rfl⟩ | ⟨a, len, cap, m, n, D, Pl, rfl, hb, hl, hm, hmm, rfl, hx⟩
  · exact ⟨none, [], 0, rfl, Nat.le_refl 0, ⟨rfl, by simp, fun h => absurd h (Nat.lt_irrefl 0)⟩, by simp [Rows.uptoBulk]⟩
  have hlm : len ≤ m := by rw [hmm]; split <;> omega
  have hbig : ∀ i, i < len → Rows.uptoBulk (D i) < Rows.uptoBulk (DataW.slice ((List.range len).map D) ((List.range (m - len)).map fun j => D (len + j))) := by
    intro i hi
    have := bulk_in (H := H) (d := D i) (l := (List.range len).map D) (List.mem_map.2 ⟨i, List.mem_range.2 hi, rfl⟩)
    simp only [Rows.uptoBulk]
    omega
  have each : ∀ i, ∃ q : Option α, i < len → ∃ v cs', q = some v ∧ d.K W v cs' ∧ wt v ≤ Rows.uptoBulk (D i) ∧ W.cells? base (a.add (i * Tryz.prog.cellsOf e)) (Tryz.prog.cellsOf e) = some cs' := by
    intro i
    by_cases hi : i < len
    · obtain ⟨cs', h1, h2⟩ := hx i (by omega)
      obtain ⟨v, hv, hw⟩ := hel n cs' _ h2 (hbig i hi)
      exact ⟨some v, fun _ => ⟨v, cs', rfl, hv, hw, h1⟩⟩
    · exact ⟨none, fun h => absurd h hi⟩
  obtain ⟨q, hq⟩ := Classical.axiomOfChoice each
  obtain ⟨xs, hxl, hxs⟩ : ∃ xs : List α, xs.length = len ∧ ∀ i v, xs[i]? = some v → i < len ∧ q i = some v := by
    have : ∀ k, k ≤ len → ∃ xs : List α, xs.length = k ∧ ∀ i v, xs[i]? = some v → i < k ∧ q i = some v := by
      intro k
      induction k with
      | zero => intro _; exact ⟨[], rfl, fun i v h => by simp at h⟩
      | succ k ih =>
        intro hk
        obtain ⟨xs, h1, h2⟩ := ih (by omega)
        obtain ⟨v, cs', e, _⟩ := hq k (by omega)
        refine ⟨xs ++ [v], by simp [h1], fun i u hu => ?_⟩
        rw [List.getElem?_append] at hu
        split at hu
        · have := h2 i u hu; exact ⟨by omega, this.2⟩
        · rename_i hlt
          have hi : i - xs.length = 0 := by
            rcases Nat.eq_zero_or_pos (i - xs.length) with h0 | h0
            · exact h0
            · rw [List.getElem?_eq_none (by simp; omega)] at hu; cases hu
          rw [hi] at hu
          simp at hu
          subst hu
          obtain rfl : i = k := by omega
          exact ⟨by omega, e⟩
    exact this len (Nat.le_refl _)
  refine ⟨some a, xs, cap, by rw [hxl], by omega, ⟨rfl, by unfold maxLen at hm; omega, fun _ => ⟨a, rfl, fun j p hj => ?_⟩⟩, ?_⟩
  · obtain ⟨hjl, hqj⟩ := hxs j p hj
    obtain ⟨v, cs', e1, hK, _, hc⟩ := hq j hjl
    obtain rfl : v = p := by rw [e1] at hqj; injection hqj
    obtain ⟨_, hlen, hcell⟩ := World.cells?_some hc
    refine ⟨cs', by rw [hlen, hsz], hK, fun i u hu => ?_⟩
    have hi : i < cs'.length := (List.getElem?_eq_some_iff.1 hu).1
    have := hcell i (by omega)
    rw [hsz, Go.Deep.add_add] at this
    rw [this, hu]
  · have h1 := sum_of wt D xs (fun i => i) (fun i v hv => by
      obtain ⟨hil, hqi⟩ := hxs i v hv
      obtain ⟨v', cs', e1, _, hw, _⟩ := hq i hil
      obtain rfl : v' = v := by rw [e1] at hqi; injection hqi
      exact hw)
    rw [hxl] at h1
    simp only [Rows.uptoBulk]
    have h2 : (fun i => D ((fun i => i) i)) = D := rfl
    rw [h2] at h1
    omega
set_option maxRecDepth 100000 in
/-- A text in its cell. -/
theorem str_open {n : Nat} {cs : List Value} {y : DataW H × List MemPlace} (h : DataW.trod enc Tryz.prog W base spare held n 9 cs = some y) : ∃ s : ByteArray, cs = [.string s] ∧ 1 + s.size ≤ Rows.uptoBulk y.1 := by
  obtain ⟨s, rfl, rfl, _⟩ := DataW.trod_string Tryz.underlying9 h
  refine ⟨s, rfl, ?_⟩
  rw [bulk_str, Array.length_toList]
  show 1 + s.data.size ≤ _
  omega
set_option maxRecDepth 100000 in
/-- A pair's two cells. -/
theorem pair_open {n : Nat} {cs : List Value} {y : DataW H × List MemPlace} (h : DataW.trod enc Tryz.prog W base spare held n 90 cs = some y) : ∃ v, k90.K W v cs ∧ pw v ≤ Rows.uptoBulk y.1 := by
  obtain ⟨xs, k, _, rfl, hl, hxl, hf⟩ := DataW.trod_struct Tryz.underlying90 h
  have hl2 : cs.length = 2 := by rw [hl]; kernel_rfl
  match cs, hl2, xs, hxl with
  | [c0, c1], _, [y0, y1], _ =>
    have g0 : DataW.trod enc Tryz.prog W base spare held k 9 (List.take (Tryz.prog.cellsOf 9) (List.drop 0 [c0, c1])) = some y0 := hf 0 _ rfl
    have g1 : DataW.trod enc Tryz.prog W base spare held k 9 (List.take (Tryz.prog.cellsOf 9) (List.drop 1 [c0, c1])) = some y1 := hf 1 _ rfl
    have c9 : Tryz.prog.cellsOf 9 = 1 := by kernel_rfl
    simp only [c9] at g0 g1
    obtain ⟨s0, e0, b0⟩ := str_open (y := y0) g0
    obtain ⟨s1, e1, b1⟩ := str_open (y := y1) g1
    simp at e0 e1
    subst e0
    subst e1
    refine ⟨⟨s0, s1⟩, k90_mk W ⟨s0, s1⟩, ?_⟩
    simp only [Rows.uptoBulk, Rows.uptoBulkAll, List.map_cons, List.map_nil, pw]
    omega
set_option maxRecDepth 100000 in
/-- A value, whatever it holds. -/
theorem val_open (N : Nat) : ∀ (n : Nat) (cs : List Value) (y : DataW H × List MemPlace), DataW.trod enc Tryz.prog W base spare held n 38 cs = some y → Rows.uptoBulk y.1 ≤ N →
    ∃ v, k38.K W v cs ∧ v.wt ≤ Rows.uptoBulk y.1 ∧ (-9223372036854775808 ≤ v.f0 ∧ v.f0 ≤ 9223372036854775807) ∧ (-9223372036854775808 ≤ v.f1 ∧ v.f1 ≤ 9223372036854775807) := by
  induction N with
  | zero => intro n cs y h hN; have := bulk_one y.1; omega
  | succ N ih =>
    intro n cs y h hN
    obtain ⟨xs, k, _, rfl, hl, hxl, hf⟩ := DataW.trod_struct Tryz.underlying38 h
    have hl2 : cs.length = 5 := by rw [hl]; kernel_rfl
    match cs, hl2, xs, hxl with
    | [c0, c1, c2, c3, c4], _, [y0, y1, y2, y3, y4], _ =>
      have g0 : DataW.trod enc Tryz.prog W base spare held k 3 (List.take (Tryz.prog.cellsOf 3) (List.drop 0 [c0, c1, c2, c3, c4])) = some y0 := hf 0 _ rfl
      have g1 : DataW.trod enc Tryz.prog W base spare held k 2 (List.take (Tryz.prog.cellsOf 2) (List.drop 1 [c0, c1, c2, c3, c4])) = some y1 := hf 1 _ rfl
      have g2 : DataW.trod enc Tryz.prog W base spare held k 9 (List.take (Tryz.prog.cellsOf 9) (List.drop 2 [c0, c1, c2, c3, c4])) = some y2 := hf 2 _ rfl
      have g3 : DataW.trod enc Tryz.prog W base spare held k 36 (List.take (Tryz.prog.cellsOf 36) (List.drop 3 [c0, c1, c2, c3, c4])) = some y3 := hf 3 _ rfl
      have g4 : DataW.trod enc Tryz.prog W base spare held k 32 (List.take (Tryz.prog.cellsOf 32) (List.drop 4 [c0, c1, c2, c3, c4])) = some y4 := hf 4 _ rfl
      have q3 : Tryz.prog.cellsOf 3 = 1 := by kernel_rfl
      have q2 : Tryz.prog.cellsOf 2 = 1 := by kernel_rfl
      have q9 : Tryz.prog.cellsOf 9 = 1 := by kernel_rfl
      have q36 : Tryz.prog.cellsOf 36 = 1 := by kernel_rfl
      have q32 : Tryz.prog.cellsOf 32 = 1 := by kernel_rfl
      simp only [q3, q2, q9, q36, q32] at g0 g1 g2 g3 g4
      obtain ⟨n0, e0, z0, b0⟩ := DataW.trod_int (x := y0) Tryz.underlying3 g0
      obtain ⟨n1, e1, z1, b1⟩ := DataW.trod_int (x := y1) Tryz.underlying2 g1
      obtain ⟨s2, e2, b2⟩ := str_open (y := y2) g2
      have hsum : Rows.uptoBulk (DataW.agg ([y0, y1, y2, y3, y4].map (·.1))) = Rows.uptoBulk y0.1 + (Rows.uptoBulk y1.1 + (Rows.uptoBulk y2.1 + (Rows.uptoBulk y3.1 + (Rows.uptoBulk y4.1 + 0)))) + 1 := by simp only [Rows.uptoBulk, Rows.uptoBulkAll, List.map_cons, List.map_nil]
      rw [hsum] at hN ⊢
      obtain ⟨A3, l3, d3, e3, h3, C3, b3⟩ := row_open k38 S38.wt (x := y3) Tryz.underlying36 (by kernel_rfl) g3 (fun n' cs' y' h' hlt => by
        obtain ⟨v, hv, hw, _⟩ := ih n' cs' y' h' (by omega)
        exact ⟨v, hv, hw⟩)
      obtain ⟨A4, l4, d4, e4, h4, C4, b4⟩ := row_open Kd.string (fun s => 1 + s.size) (x := y4) Tryz.underlying32 (by kernel_rfl) g4 (fun n' cs' y' h' _ => by
        obtain ⟨s, rfl, hs⟩ := str_open h'
        exact ⟨s, rfl, hs⟩)
      simp at e0 e1 e2 e3 e4
      subst e0 e1 e2 e3 e4
      refine ⟨⟨n0, n1, s2, l3, l4⟩, k38_mk W ⟨n0, n1, s2, l3, l4⟩ h3 C3 h4 C4, ?_, i64_bd b0, i64_bd b1⟩
      rw [wtsL_sum] at b3
      simp only [S38.wt]
      omega
set_option maxRecDepth 100000 in
/-- An argument that is a slice of pairs. -/
theorem open_pairs {r : Reach} {b0 : Nat} {v : Value} {d : DataW H} {p : List MemPlace} (hv : Value.okWide Tryz.prog W r b0 49 v) (h : DataW.Trod enc Tryz.prog W base spare held 49 v d p) :
    ∃ A l c, v = .slice A l.length c ∧ k90.C W A l.length l ∧ pws l + 1 ≤ Rows.uptoBulk d := by
  obtain ⟨fuel, hf⟩ := h
  obtain ⟨A0, n0, c0, rfl⟩ := okWide_slice Tryz.underlying49 hv
  obtain ⟨A, l, c, e, _, hC, hb⟩ := row_open k90 pw Tryz.underlying49 (by kernel_rfl) hf (fun n' cs' y' h' _ => pair_open h')
  refine ⟨A, l, c, ?_, hC, hb⟩
  simpa [Value.cells] using e
set_option maxRecDepth 100000 in
/-- An argument that is a value. -/
theorem open_val {r : Reach} {b0 : Nat} {v : Value} {d : DataW H} {p : List MemPlace} (hv : Value.okWide Tryz.prog W r b0 38 v) (h : DataW.Trod enc Tryz.prog W base spare held 38 v d p) :
    ∃ (x : S38) (A3 : Option Addr) (c3 : Nat) (A4 : Option Addr) (c4 : Nat), v = .agg #[.int .i64 x.f0, .int .i64 x.f1, .string x.f2, .slice A3 x.f3.length c3, .slice A4 x.f4.length c4] ∧ VC W x A3 c3 A4 c4 ∧ x.wt ≤ Rows.uptoBulk d ∧ (-9223372036854775808 ≤ x.f0 ∧ x.f0 ≤ 9223372036854775807) ∧ (-9223372036854775808 ≤ x.f1 ∧ x.f1 ≤ 9223372036854775807) := by
  obtain ⟨fuel, hf⟩ := h
  obtain ⟨cs, rfl, hsz⟩ := okWide_struct Tryz.underlying38 hv
  obtain ⟨x, hK, hw, h0, h1⟩ := val_open (Rows.uptoBulk d) fuel _ (d, p) hf (Nat.le_refl _)
  obtain ⟨A3, c3, A4, c4, e, l3, C3, l4, C4⟩ := k38_open hK
  refine ⟨x, A3, c3, A4, c4, ?_, ⟨l3, C3, l4, C4⟩, hw, h0, h1⟩
  have e' : cs.toList = _ := e
  cases cs
  simp at e'
  subst e'
  rfl
set_option maxRecDepth 100000 in
/-- An argument of whatever type reads again behind the call. -/
theorem reads_again {t : TypeId} {v : Value} {d : DataW H} {ps : List MemPlace} {W' : World} {sp : Nat → Bool} (hr : Tryz.prog.readableRec t = true) (hrow : t < Tryz.prog.types.size)
    (h : DataW.Trod enc Tryz.prog W 0 (fun _ => true) true t v d ps) (hb : Below W.heap.size W W') (hsp : ∀ p ∈ ps, sp p.block = true) (hlt : ∀ p ∈ ps, p.block < W.heap.size) : DataW.Trod enc Tryz.prog W' 0 sp true t v d ps :=
  WideElems.Trod_stays (by kernel_rfl) hr hrow h (fun x hx => hb.same (hlt x hx)) hsp
end
end Go.Proofs.YtiddjadfkpjpdaaGreatDoor.Q
