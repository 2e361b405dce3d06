/- json.Set, where the object has no such key. -/
import Derived.Test.YtiddjadfkpjpdaaGreatDoorHField
import Derived.ArgAppend
set_option linter.unusedVariables false
set_option linter.unusedSimpArgs false
namespace Go.Proofs.YtiddjadfkpjpdaaGreatDoor.Q
open Go.RowKit Go.Proofs.YtiddjadfkpjpdaaGreatDoorW.PrintWords Go.Proofs.YtiddjadfkpjpdaaGreatDoorW.PrintLast
/-- A value of the call's own, its keys' slice of some capacity. -/
structure Own2 (w : World) (base : Nat) (x : S38) (A3 : Option Addr) (c3 : Nat) (A4 : Option Addr) (c4 : Nat) : Prop where
  r3 : kf.R 38 w base (fun _ => True) (.slice A3 x.f3.length c3) x.f3
  h4 : x.f4.length ≤ c4
  r4 : ∃ cap, Kd.string.R 9 w base (fun _ => True) (.slice A4 x.f4.length cap) x.f4
theorem Own2.vc {w : World} {base : Nat} {x : S38} {A3 : Option Addr} {c3 : Nat} {A4 : Option Addr} {c4 : Nat} (h : Own2 w base x A3 c3 A4 c4) : VC w x A3 c3 A4 c4 := by
  obtain ⟨cap, h4⟩ := h.r4
  obtain ⟨_, a, b⟩ := kf_C h.r3
  obtain ⟨_, _, d⟩ := Kd.R_reads' h4
  exact ⟨a, b, h.h4, d⟩
theorem Own2.below {w w' : World} {base : Nat} {x : S38} {A3 : Option Addr} {c3 : Nat} {A4 : Option Addr} {c4 : Nat} (h : Own2 w base x A3 c3 A4 c4) (hb : Below w.heap.size w w') : Own2 w' base x A3 c3 A4 c4 := by
  obtain ⟨cap, h4⟩ := h.r4
  exact ⟨Kd.R_below h.r3 hb, h.h4, cap, Kd.R_below h4 hb⟩
theorem Own2.lower {w : World} {base b : Nat} {x : S38} {A3 : Option Addr} {c3 : Nat} {A4 : Option Addr} {c4 : Nat} (h : Own2 w base x A3 c3 A4 c4) (hb : b ≤ base) : Own2 w b x A3 c3 A4 c4 := by
  obtain ⟨cap, h4⟩ := h.r4
  exact ⟨Kd.R_lower h.r3 hb, h.h4, cap, Kd.R_lower h4 hb⟩
theorem Own2.mk' {w : World} {base : Nat} {x : S38} {A3 : Option Addr} {c3 : Nat} {A4 : Option Addr} {c4 : Nat} (h : Own2 w base x A3 c3 A4 c4) : kf.M w base (fun _ => True) x [.int .i64 x.f0, .int .i64 x.f1, .string x.f2, .slice A3 x.f3.length c3, .slice A4 x.f4.length c4] := by
  obtain ⟨cap, h4⟩ := h.r4
  exact kf_mk h.r3 h4 h.h4
theorem Own2.far {w w' : World} {base : Nat} {x : S38} {A3 : Option Addr} {c3 : Nat} {A4 : Option Addr} {c4 : Nat} (h : Own2 w base x A3 c3 A4 c4) (hf : ∀ q, base ≤ q → q < w.heap.size → w'.heap[q]? = w.heap[q]?) : Own2 w' base x A3 c3 A4 c4 := by
  obtain ⟨cap, h4⟩ := h.r4
  exact ⟨Kd.R_mono (Kd.R_step (Kd.R_bound h.r3) (fun q hq hl => hf q hq.2.1 hl)) (fun _ _ => trivial), h.h4, cap, Kd.R_mono (Kd.R_step (Kd.R_bound h4) (fun q hq hl => hf q hq.2.1 hl)) (fun _ _ => trivial)⟩
theorem Own.keysC {w : World} {base : Nat} {x : S38} {A3 : Option Addr} {c3 : Nat} {A4 : Option Addr} (h : Own w base x A3 c3 A4) : Kd.string.C w A4 x.f4.length x.f4 := h.vc.g4
/-- append of a text to a full row of texts that is only read: a new row. -/
theorem full_step {o : Oper} {ops : Array Oper} {a : Act} {W : World} {K : Act → World → Prop} {Q : Exit → Act → World → Prop} {N : Option Tmp} (ks : List ByteArray) (A : Option Addr) (key : ByteArray) (s x : Operand) {g : Nat}
    (hw : Region.wanted o (yielded ops a.tmps) = true) (hN : o.dst = N) (ho : o.op = .call { callee := .builtin .append, args := #[s, x], argTypes := #[32, 32] })
    (hs : a.eval s = .slice A ks.length ks.length) (hx : a.eval x = .slice (some ⟨g, 0, none⟩) 1 1) (hC : Kd.string.C W A ks.length ks) (hg : W.heap[g]? = some (.cells #[.string key] 9 (0, 0))) (hm : ks.length ≤ 1099511627776)
    (h : ∀ A1 c1 w1, Kd.string.R 9 w1 W.heap.size (fun _ => True) (.slice A1 (ks ++ [key]).length c1) (ks ++ [key]) → Below W.heap.size W w1 → K (a.put N (.slice A1 (ks ++ [key]).length c1)) w1) :
    if Region.wanted o (yielded ops a.tmps) = true then Oper.wp Tryz.prog o a W K Q else K (a.put N undef) W := by
  obtain ⟨i0, hi9, hz0, hz1, hz2⟩ := info_parts (P := Tryz.prog) (e := 9) (z := .string ⟨#[]⟩) (size := 1) (bytes := 16) (by kernel_rfl)
  have hnews : ∀ j u, ([Value.string key] : List Value)[j]? = some u → W.cell? ((⟨g, 0, none⟩ : Addr).add j) = some u := by
    intro j u hu
    cases j with
    | succ j => simp at hu
    | zero =>
      have := blk_cell hg 0
      have e0 : (⟨g, 0, none⟩ : Addr).add 0 = ⟨g, 0, none⟩ := by unfold Addr.add; simp
      rw [e0, this]
      simpa using hu
  have key0 : ∃ v' w', (Builtin.append_ #[32, 32] o.type #[.slice A ks.length ks.length, .slice (some ⟨g, 0, none⟩) 1 1]).run Tryz.prog W = .ok v' w' ∧ w'.ownsRow W.heap.size 9 1 v' (ks.length + 1) (ks.map Value.string ++ [.string key]) ∧ W.grownBy w' none := by
    cases A with
    | some b =>
      refine run_append_arg_grows (P := Tryz.prog) W 32 o.type 9 i0 (.string ⟨#[]⟩) 1 16 Tryz.underlying32 hi9 hz0 hz1 hz2 rfl (by decide) b ks.length ks.length (ks.map Value.string) (by simp) ?_ ⟨g, 0, none⟩ 1 1 [.string key] rfl hnews (by omega) (by unfold maxLen; omega) (by omega)
      intro j u hu
      have hj : j < ks.length := by
        rcases Nat.lt_or_ge j ks.length with hh | hh
        · exact hh
        · rw [List.getElem?_eq_none (by simpa using hh)] at hu; cases hu
      obtain ⟨b', o', he, _, hc⟩ := at_str hC j hj
      cases he
      have ea : (⟨b', o', none⟩ : Addr).add j = ⟨b', o' + j, none⟩ := by
        unfold Addr.add
        split
        · rename_i h; simp [h]
        · rfl
      rw [ea, hc]
      rw [List.getElem?_map, List.getElem?_eq_getElem hj] at hu
      simpa using hu
    | none =>
      have hk : ks = [] := by
        rcases Nat.eq_zero_or_pos ks.length with h | h
        · exact List.eq_nil_of_length_eq_zero h
        · obtain ⟨_, _, hx⟩ := hC
          obtain ⟨_, e, _⟩ := hx h
          cases e
      subst hk
      obtain ⟨v', w', hrun, r1, r2, _⟩ := run_append_own (P := Tryz.prog) W W.heap.size 32 o.type 9 i0 (.string ⟨#[]⟩) 1 16 Tryz.underlying32 hi9 hz0 hz1 hz2 rfl (by decide) (.slice none 0 0) 0 [] (World.ownsRow_nil W _ 9 1) ⟨g, 0, none⟩ 1 1 [.string key] rfl hnews (by intro u hu; simp at hu; subst hu; rfl) (by unfold maxLen; omega) (by omega) (Nat.le_refl _)
      exact ⟨v', w', hrun, r1, r2⟩
  obtain ⟨v', w', hrun, hown, hgr⟩ := key0
  have hl : (ks ++ [key]).length = ks.length + 1 := by simp
  have hR : Kd.string.R 9 w' W.heap.size (fun _ => True) v' (ks ++ [key]) := Kd.R_of_own (enc := Value.string) (h1 := fun _ => rfl) (by rw [hl]; simpa [encs] using hown) (fun _ _ => trivial)
  obtain ⟨A1, c1, hv⟩ := Kd.R_slice hR
  subst hv
  refine value_ (w1 := w') (v := .slice A1 (ks ++ [key]).length c1) hw hN ?_ (h A1 c1 w' hR ⟨hgr.os, hgr.tape, hgr.output, hgr.size, fun k hk => hgr.block k hk (by simp)⟩)
  simp [execOp, ho, resolve, invoke, builtin, hs, hx, hrun, Result.andThen]
/-- The memory of Set, behind its first copy. -/
structure SetI (w : World) (B : Nat) (w0 : World) (x y : S38) (E3 : Option Addr) (e3 : Nat) (E4 : Option Addr) (B3 : Option Addr) (d3 : Nat) (B4 : Option Addr) (d4 : Nat) (wr : World) : Prop where
  V : wr.heap[w.heap.size]? = some (.cells #[.int .i64 x.f0, .int .i64 x.f1, .string x.f2, .slice E3 x.f3.length e3, .slice E4 x.f4.length x.f4.length] 38 (0, 0))
  X : wr.heap[w.heap.size + 1]? = some (.cells #[.int .i64 y.f0, .int .i64 y.f1, .string y.f2, .slice B3 y.f3.length d3, .slice B4 y.f4.length d4] 38 (0, 0))
  Z : wr.heap[w.heap.size + 1 + 1]? = some (.cells #[.int .i64 0, .int .i64 0, .string ⟨#[]⟩, .slice none 0 0, .slice none 0 0] 38 (0, 0))
  bw : Below w.heap.size w wr
  b1 : Below B w0 wr
  lo : w.heap.size + 3 ≤ B
  sz : B ≤ wr.heap.size
section
variable {w w0 : World} {B : Nat} {x y : S38} {E3 : Option Addr} {e3 : Nat} {E4 : Option Addr} {B3 : Option Addr} {d3 : Nat} {B4 : Option Addr} {d4 : Nat} {wr : World}
theorem SetI.held (h : SetI w B w0 x y E3 e3 E4 B3 d3 B4 d4 wr) : wr.cell? ⟨w.heap.size, 3, none⟩ = some (.slice E3 x.f3.length e3) ∧ wr.cell? ⟨w.heap.size, 4, none⟩ = some (.slice E4 x.f4.length x.f4.length) ∧ wr.cell? ⟨w.heap.size + 1, 0, none⟩ = some (.int .i64 y.f0) ∧ wr.cell? ⟨w.heap.size + 1, 1, none⟩ = some (.int .i64 y.f1) ∧ wr.cell? ⟨w.heap.size + 1, 2, none⟩ = some (.string y.f2) ∧ wr.cell? ⟨w.heap.size + 1, 3, none⟩ = some (.slice B3 y.f3.length d3) ∧ wr.cell? ⟨w.heap.size + 1, 4, none⟩ = some (.slice B4 y.f4.length d4) :=
  ⟨(blk_cell h.V 3).trans rfl, (blk_cell h.V 4).trans rfl, (blk_cell h.X 0).trans rfl, (blk_cell h.X 1).trans rfl, (blk_cell h.X 2).trans rfl, (blk_cell h.X 3).trans rfl, (blk_cell h.X 4).trans rfl⟩
theorem SetI.below (h : SetI w B w0 x y E3 e3 E4 B3 d3 B4 d4 wr) {w' : World} (hb : Below wr.heap.size wr w') : SetI w B w0 x y E3 e3 E4 B3 d3 B4 d4 w' :=
  ⟨(hb.block _ (blk_lt h.V)).trans h.V, (hb.block _ (blk_lt h.X)).trans h.X, (hb.block _ (blk_lt h.Z)).trans h.Z, h.bw.trans (hb.mono h.bw.size), h.b1.trans (hb.mono h.sz), h.lo, Nat.le_trans h.sz hb.size⟩
theorem SetI.drew (h : SetI w B w0 x y E3 e3 E4 B3 d3 B4 d4 wr) : SetI w B w0 x y E3 e3 E4 B3 d3 B4 d4 wr.drew := h.below (below_drew1 (Below.refl _ _))
theorem SetI.grown (h : SetI w B w0 x y E3 e3 E4 B3 d3 B4 d4 wr) {w' : World} {row : Option Nat} (hg : wr.grownBy w' row) (hr : ∀ k, row = some k → B ≤ k) (hb : Below B w0 w') : SetI w B w0 x y E3 e3 E4 B3 d3 B4 d4 w' := by
  have hlo := h.lo
  have hne : ∀ q, q < B → some q ≠ row := fun q hq e => by have := hr q e.symm; omega
  exact ⟨(hg.block _ (blk_lt h.V) (hne _ (by omega))).trans h.V, (hg.block _ (blk_lt h.X) (hne _ (by omega))).trans h.X, (hg.block _ (blk_lt h.Z) (hne _ (by omega))).trans h.Z, h.bw.grown hg h.bw.size (fun q hq => by have := hr q hq; omega), hb, h.lo, Nat.le_trans h.sz hg.size⟩
end
/-- An object with one key more. -/
def setB (x : S38) (key : ByteArray) (y : S38) : S38 := ⟨x.f0, x.f1, x.f2, x.f3 ++ [y], x.f4 ++ [key]⟩
def SetP (x : S38) (key : ByteArray) (y : S38) (w : World) (e : Ending) (w' : World) : Prop :=
  ∃ A3 c3 A4 c4, e = .returned (.agg #[.int .i64 (setB x key y).f0, .int .i64 (setB x key y).f1, .string (setB x key y).f2, .slice A3 (setB x key y).f3.length c3, .slice A4 (setB x key y).f4.length c4]) ∧ Own2 w' w.heap.size (setB x key y) A3 c3 A4 c4 ∧ Below w.heap.size w w'
set_option maxRecDepth 100000 in
set_option maxHeartbeats 8000000 in
theorem set_calls (x y : S38) (key : ByteArray) (A3 : Option Addr) (c3 : Nat) (A4 : Option Addr) (c4 : Nat) (B3 : Option Addr) (d3 : Nat) (B4 : Option Addr) (d4 : Nat) (w : World) (hx : VC w x A3 c3 A4 c4) (hy : VC w y B3 d3 B4 d4) (hwx : x.wt ≤ 1073741824) (hwy : y.wt ≤ 1073741824) (hkey : idxK x.f4 key = -1) :
    Calls Tryz.prog 73 #[.agg #[.int .i64 x.f0, .int .i64 x.f1, .string x.f2, .slice A3 x.f3.length c3, .slice A4 x.f4.length c4], .string key, .agg #[.int .i64 y.f0, .int .i64 y.f1, .string y.f2, .slice B3 y.f3.length d3, .slice B4 y.f4.length d4]] w (SetP x key y w) := by
  have hl3 := wt_len3 x
  have hl4 := wt_len4 x
  obtain ⟨w1, hw1⟩ : ∃ w1, w1 = ((w.alloc (.cells #[.int .i64 x.f0, .int .i64 x.f1, .string x.f2, .slice A3 x.f3.length c3, .slice A4 x.f4.length c4] 38)).alloc (.cells #[.int .i64 y.f0, .int .i64 y.f1, .string y.f2, .slice B3 y.f3.length d3, .slice B4 y.f4.length d4] 38)).alloc (.cells #[.int .i64 0, .int .i64 0, .string ⟨#[]⟩, .slice none 0 0, .slice none 0 0] 38) := ⟨_, rfl⟩
  have hb1 : Below w.heap.size w w1 := by rw [hw1]; exact (ba2 w _ _).trans ((ba _ _).mono (by simp; omega))
  have hs1 : w.heap.size + 3 ≤ w1.heap.size := by rw [hw1]; simp
  have hV1 : w1.heap[w.heap.size]? = some (.cells #[.int .i64 x.f0, .int .i64 x.f1, .string x.f2, .slice A3 x.f3.length c3, .slice A4 x.f4.length c4] 38 (0, 0)) := by rw [hw1]; exact blk_alloc (blk_alloc (World.alloc_heap_new _ _) _) _
  have hX1 : w1.heap[w.heap.size + 1]? = some (.cells #[.int .i64 y.f0, .int .i64 y.f1, .string y.f2, .slice B3 y.f3.length d3, .slice B4 y.f4.length d4] 38 (0, 0)) := by
    rw [hw1]
    refine blk_alloc ?_ _
    have := World.alloc_heap_new (w.alloc (.cells #[.int .i64 x.f0, .int .i64 x.f1, .string x.f2, .slice A3 x.f3.length c3, .slice A4 x.f4.length c4] 38)) (.cells #[.int .i64 y.f0, .int .i64 y.f1, .string y.f2, .slice B3 y.f3.length d3, .slice B4 y.f4.length d4] 38)
    rwa [World.size_alloc] at this
  have hZ1 : w1.heap[w.heap.size + 1 + 1]? = some (.cells #[.int .i64 0, .int .i64 0, .string ⟨#[]⟩, .slice none 0 0, .slice none 0 0] 38 (0, 0)) := by
    rw [hw1]
    have := World.alloc_heap_new ((w.alloc (.cells #[.int .i64 x.f0, .int .i64 x.f1, .string x.f2, .slice A3 x.f3.length c3, .slice A4 x.f4.length c4] 38)).alloc (.cells #[.int .i64 y.f0, .int .i64 y.f1, .string y.f2, .slice B3 y.f3.length d3, .slice B4 y.f4.length d4] 38)) (.cells #[.int .i64 0, .int .i64 0, .string ⟨#[]⟩, .slice none 0 0, .slice none 0 0] 38)
    rwa [World.size_alloc, World.size_alloc] at this
  have HX := Lib.hid (hx.below hb1)
  have HY := Lib.hid hy
  have HB1 := Lib.hid hb1
  have HW1 := Lib.hid hw1
  have HV1 := Lib.hid hV1
  have HX1 := Lib.hid hX1
  have HZ1 := Lib.hid hZ1
  have HKEY := Lib.hid hkey
  clear hw1 hb1 hx hy hV1 hX1 hZ1 hkey
  go_enter Tryz.func73, Tryz.ntmps73
  go_wp2_with fail
  rw [← HW1.out]
  refine (copied_any _ x A3 c3 A4 c4 w1 (Nat.le_refl _) HX.out hwx).mono ?_
  rintro e w2' ⟨E3, e3, E4, rfl, ho2, b2⟩
  have hV2 := (b2.block _ (by omega)).trans HV1.out
  have hX2 := (b2.block _ (by omega)).trans HX1.out
  have hZ2 := (b2.block _ (by omega)).trans HZ1.out
  obtain ⟨w2, hw2⟩ : ∃ w2, w2 = set5 w2' w.heap.size (.int .i64 x.f0) (.int .i64 x.f1) (.string x.f2) (.slice E3 x.f3.length e3) (.slice E4 x.f4.length x.f4.length) := ⟨_, rfl⟩
  have hfar : ∀ q, q ≠ w.heap.size → w2.heap[q]? = w2'.heap[q]? := fun q hq => by rw [hw2]; exact set5_far _ _ _ _ _ _ _ q hq
  have hsz : w2.heap.size = w2'.heap.size := by rw [hw2]; simp [set5, World.setCell]
  have HI2 : Hid (SetI w w1.heap.size w2 x y E3 e3 E4 B3 d3 B4 d4 w2) := ⟨by rw [hw2]; exact set5_blk hV2 _ _ _ _ _, (hfar _ (by omega)).trans hX2, (hfar _ (by omega)).trans hZ2, by rw [hw2]; exact set5_below (HB1.out.trans (b2.mono HB1.out.size)) _ (Nat.le_refl _) _ _ _ _ _, Below.refl _ _, hs1, by rw [hsz]; exact b2.size⟩
  have HO2 := Lib.hid (ho2.far (fun q hq _ => hfar q (by omega)))
  have v0 := blk_cell hV2 0
  have v1 := blk_cell hV2 1
  have v2 := blk_cell hV2 2
  have v3 := blk_cell hV2 3
  have v4 := blk_cell hV2 4
  have f0 := blk_frozen hV2 0
  have f1 := blk_frozen hV2 1
  have f2 := blk_frozen hV2 2
  have f3 := blk_frozen hV2 3
  have f4 := blk_frozen hV2 4
  have HW2 := Lib.hid hw2
  clear hV2 hX2 hZ2 hfar hsz hw2 ho2 b2
  have HIX := Lib.hid (index_calls x.f4 key E4 x.f4.length w2 HO2.out.keysC (by omega))
  rw [HKEY.out] at HIX
  go_wp2_with fail
  have hw2 := HW2.out
  unfold set5 at hw2
  rw [← hw2]
  clear hw2 v0 v1 v2 v3 v4 f0 f1 f2 f3 f4
  refine HIX.out.mono ?_
  rintro e w2x ⟨rfl, rfl⟩
  go_wp2_with fail
  refine start_ (n := 15) (S := fun w' => w'.cell? ⟨w.heap.size, 3, none⟩ = some (.slice E3 x.f3.length e3) ∧ w'.cell? ⟨w.heap.size, 4, none⟩ = some (.slice E4 x.f4.length x.f4.length) ∧ w'.cell? ⟨w.heap.size + 1, 0, none⟩ = some (.int .i64 y.f0) ∧ w'.cell? ⟨w.heap.size + 1, 1, none⟩ = some (.int .i64 y.f1) ∧ w'.cell? ⟨w.heap.size + 1, 2, none⟩ = some (.string y.f2) ∧ w'.cell? ⟨w.heap.size + 1, 3, none⟩ = some (.slice B3 y.f3.length d3) ∧ w'.cell? ⟨w.heap.size + 1, 4, none⟩ = some (.slice B4 y.f4.length d4)) (ds := [12, 14]) #[false, false, false, false, false, false, false, false, false, false, false, false, false, false, false] (by kernel_rfl) rfl rfl (HI2.out.drew.held) (fun hHeld => ?_)
  refine pure_ (i := 0) (N := some 23) (v := ?_) (a' := ?_) #[true, false, false, false, false, false, false, false, false, false, false, false, false, false, false] rfl rfl (by kernel_rfl) (fun _ _ _ h => h) (Or.inl ⟨by rfl, ?_⟩) ?_ ?_
  rotate_left
  · intro w'
    go_simp
    with_reducible rfl
  rotate_left
  · simp only [Act.put, List.setIfInBounds_toArray, List.set_cons_zero, List.set_cons_succ, Go.Proofs.YtiddjadfkpjpdaaGreatDoorW.PrintLast.i64_w, Go.Proofs.YtiddjadfkpjpdaaGreatDoorW.PrintLast.i32_w]
    rfl
  refine take_ (i := 1) (N := some 24) (v := ?_) (a' := ?_) #[true, true, false, false, false, false, false, false, false, false, false, false, false, false, false] rfl rfl (by kernel_rfl) (fun _ _ _ h => h) (Or.inl ⟨by rfl, ?_⟩) hHeld ?_ ?_
  rotate_left
  · rintro w' ⟨s0, s1, s2, s3, s4, s5, s6⟩
    go_simp
    with_reducible rfl
  rotate_left
  · simp only [Act.put, List.setIfInBounds_toArray, List.set_cons_zero, List.set_cons_succ, Go.Proofs.YtiddjadfkpjpdaaGreatDoorW.PrintLast.i64_w, Go.Proofs.YtiddjadfkpjpdaaGreatDoorW.PrintLast.i32_w]
    rfl
  refine pure_ (i := 2) (N := some 25) (v := ?_) (a' := ?_) #[true, true, true, false, false, false, false, false, false, false, false, false, false, false, false] rfl rfl (by kernel_rfl) (fun _ _ _ h => h) (Or.inl ⟨by rfl, ?_⟩) ?_ ?_
  rotate_left
  · intro w'
    go_simp
    with_reducible rfl
  rotate_left
  · simp only [Act.put, List.setIfInBounds_toArray, List.set_cons_zero, List.set_cons_succ, Go.Proofs.YtiddjadfkpjpdaaGreatDoorW.PrintLast.i64_w, Go.Proofs.YtiddjadfkpjpdaaGreatDoorW.PrintLast.i32_w]
    rfl
  refine pure_ (i := 5) (N := some 28) (v := ?_) (a' := ?_) #[true, true, true, false, false, true, false, false, false, false, false, false, false, false, false] rfl rfl (by kernel_rfl) (fun _ _ _ h => h) (Or.inl ⟨by rfl, ?_⟩) ?_ ?_
  rotate_left
  · intro w'
    go_simp
    with_reducible rfl
  rotate_left
  · simp only [Act.put, List.setIfInBounds_toArray, List.set_cons_zero, List.set_cons_succ, Go.Proofs.YtiddjadfkpjpdaaGreatDoorW.PrintLast.i64_w, Go.Proofs.YtiddjadfkpjpdaaGreatDoorW.PrintLast.i32_w]
    rfl
  refine take_ (i := 6) (N := some 29) (v := ?_) (a' := ?_) #[true, true, true, false, false, true, true, false, false, false, false, false, false, false, false] rfl rfl (by kernel_rfl) (fun _ _ _ h => h) (Or.inl ⟨by rfl, ?_⟩) hHeld ?_ ?_
  rotate_left
  · rintro w' ⟨s0, s1, s2, s3, s4, s5, s6⟩
    go_simp
    with_reducible rfl
  rotate_left
  · simp only [Act.put, List.setIfInBounds_toArray, List.set_cons_zero, List.set_cons_succ, Go.Proofs.YtiddjadfkpjpdaaGreatDoorW.PrintLast.i64_w, Go.Proofs.YtiddjadfkpjpdaaGreatDoorW.PrintLast.i32_w]
    rfl
  refine take_ (i := 7) (N := some 30) (v := ?_) (a' := ?_) #[true, true, true, false, false, true, true, true, false, false, false, false, false, false, false] rfl rfl (by kernel_rfl) (fun _ _ _ h => h) (Or.inl ⟨by rfl, ?_⟩) hHeld ?_ ?_
  rotate_left
  · rintro w' ⟨s0, s1, s2, s3, s4, s5, s6⟩
    go_simp
    with_reducible rfl
  rotate_left
  · simp only [Act.put, List.setIfInBounds_toArray, List.set_cons_zero, List.set_cons_succ, Go.Proofs.YtiddjadfkpjpdaaGreatDoorW.PrintLast.i64_w, Go.Proofs.YtiddjadfkpjpdaaGreatDoorW.PrintLast.i32_w]
    rfl
  refine one_ (i := 3) (N := some 26) #[true, true, true, true, false, true, true, true, false, false, false, false, false, false, false] rfl rfl (by kernel_rfl) (by decide) (fun K hK => ?_)
  refine value_ (w1 := ?_) (v := ?_) (by rfl) rfl ?_ ?_
  rotate_left 2
  · go_simp
    constructor
    · rfl
    · rfl
  have hb3 : Below w2.heap.size w2 (w2.drew.alloc (.cells #[.string key] 9)) := (below_drew1 (Below.refl _ _)).trans (ba w2.drew _)
  have HI3 := Lib.hid (HI2.out.below hb3)
  have HO3 := Lib.hid (HO2.out.below hb3)
  have HG3 := Lib.hid (World.alloc_heap_new w2.drew (.cells #[.string key] 9))
  clear hb3
  refine hK.out _ _ (HI3.out.held) (fun hHeld => ?_)
  clear hK K
  refine norm_ (a' := ?_) ?_ ?_
  rotate_left
  · show Act.put _ (some 26) _ = _
    simp only [Act.put, List.setIfInBounds_toArray, List.set_cons_zero, List.set_cons_succ, Go.Proofs.YtiddjadfkpjpdaaGreatDoorW.PrintLast.i64_w, Go.Proofs.YtiddjadfkpjpdaaGreatDoorW.PrintLast.i32_w]
    rfl
  refine one_ (i := 4) (N := some 27) #[true, true, true, true, true, true, true, true, false, false, false, false, false, false, false] rfl rfl (by kernel_rfl) (by decide) (fun K hK => ?_)
  refine full_step x.f4 E4 key (.tmp 24) (.tmp 26) (by rfl) rfl rfl rfl rfl HO3.out.keysC HG3.out (by omega) ?_
  intro A5 c5 w5 hR5 b5
  have HI5 := Lib.hid (HI3.out.below b5)
  have HO5 := Lib.hid (HO3.out.below b5)
  have HR5 := Lib.hid hR5
  have HS5 := Lib.hid b5.size
  clear hR5 b5
  refine hK.out _ _ (HI5.out.held) (fun hHeld => ?_)
  clear hK K
  refine norm_ (a' := ?_) ?_ ?_
  rotate_left
  · show Act.put _ (some 27) _ = _
    simp only [Act.put, List.setIfInBounds_toArray, List.set_cons_zero, List.set_cons_succ, Go.Proofs.YtiddjadfkpjpdaaGreatDoorW.PrintLast.i64_w, Go.Proofs.YtiddjadfkpjpdaaGreatDoorW.PrintLast.i32_w]
    rfl
  refine pure_ (i := 11) (N := some 34) (v := ?_) (a' := ?_) #[true, true, true, true, true, true, true, true, false, false, false, true, false, false, false] rfl rfl (by kernel_rfl) (fun _ _ _ h => h) (Or.inl ⟨by rfl, ?_⟩) ?_ ?_
  rotate_left
  · intro w'
    go_simp
    with_reducible rfl
  rotate_left
  · simp only [Act.put, List.setIfInBounds_toArray, List.set_cons_zero, List.set_cons_succ, Go.Proofs.YtiddjadfkpjpdaaGreatDoorW.PrintLast.i64_w, Go.Proofs.YtiddjadfkpjpdaaGreatDoorW.PrintLast.i32_w]
    rfl
  refine one_ (i := 8) (N := some 31) #[true, true, true, true, true, true, true, true, true, false, false, true, false, false, false] rfl rfl (by kernel_rfl) (by decide) (fun K hK => ?_)
  refine goes_ Tryz.func71 (by kernel_rfl) rfl #[.agg #[.int .i64 y.f0, .int .i64 y.f1, .string y.f2, .slice B3 y.f3.length d3, .slice B4 y.f4.length d4]] (by rfl) rfl rfl (by (try simp only [List.map_toArray, List.map_cons, List.map_nil]); first | done | rfl) ?_
  refine (copied_any _ y B3 d3 B4 d4 w5 (Nat.le_refl _) (HY.out.below HI5.out.bw) hwy).mono ?_
  rintro e w6 ⟨F3, f3, F4, rfl, ho6, b6⟩
  have HI6 := Lib.hid (HI5.out.below b6)
  have HO6 := Lib.hid (HO5.out.below b6)
  have HR6 := Lib.hid (Kd.R_below HR5.out b6)
  have HN6 := Lib.hid ho6
  have HS6 := Lib.hid b6.size
  clear ho6 b6
  refine ⟨_, rfl, ?_⟩
  refine hK.out _ _ (HI6.out.held) (fun hHeld => ?_)
  clear hK K
  refine norm_ (a' := ?_) ?_ ?_
  rotate_left
  · show Act.put _ (some 31) _ = _
    simp only [Act.put, List.setIfInBounds_toArray, List.set_cons_zero, List.set_cons_succ, Go.Proofs.YtiddjadfkpjpdaaGreatDoorW.PrintLast.i64_w, Go.Proofs.YtiddjadfkpjpdaaGreatDoorW.PrintLast.i32_w]
    rfl
  refine one_ (i := 9) (N := some 32) #[true, true, true, true, true, true, true, true, true, true, false, true, false, false, false] rfl rfl (by kernel_rfl) (by decide) (fun K hK => ?_)
  refine value_ (w1 := ?_) (v := ?_) (by rfl) rfl ?_ ?_
  rotate_left 2
  · go_simp
    constructor
    · rfl
    · rfl
  refine hK.out _ _ ((HI6.out.below (ba _ _)).held) (fun hHeld => ?_)
  clear hK K
  refine norm_ (a' := ?_) ?_ ?_
  rotate_left
  · show Act.put _ (some 32) _ = _
    simp only [Act.put, List.setIfInBounds_toArray, List.set_cons_zero, List.set_cons_succ, Go.Proofs.YtiddjadfkpjpdaaGreatDoorW.PrintLast.i64_w, Go.Proofs.YtiddjadfkpjpdaaGreatDoorW.PrintLast.i32_w]
    rfl
  refine one_ (i := 10) (N := some 33) #[true, true, true, true, true, true, true, true, true, true, true, true, false, false, false] rfl rfl (by kernel_rfl) (by decide) (fun K hK => ?_)
  refine Kd.R_append_step kf (w0 := w2) w1.heap.size (by rfl) (.tmp 29) (.tmp 32) 36 38 (.agg #[(.int .i64 0), (.int .i64 0), (.string ⟨#[]⟩), (.slice none 0 0), (.slice none 0 0)]) 80 rfl Tryz.underlying36 info38 rfl (by decide) (by decide) (.slice E3 x.f3.length e3) x.f3 y [.int .i64 y.f0, .int .i64 y.f1, .string y.f2, .slice F3 y.f3.length f3, .slice F4 y.f4.length y.f4.length] (fun _ => True) (fun q => w5.heap.size ≤ q) rfl rfl ?aM ?aK (fun _ _ => trivial) HO6.out.r3 HI6.out.b1 ?aB ?aL ?_
  (case aM => exact kf.M_lower HI5.out.sz (kf.M_mono (fun q hq => hq.2.1) (kf.M_bound HN6.out.mk')))
  (case aK => exact fun q hq => ⟨trivial, fun e => by have := Kd.R_lt HO5.out.r3 q e.symm; omega⟩)
  (case aB => exact HI6.out.sz)
  (case aL => omega)
  intro v1 w7 hR7 hB7 hg7 hat7
  have HI7 := Lib.hid (HI6.out.grown hg7 (Kd.R_base HO6.out.r3) hB7)
  have HR7k := Lib.hid (Kd.R_over HR6.out HO6.out.r3 (by simp [Kd.string, Kd.scalar]) hg7)
  obtain ⟨A7, c7, hv7⟩ := Kd.R_slice hR7
  subst hv7
  have HR7 := Lib.hid hR7
  clear hR7 hB7 hg7 hat7
  refine hK.out _ _ (HI7.out.held) (fun hHeld => ?_)
  clear hK K
  refine norm_ (a' := ?_) ?_ ?_
  rotate_left
  · show Act.put _ (some 33) _ = _
    simp only [Act.put, List.setIfInBounds_toArray, List.set_cons_zero, List.set_cons_succ, Go.Proofs.YtiddjadfkpjpdaaGreatDoorW.PrintLast.i64_w, Go.Proofs.YtiddjadfkpjpdaaGreatDoorW.PrintLast.i32_w]
    rfl
  refine last_ (i := 12) (N := none) #[true, true, true, true, true, true, true, true, true, true, true, true, true, false, false] rfl rfl (by kernel_rfl) (by decide) (fun K hK => ?_)
  obtain ⟨s0, s1, s2, s3, s4, s5, s6⟩ := hHeld
  have u4 := blk_frozen HI7.out.V 4
  refine skip_ (w1 := ?_) (by rfl) rfl ?_ ?_
  rotate_left
  · go_simp
    rfl
  refine hK.out _ _ ?_
  clear hK K
  refine pure_ (i := 13) (N := some 35) (v := ?_) (a' := ?_) #[true, true, true, true, true, true, true, true, true, true, true, true, true, true, false] rfl rfl (by kernel_rfl) (fun _ _ _ h => h) (Or.inl ⟨by rfl, ?_⟩) ?_ ?_
  rotate_left
  · intro w'
    go_simp
    with_reducible rfl
  rotate_left
  · simp only [Act.put, List.setIfInBounds_toArray, List.set_cons_zero, List.set_cons_succ, Go.Proofs.YtiddjadfkpjpdaaGreatDoorW.PrintLast.i64_w, Go.Proofs.YtiddjadfkpjpdaaGreatDoorW.PrintLast.i32_w]
    rfl
  refine last_ (i := 14) (N := none) #[true, true, true, true, true, true, true, true, true, true, true, true, true, true, true] rfl rfl (by kernel_rfl) (by decide) (fun K hK => ?_)
  have u3 := blk_frozen HI7.out.V 3
  refine skip_ (w1 := ?_) (by rfl) rfl ?_ ?_
  rotate_left
  · go_simp
    rfl
  refine hK.out _ _ ?_
  clear hK K
  refine done_ (by kernel_rfl) ?_
  obtain ⟨w9, hw9⟩ : ∃ w9, w9 = (w7.setCell ⟨w.heap.size, 4, none⟩ (.slice A5 (x.f4.length + 1) c5)).setCell ⟨w.heap.size, 3, none⟩ (.slice A7 (x.f3.length + 1) c7) := ⟨_, rfl⟩
  have hV9 : w9.heap[w.heap.size]? = some (.cells #[.int .i64 x.f0, .int .i64 x.f1, .string x.f2, .slice A7 (x.f3.length + 1) c7, .slice A5 (x.f4.length + 1) c5] 38 (0, 0)) := by
    rw [hw9]; exact blk_set (blk_set HI7.out.V 4 _) 3 _
  have hf9 : ∀ q, q ≠ w.heap.size → w9.heap[q]? = w7.heap[q]? := fun q hq => by
    rw [hw9, Below.heap_setCell _ _ _ _ (by simpa using hq), Below.heap_setCell _ _ _ _ (by simpa using hq)]
  have hZ9 : w9.heap[w.heap.size + 1 + 1]? = some (.cells #[.int .i64 0, .int .i64 0, .string ⟨#[]⟩, .slice none 0 0, .slice none 0 0] 38 (0, 0)) := (hf9 _ (by omega)).trans HI7.out.Z
  have hB9 : Below w.heap.size w w9 := by rw [hw9]; exact (HI7.out.bw.setCell (Nat.le_refl _) _).setCell (Nat.le_refl _) _
  have hlo := HI7.out.lo
  have hZ10 := set5_blk hZ9 (.int .i64 x.f0) (.int .i64 x.f1) (.string x.f2) (.slice A7 (x.f3.length + 1) c7) (.slice A5 (x.f4.length + 1) c5)
  have hO7 : Own2 w7 w1.heap.size (setB x key y) A7 c7 A5 c5 := ⟨HR7.out, (Kd.R_reads' HR7k.out).2.1, c5, Kd.R_lower HR7k.out (Nat.le_trans HI3.out.sz (Nat.le_refl _))⟩
  have hO10 : Own2 (set5 w9 (w.heap.size + 1 + 1) (.int .i64 x.f0) (.int .i64 x.f1) (.string x.f2) (.slice A7 (x.f3.length + 1) c7) (.slice A5 (x.f4.length + 1) c5)) w.heap.size (setB x key y) A7 c7 A5 c5 :=
    (hO7.far (fun q hq _ => (set5_far _ _ _ _ _ _ _ q (by omega)).trans (hf9 q (by omega)))).lower (by omega)
  have hB10 := set5_below hB9 (w.heap.size + 1 + 1) (by omega) (.int .i64 x.f0) (.int .i64 x.f1) (.string x.f2) (.slice A7 (x.f3.length + 1) c7) (.slice A5 (x.f4.length + 1) c5)
  have HZ10 := Lib.hid hZ10
  have HO10 := Lib.hid hO10
  have HB10 := Lib.hid hB10
  have v0 := blk_cell hV9 0
  have v1 := blk_cell hV9 1
  have v2 := blk_cell hV9 2
  have v3 := blk_cell hV9 3
  have v4 := blk_cell hV9 4
  have z0 := blk_cell hZ9 0
  have z1 := blk_cell hZ9 1
  have z2 := blk_cell hZ9 2
  have z3 := blk_cell hZ9 3
  have z4 := blk_cell hZ9 4
  have y0 := blk_frozen hZ9 0
  have y1 := blk_frozen hZ9 1
  have y2 := blk_frozen hZ9 2
  have y3 := blk_frozen hZ9 3
  have y4 := blk_frozen hZ9 4
  rw [← hw9]
  clear hV9 hf9 hZ9 hB9 hlo hZ10 hO7 hO10 hB10 hHeld s0 s1 s2 s3 s4 s5 s6 u3 u4
  clear hw9
  simp only [Exit.then]
  apply_assumption
  go_wp2_with fail
  refine bodyPost_ret (results_cell_row rfl _ _ (w.heap.size + 1 + 1) 38 _ (0, 0) _ rfl HZ10.out Tryz.underlying38 rfl (by kernel_rfl)) rfl ?_
  exact ⟨A7, c7, A5, c5, by rw [show (setB x key y).f3.length = x.f3.length + 1 from by simp [setB], show (setB x key y).f4.length = x.f4.length + 1 from by simp [setB]]; rfl, HO10.out, HB10.out⟩
end Go.Proofs.YtiddjadfkpjpdaaGreatDoor.Q
