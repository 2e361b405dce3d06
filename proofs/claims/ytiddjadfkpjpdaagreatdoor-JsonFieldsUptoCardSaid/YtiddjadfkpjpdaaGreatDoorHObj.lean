/- json.Word, Int, Object. -/
import Derived.Test.YtiddjadfkpjpdaaGreatDoorHSet
set_option linter.unusedVariables false
set_option linter.unusedSimpArgs false
namespace Go.Proofs.YtiddjadfkpjpdaaGreatDoor.Q
open Go.RowKit Go.Proofs.YtiddjadfkpjpdaaGreatDoorW.PrintWords Go.Proofs.YtiddjadfkpjpdaaGreatDoorW.PrintLast
/-- A text, a number as a value. -/
def wordB (s : ByteArray) : S38 := ⟨4, 0, s, [], []⟩
def intB (n : Int) : S38 := ⟨3, n, ⟨#[]⟩, [], []⟩
theorem cnil {α : Type} (d : Kd α) (w : World) (A : Option Addr) : d.C w A 0 [] := ⟨rfl, by omega, fun h => by omega⟩
theorem wordB_vc (w : World) (s : ByteArray) : VC w (wordB s) none 0 none 0 := ⟨Nat.le_refl 0, cnil _ _ _, Nat.le_refl 0, cnil _ _ _⟩
theorem intB_vc (w : World) (n : Int) : VC w (intB n) none 0 none 0 := ⟨Nat.le_refl 0, cnil _ _ _, Nat.le_refl 0, cnil _ _ _⟩
theorem wordB_wt (s : ByteArray) : (wordB s).wt = 1 + s.size := by simp [wordB, S38.wt, wtsL]
theorem intB_wt (n : Int) : (intB n).wt = 1 := by have hz : (⟨#[]⟩ : ByteArray).size = 0 := rfl; simp [intB, S38.wt, wtsL, hz]
set_option maxRecDepth 100000 in
set_option maxHeartbeats 4000000 in
theorem jword_calls (s : ByteArray) (w : World) : Calls Tryz.prog 74 #[.string s] w fun e w' => e = .returned (.agg #[.int .i64 4, .int .i64 0, .string s, .slice none 0 0, .slice none 0 0]) ∧ Below w.heap.size w w' := by
  go_enter Tryz.func74, Tryz.ntmps74
  go_wp2_with fail
  exact bodyPost_ret (results_cell_row rfl _ _ w.heap.size 38 _ (0, 0) _ rfl (World.alloc_heap_new w _) Tryz.underlying38 rfl (by kernel_rfl)) rfl ⟨rfl, ba _ _⟩
set_option maxRecDepth 100000 in
set_option maxHeartbeats 4000000 in
theorem rword_calls (s : ByteArray) (w : World) : Calls Tryz.prog 75 #[.string s] w fun e w' => e = .returned (.agg #[.int .i64 4, .int .i64 0, .string s, .slice none 0 0, .slice none 0 0]) ∧ Below w.heap.size w w' := by
  go_enter Tryz.func75, Tryz.ntmps75
  go_wp2_with fail
  exact bodyPost_ret (results_cell_row rfl _ _ w.heap.size 38 _ (0, 0) _ rfl (World.alloc_heap_new w _) Tryz.underlying38 rfl (by kernel_rfl)) rfl ⟨rfl, ba _ _⟩
set_option maxRecDepth 100000 in
set_option maxHeartbeats 4000000 in
theorem jint_calls (n : Int) (w : World) : Calls Tryz.prog 78 #[.int .i64 n] w fun e w' => e = .returned (.agg #[.int .i64 3, .int .i64 n, .string ⟨#[]⟩, .slice none 0 0, .slice none 0 0]) ∧ Below w.heap.size w w' := by
  go_enter Tryz.func78, Tryz.ntmps78
  go_wp2_with fail
  exact bodyPost_ret (results_cell_row rfl _ _ w.heap.size 38 _ (0, 0) _ rfl (World.alloc_heap_new w _) Tryz.underlying38 rfl (by kernel_rfl)) rfl ⟨rfl, ba _ _⟩
set_option maxRecDepth 100000 in
set_option maxHeartbeats 4000000 in
theorem rint_calls (n : Int) (w : World) : Calls Tryz.prog 79 #[.int .i64 n] w fun e w' => e = .returned (.agg #[.int .i64 3, .int .i64 n, .string ⟨#[]⟩, .slice none 0 0, .slice none 0 0]) ∧ Below w.heap.size w w' := by
  go_enter Tryz.func79, Tryz.ntmps79
  go_wp2_with fail
  exact bodyPost_ret (results_cell_row rfl _ _ w.heap.size 38 _ (0, 0) _ rfl (World.alloc_heap_new w _) Tryz.underlying38 rfl (by kernel_rfl)) rfl ⟨rfl, ba _ _⟩
theorem at_pair {w : World} {A : Option Addr} {l : List S90} (h : k90.C w A l.length l) (i : Nat) (hi : i < l.length) :
    ∃ b o, A = some ⟨b, o, none⟩ ∧ b < w.heap.size ∧ w.cell? ⟨b, o + i * 2, none⟩ = some (.string l[i].f0) ∧ w.cell? ⟨b, o + i * 2 + 1, none⟩ = some (.string l[i].f1) := by
  obtain ⟨ad, rfl, h0, h1⟩ := at_T90 h (i : Int) (by omega) (by omega)
  have er : rd_T90 l (i : Int) = l[i] := by unfold rd_T90; rw [Int.toNat_natCast, List.getD_eq_getElem?_getD, List.getElem?_eq_getElem hi]; rfl
  rw [er] at h0 h1
  rw [Int.toNat_natCast] at h0 h1
  obtain ⟨b, o, sp⟩ := ad
  have hsp : sp = none := by
    cases sp with
    | none => rfl
    | some s =>
      exfalso
      have hx : w.cell? ⟨b, o, some s⟩ = none := by unfold World.cell?; split <;> simp
      obtain ⟨ad, e, q0, _⟩ := at_T90 h 0 (by omega) (by omega)
      simp only [Option.some.injEq] at e
      subst e
      simp [Addr.add] at q0
      rw [hx] at q0
      cases q0
  subst hsp
  have ea : (⟨b, o, none⟩ : Addr).add (i * 2) = ⟨b, o + i * 2, none⟩ := by
    unfold Addr.add
    split
    · rename_i h; simp [h]
    · rfl
  rw [ea] at h0 h1
  exact ⟨b, o, rfl, World.block_lt_of_cell? w _ h0, h0, h1⟩
/-- An object of texts, in order; keys that came before are left out. -/
def objS (v : S38) (p : S90) : S38 := if 0 ≤ idxK v.f4 p.f0 then v else setB v p.f0 (wordB p.f1)
def objF (v : S38) (l : List S90) : S38 := l.foldl objS v
def obj0 : S38 := ⟨6, 0, ⟨#[]⟩, [], []⟩
theorem objF_snoc (v : S38) (l : List S90) (k : Nat) (h : k < l.length) : objF v (l.take (k + 1)) = objS (objF v (l.take k)) l[k] := by
  unfold objF; rw [List.take_succ_eq_append_getElem h, List.foldl_append]; rfl
def pw (p : S90) : Nat := 2 + p.f0.size + p.f1.size
def pws (l : List S90) : Nat := (l.map pw).sum
theorem wts_app' (l : List S38) (x : S38) : wtsL (l ++ [x]) = wtsL l + x.wt := by
  induction l with
  | nil => simp [wtsL]
  | cons a r ih => simp [wtsL, ih]; omega
theorem setB_wt (x : S38) (key : ByteArray) (y : S38) : (setB x key y).wt = x.wt + y.wt + 1 + key.size := by
  cases x
  simp [setB, S38.wt, wts_app']; omega
theorem objS_wt (v : S38) (p : S90) : (objS v p).wt ≤ v.wt + pw p := by
  unfold objS pw
  split
  · omega
  · rw [setB_wt, wordB_wt]; omega
theorem objF_wt (l : List S90) : ∀ v : S38, (objF v l).wt ≤ v.wt + pws l := by
  induction l with
  | nil => intro v; simp [objF, pws]
  | cons p l ih =>
    intro v
    have h1 := ih (objS v p)
    have h2 := objS_wt v p
    simp only [objF, List.foldl_cons, pws, List.map_cons, List.sum_cons] at h1 ⊢
    omega
theorem pws_take (l : List S90) (k : Nat) : pws (l.take k) ≤ pws l := by
  have : pws l = pws (l.take k) + pws (l.drop k) := by
    unfold pws; rw [← List.sum_append, ← List.map_append, List.take_append_drop]
  omega
theorem pws_get (l : List S90) (k : Nat) (h : k < l.length) : pw l[k] ≤ pws l := by
  induction l generalizing k with
  | nil => simp at h
  | cons p l ih =>
    cases k with
    | zero => simp [pws]
    | succ k => simp only [List.getElem_cons_succ, pws, List.map_cons, List.sum_cons]; have := ih k (by simpa using h); unfold pws at this; omega
theorem pws_len (l : List S90) : 2 * l.length ≤ pws l := by
  induction l with
  | nil => simp [pws]
  | cons p l ih =>
    have e : pws (p :: l) = pw p + pws l := by simp [pws]
    rw [e, List.length_cons]
    unfold pw
    omega
/-- The memory of Object in a round. -/
structure ObjI (b g : Nat) (v : S38) (A3 : Option Addr) (c3 : Nat) (A4 : Option Addr) (c4 : Nat) (p : S90) (w0 wr : World) : Prop where
  Z : wr.heap[b]? = some (.cells #[.int .i64 0, .int .i64 0, .string ⟨#[]⟩, .slice none 0 0, .slice none 0 0] 38 (0, 0))
  V : wr.heap[b + 1]? = some (.cells #[.int .i64 v.f0, .int .i64 v.f1, .string v.f2, .slice A3 v.f3.length c3, .slice A4 v.f4.length c4] 38 (0, 0))
  P : wr.heap[g]? = some (.cells #[.string p.f0, .string p.f1] 90 (0, 0))
  own : Own2 wr (b + 2) v A3 c3 A4 c4
  bw : Below w0.heap.size w0 wr
  sz : b + 2 ≤ wr.heap.size
section
variable {b g : Nat} {v : S38} {A3 : Option Addr} {c3 : Nat} {A4 : Option Addr} {c4 : Nat} {p : S90} {w0 wr : World}
theorem ObjI.held (h : ObjI b g v A3 c3 A4 c4 p w0 wr) : wr.cell? ⟨b + 1, 0, none⟩ = some (.int .i64 v.f0) ∧ wr.cell? ⟨b + 1, 1, none⟩ = some (.int .i64 v.f1) ∧ wr.cell? ⟨b + 1, 2, none⟩ = some (.string v.f2) ∧ wr.cell? ⟨b + 1, 3, none⟩ = some (.slice A3 v.f3.length c3) ∧ wr.cell? ⟨b + 1, 4, none⟩ = some (.slice A4 v.f4.length c4) ∧ wr.cell? ⟨g, 0, none⟩ = some (.string p.f0) ∧ wr.cell? ⟨g, 1, none⟩ = some (.string p.f1) :=
  ⟨(blk_cell h.V 0).trans rfl, (blk_cell h.V 1).trans rfl, (blk_cell h.V 2).trans rfl, (blk_cell h.V 3).trans rfl, (blk_cell h.V 4).trans rfl, (blk_cell h.P 0).trans rfl, (blk_cell h.P 1).trans rfl⟩
theorem ObjI.below (h : ObjI b g v A3 c3 A4 c4 p w0 wr) {w' : World} (hb : Below wr.heap.size wr w') : ObjI b g v A3 c3 A4 c4 p w0 w' :=
  ⟨(hb.block _ (blk_lt h.Z)).trans h.Z, (hb.block _ (blk_lt h.V)).trans h.V, (hb.block _ (blk_lt h.P)).trans h.P, h.own.below hb, h.bw.trans (hb.mono h.bw.size), Nat.le_trans h.sz hb.size⟩
theorem ObjI.drew (h : ObjI b g v A3 c3 A4 c4 p w0 wr) : ObjI b g v A3 c3 A4 c4 p w0 wr.drew := h.below (below_drew1 (Below.refl _ _))
end
set_option maxRecDepth 100000 in
set_option maxHeartbeats 8000000 in
theorem jobject_calls (l : List S90) (A : Option Addr) (c : Nat) (w : World) (hl : k90.C w A l.length l) (hw : pws l ≤ 1000000000) :
    Calls Tryz.prog 34 #[.slice A l.length c] w fun e w' => ∃ A3 c3 A4 c4, e = .returned (.agg #[.int .i64 (objF obj0 l).f0, .int .i64 (objF obj0 l).f1, .string (objF obj0 l).f2, .slice A3 (objF obj0 l).f3.length c3, .slice A4 (objF obj0 l).f4.length c4]) ∧ Own2 w' w.heap.size (objF obj0 l) A3 c3 A4 c4 ∧ Below w.heap.size w w' := by
  have hlen := pws_len l
  obtain ⟨W1, hW1⟩ : ∃ W1, W1 = (w.alloc (.cells #[.int .i64 0, .int .i64 0, .string ⟨#[]⟩, .slice none 0 0, .slice none 0 0] 38)).alloc (.cells #[.int .i64 6, .int .i64 0, .string ⟨#[]⟩, .slice none 0 0, .slice none 0 0] 38) := ⟨_, rfl⟩
  have hb1 : Below w.heap.size w W1 := by rw [hW1]; exact ba2 _ _ _
  have hs1 : w.heap.size + 2 ≤ W1.heap.size := by rw [hW1]; simp
  have hZ1 : W1.heap[w.heap.size]? = some (.cells #[.int .i64 0, .int .i64 0, .string ⟨#[]⟩, .slice none 0 0, .slice none 0 0] 38 (0, 0)) := by rw [hW1]; exact blk_alloc (World.alloc_heap_new _ _) _
  have hV1 : W1.heap[w.heap.size + 1]? = some (.cells #[.int .i64 6, .int .i64 0, .string ⟨#[]⟩, .slice none 0 0, .slice none 0 0] 38 (0, 0)) := by
    rw [hW1]
    have := World.alloc_heap_new (w.alloc (.cells #[.int .i64 0, .int .i64 0, .string ⟨#[]⟩, .slice none 0 0, .slice none 0 0] 38)) (.cells #[.int .i64 6, .int .i64 0, .string ⟨#[]⟩, .slice none 0 0, .slice none 0 0] 38)
    rwa [World.size_alloc] at this
  have hO1 : Own2 W1 (w.heap.size + 2) obj0 none 0 none 0 := ⟨Kd.R_nil _ _ _ _ _, Nat.le_refl 0, 0, Kd.R_nil _ _ _ _ _⟩
  have HL := Lib.hid hl
  have HB1 := Lib.hid hb1
  have HW1 := Lib.hid hW1
  have HZ1 := Lib.hid hZ1
  have HV1 := Lib.hid hV1
  have HO1 := Lib.hid hO1
  clear hl hb1 hW1 hZ1 hV1 hO1
  go_enter Tryz.func34, Tryz.ntmps34
  go_wp2_with fail
  rw [← HW1.out]
  go_loopw [9] (fun i wr => ∃ k v A3 c3 A4 c4, k ≤ l.length ∧ i = .int .i64 (k : Nat) ∧ Hid (v = objF obj0 (l.take k)) ∧ wr.heap[w.heap.size]? = some (.cells #[.int .i64 0, .int .i64 0, .string ⟨#[]⟩, .slice none 0 0, .slice none 0 0] 38 (0, 0)) ∧ wr.heap[w.heap.size + 1]? = some (.cells #[.int .i64 v.f0, .int .i64 v.f1, .string v.f2, .slice A3 v.f3.length c3, .slice A4 v.f4.length c4] 38 (0, 0)) ∧ Own2 wr (w.heap.size + 2) v A3 c3 A4 c4 ∧ Below w.heap.size w wr ∧ w.heap.size + 2 ≤ wr.heap.size) (fun i _ => l.length - (intOf i).toNat)
  case atStart => exact ⟨0, obj0, none, 0, none, 0, Nat.zero_le _, rfl, rfl, HZ1.out, HV1.out, HO1.out, HB1.out, hs1⟩
  case round =>
    obtain ⟨k, v, A3, c3, A4, c4, hk, rfl, hv, hZ, hV, hO, hbw, hsz⟩ := hrel
    have HWV : Hid (v.wt ≤ 1073741824) := by
      show _ ≤ _
      have h1 := objF_wt (l.take k) obj0
      have h2 := pws_take l k
      have h3 : obj0.wt = 1 := by decide +kernel
      rw [hv.out]; omega
    by_cases hlt : k < l.length
    · obtain ⟨b2, o2, rfl, hb2, g0, g1⟩ := at_pair HL.out k hlt
      replace g0 := (hbw.cell (p := ⟨b2, o2 + k * 2, none⟩) hb2).trans g0
      replace g1 := (hbw.cell (p := ⟨b2, o2 + k * 2 + 1, none⟩) hb2).trans g1
      have HWY : Hid ((wordB l[k].f1).wt ≤ 1073741824) := by
        show _ ≤ _
        have := pws_get l k hlt
        unfold pw at this
        rw [wordB_wt]; omega
      have HCT := Lib.hid (contains_calls v.f4 l[k].f0 A4 c4 _ ((hO.below (ba wr (.cells #[.string l[k].f0, .string l[k].f1] 90))).vc.g4) (by have := wt_len4 v; have := HWV.out; omega))
      have HI4 : Hid (ObjI w.heap.size wr.heap.size v A3 c3 A4 c4 l[k] w (wr.alloc (.cells #[.string l[k].f0, .string l[k].f1] 90))) := ⟨blk_alloc hZ _, blk_alloc hV _, World.alloc_heap_new _ _, hO.below (ba _ _), hbw.trans ((ba _ _).mono hbw.size), by simp; omega⟩
      have v0 := blk_cell hV 0
      have v1 := blk_cell hV 1
      have v2 := blk_cell hV 2
      have v3 := blk_cell hV 3
      have v4 := blk_cell hV 4
      have hVlt := blk_lt hV
      have hne : ¬ w.heap.size + 1 = wr.heap.size := by omega
      have HZ := Lib.hid hZ
      have HV := Lib.hid hV
      have HO := Lib.hid hO
      have HBW := Lib.hid hbw
      clear hZ hV hO hbw
      by_cases hi : 0 ≤ idxK v.f4 l[k].f0
      · have HN : Hid (v = objF obj0 (l.take (k + 1))) := by
          show _ = _
          rw [objF_snoc _ _ _ hlt, ← hv.out]; unfold objS; rw [if_pos hi]
        rw [decide_eq_true hi] at HCT
        clear hi
        go_wp2_with fail
        refine HCT.out.mono ?_
        rintro e w5 ⟨rfl, hw5⟩
        go_wp2_with fail
        rw [← hw5]
        clear hw5
        go_roundw
        case rel => exact ⟨k + 1, v, A3, c3, A4, c4, by omega, by go_num, HN.out, HI4.out.Z, HI4.out.V, HI4.out.own, HI4.out.bw, HI4.out.sz⟩
        case measure => simp [intOf]; omega
      · have HIDX : Hid (idxK v.f4 l[k].f0 = -1) := by show _ = _; have := idxK_lo v.f4 l[k].f0; omega
        have HN : Hid (setB v l[k].f0 (wordB l[k].f1) = objF obj0 (l.take (k + 1))) := by
          show _ = _
          rw [objF_snoc _ _ _ hlt, ← hv.out]; unfold objS; rw [if_neg hi]
        rw [decide_eq_false hi] at HCT
        clear hi
        go_wp2_with fail
        refine HCT.out.mono ?_
        rintro e w5 ⟨rfl, hw5⟩
        have HI5 : Hid (ObjI w.heap.size wr.heap.size v A3 c3 A4 c4 l[k] w w5) := by rw [← hw5]; exact HI4.out
        clear hw5
        have p0 := blk_cell HI5.out.P 0
        have p1 := blk_cell HI5.out.P 1
        have v0 := blk_cell HI5.out.V 0
        have v1 := blk_cell HI5.out.V 1
        have v2 := blk_cell HI5.out.V 2
        have v3 := blk_cell HI5.out.V 3
        have v4 := blk_cell HI5.out.V 4
        go_wp2_with fail
        refine start_ (n := 8) (S := fun w' => w'.cell? ⟨w.heap.size + 1, 0, none⟩ = some (.int .i64 v.f0) ∧ w'.cell? ⟨w.heap.size + 1, 1, none⟩ = some (.int .i64 v.f1) ∧ w'.cell? ⟨w.heap.size + 1, 2, none⟩ = some (.string v.f2) ∧ w'.cell? ⟨w.heap.size + 1, 3, none⟩ = some (.slice A3 v.f3.length c3) ∧ w'.cell? ⟨w.heap.size + 1, 4, none⟩ = some (.slice A4 v.f4.length c4) ∧ w'.cell? ⟨wr.heap.size, 0, none⟩ = some (.string l[k].f0) ∧ w'.cell? ⟨wr.heap.size, 1, none⟩ = some (.string l[k].f1)) (ds := [7]) #[false, false, false, false, false, false, false, false] (by kernel_rfl) rfl rfl HI5.out.drew.held (fun hHeld => ?_)
        refine take_ (i := 0) (N := some 19) (v := ?_) (a' := ?_) #[true, false, false, false, false, false, false, false] rfl rfl (by kernel_rfl) (fun _ _ _ h => h) (Or.inl ⟨by rfl, ?_⟩) hHeld ?_ ?_
        rotate_left
        · rintro w' ⟨s0, s1, s2, s3, s4, s5, s6⟩
          go_simp
          with_reducible rfl
        rotate_left
        · simp only [Act.put, List.setIfInBounds_toArray, List.set_cons_zero, List.set_cons_succ, Go.Proofs.YtiddjadfkpjpdaaGreatDoorW.PrintLast.i64_w, Go.Proofs.YtiddjadfkpjpdaaGreatDoorW.PrintLast.i32_w]
          rfl
        refine pure_ (i := 1) (N := some 20) (v := ?_) (a' := ?_) #[true, true, false, false, false, false, false, false] rfl rfl (by kernel_rfl) (fun _ _ _ h => h) (Or.inl ⟨by rfl, ?_⟩) ?_ ?_
        rotate_left
        · intro w'
          go_simp
          with_reducible rfl
        rotate_left
        · simp only [Act.put, List.setIfInBounds_toArray, List.set_cons_zero, List.set_cons_succ, Go.Proofs.YtiddjadfkpjpdaaGreatDoorW.PrintLast.i64_w, Go.Proofs.YtiddjadfkpjpdaaGreatDoorW.PrintLast.i32_w]
          rfl
        refine take_ (i := 2) (N := some 21) (v := ?_) (a' := ?_) #[true, true, true, false, false, false, false, false] rfl rfl (by kernel_rfl) (fun _ _ _ h => h) (Or.inl ⟨by rfl, ?_⟩) hHeld ?_ ?_
        rotate_left
        · rintro w' ⟨s0, s1, s2, s3, s4, s5, s6⟩
          go_simp
          with_reducible rfl
        rotate_left
        · simp only [Act.put, List.setIfInBounds_toArray, List.set_cons_zero, List.set_cons_succ, Go.Proofs.YtiddjadfkpjpdaaGreatDoorW.PrintLast.i64_w, Go.Proofs.YtiddjadfkpjpdaaGreatDoorW.PrintLast.i32_w]
          rfl
        refine pure_ (i := 3) (N := some 22) (v := ?_) (a' := ?_) #[true, true, true, true, false, false, false, false] rfl rfl (by kernel_rfl) (fun _ _ _ h => h) (Or.inl ⟨by rfl, ?_⟩) ?_ ?_
        rotate_left
        · intro w'
          go_simp
          with_reducible rfl
        rotate_left
        · simp only [Act.put, List.setIfInBounds_toArray, List.set_cons_zero, List.set_cons_succ, Go.Proofs.YtiddjadfkpjpdaaGreatDoorW.PrintLast.i64_w, Go.Proofs.YtiddjadfkpjpdaaGreatDoorW.PrintLast.i32_w]
          rfl
        refine take_ (i := 4) (N := some 23) (v := ?_) (a' := ?_) #[true, true, true, true, true, false, false, false] rfl rfl (by kernel_rfl) (fun _ _ _ h => h) (Or.inl ⟨by rfl, ?_⟩) hHeld ?_ ?_
        rotate_left
        · rintro w' ⟨s0, s1, s2, s3, s4, s5, s6⟩
          go_simp
          with_reducible rfl
        rotate_left
        · simp only [Act.put, List.setIfInBounds_toArray, List.set_cons_zero, List.set_cons_succ, Go.Proofs.YtiddjadfkpjpdaaGreatDoorW.PrintLast.i64_w, Go.Proofs.YtiddjadfkpjpdaaGreatDoorW.PrintLast.i32_w]
          rfl
        refine one_ (i := 5) (N := some 24) #[true, true, true, true, true, true, false, false] rfl rfl (by kernel_rfl) (by decide) (fun K hK => ?_)
        refine goes_ Tryz.func74 (by kernel_rfl) rfl #[.string l[k].f1] (by rfl) rfl rfl (by (try simp only [List.map_toArray, List.map_cons, List.map_nil]); first | done | rfl) ?_
        refine (jword_calls l[k].f1 _).mono ?_
        rintro e w6 ⟨rfl, b6⟩
        have HI6 := Lib.hid (HI5.out.below ((below_drew1 (Below.refl _ _)).trans b6))
        clear b6
        refine ⟨_, rfl, ?_⟩
        refine hK.out _ _ HI6.out.held (fun hHeld => ?_)
        clear hK K
        refine norm_ (a' := ?_) ?_ ?_
        rotate_left
        · show Act.put _ (some 24) _ = _
          simp only [Act.put, List.setIfInBounds_toArray, List.set_cons_zero, List.set_cons_succ, Go.Proofs.YtiddjadfkpjpdaaGreatDoorW.PrintLast.i64_w, Go.Proofs.YtiddjadfkpjpdaaGreatDoorW.PrintLast.i32_w]
          rfl
        refine one_ (i := 6) (N := some 25) #[true, true, true, true, true, true, true, false] rfl rfl (by kernel_rfl) (by decide) (fun K hK => ?_)
        refine goes_ Tryz.func73 (by kernel_rfl) rfl #[.agg #[.int .i64 v.f0, .int .i64 v.f1, .string v.f2, .slice A3 v.f3.length c3, .slice A4 v.f4.length c4], .string l[k].f0, .agg #[.int .i64 4, .int .i64 0, .string l[k].f1, .slice none 0 0, .slice none 0 0]] (by rfl) rfl rfl (by (try simp only [List.map_toArray, List.map_cons, List.map_nil]); first | done | rfl) ?_
        refine (set_calls v (wordB l[k].f1) l[k].f0 A3 c3 A4 c4 none 0 none 0 w6 HI6.out.own.vc (wordB_vc _ _) HWV.out HWY.out HIDX.out).mono ?_
        rintro e w7 ⟨E3, e3, E4, e4, rfl, ho7, b7⟩
        have HI7 := Lib.hid (HI6.out.below b7)
        have HO7 := Lib.hid (ho7.lower HI6.out.sz)
        clear ho7 b7
        refine ⟨_, rfl, ?_⟩
        refine hK.out _ _ HI7.out.held (fun hHeld => ?_)
        clear hK K
        refine norm_ (a' := ?_) ?_ ?_
        rotate_left
        · show Act.put _ (some 25) _ = _
          simp only [Act.put, List.setIfInBounds_toArray, List.set_cons_zero, List.set_cons_succ, Go.Proofs.YtiddjadfkpjpdaaGreatDoorW.PrintLast.i64_w, Go.Proofs.YtiddjadfkpjpdaaGreatDoorW.PrintLast.i32_w]
          rfl
        refine last_ (i := 7) (N := none) #[true, true, true, true, true, true, true, true] rfl rfl (by kernel_rfl) (by decide) (fun K hK => ?_)
        obtain ⟨s0, s1, s2, s3, s4, s5, s6⟩ := hHeld
        have u0 := blk_frozen HI7.out.V 0
        have u1 := blk_frozen HI7.out.V 1
        have u2 := blk_frozen HI7.out.V 2
        have u3 := blk_frozen HI7.out.V 3
        have u4 := blk_frozen HI7.out.V 4
        refine skip_ (w1 := ?_) (by rfl) rfl ?_ ?_
        rotate_left
        · go_simp
          rfl
        refine hK.out _ _ ?_
        clear hK K
        refine done_ (by kernel_rfl) ?_
        obtain ⟨w9, hw9⟩ : ∃ w9, w9 = set5 w7 (w.heap.size + 1) (.int .i64 (setB v l[k].f0 (wordB l[k].f1)).f0) (.int .i64 (setB v l[k].f0 (wordB l[k].f1)).f1) (.string (setB v l[k].f0 (wordB l[k].f1)).f2) (.slice E3 (setB v l[k].f0 (wordB l[k].f1)).f3.length e3) (.slice E4 (setB v l[k].f0 (wordB l[k].f1)).f4.length e4) := ⟨_, rfl⟩
        have hf9 : ∀ q, q ≠ w.heap.size + 1 → w9.heap[q]? = w7.heap[q]? := fun q hq => by rw [hw9]; exact set5_far _ _ _ _ _ _ _ q hq
        have HV9 : Hid (w9.heap[w.heap.size + 1]? = some (.cells #[.int .i64 (setB v l[k].f0 (wordB l[k].f1)).f0, .int .i64 (setB v l[k].f0 (wordB l[k].f1)).f1, .string (setB v l[k].f0 (wordB l[k].f1)).f2, .slice E3 (setB v l[k].f0 (wordB l[k].f1)).f3.length e3, .slice E4 (setB v l[k].f0 (wordB l[k].f1)).f4.length e4] 38 (0, 0))) := by
          show _ = _
          rw [hw9]; exact set5_blk HI7.out.V _ _ _ _ _
        have HZ9 : Hid (w9.heap[w.heap.size]? = some (.cells #[.int .i64 0, .int .i64 0, .string ⟨#[]⟩, .slice none 0 0, .slice none 0 0] 38 (0, 0))) := (hf9 _ (by omega)).trans HI7.out.Z
        have HO9 := Lib.hid (HO7.out.far (fun q hq _ => hf9 q (by omega)))
        have HB9 : Hid (Below w.heap.size w w9) := by rw [hw9]; exact set5_below HI7.out.bw _ (by omega) _ _ _ _ _
        have HS9 : Hid (w.heap.size + 2 ≤ w9.heap.size) := by show _ ≤ _; rw [hw9]; have := HI7.out.sz; simp [set5, World.setCell]; omega
        unfold set5 at hw9
        rw [← hw9]
        clear hw9 hf9 hHeld s0 s1 s2 s3 s4 s5 s6 u0 u1 u2 u3 u4
        simp only [Exit.inBlock, Exit.then]
        apply_assumption
        go_wp2_with fail
        go_roundw
        case rel => exact ⟨k + 1, _, E3, e3, E4, e4, by omega, by go_num, HN.out, HZ9.out, HV9.out, HO9.out, HB9.out, HS9.out⟩
        case measure => simp [intOf]; omega
    · obtain rfl : k = l.length := by omega
      have hvv : v = objF obj0 l := by rw [hv.out, List.take_length]
      clear hv
      subst hvv
      have hZ10 := set5_blk hZ (.int .i64 (objF obj0 l).f0) (.int .i64 (objF obj0 l).f1) (.string (objF obj0 l).f2) (.slice A3 (objF obj0 l).f3.length c3) (.slice A4 (objF obj0 l).f4.length c4)
      have HO10 := Lib.hid ((hO.far (fun q hq _ => set5_far wr w.heap.size (.int .i64 (objF obj0 l).f0) (.int .i64 (objF obj0 l).f1) (.string (objF obj0 l).f2) (.slice A3 (objF obj0 l).f3.length c3) (.slice A4 (objF obj0 l).f4.length c4) q (by omega))).lower (show w.heap.size ≤ w.heap.size + 2 by omega))
      have HB10 := Lib.hid (set5_below hbw w.heap.size (Nat.le_refl _) (.int .i64 (objF obj0 l).f0) (.int .i64 (objF obj0 l).f1) (.string (objF obj0 l).f2) (.slice A3 (objF obj0 l).f3.length c3) (.slice A4 (objF obj0 l).f4.length c4))
      have HZ10 := Lib.hid hZ10
      have v0 := blk_cell hV 0
      have v1 := blk_cell hV 1
      have v2 := blk_cell hV 2
      have v3 := blk_cell hV 3
      have v4 := blk_cell hV 4
      have z0 := blk_cell hZ 0
      have z1 := blk_cell hZ 1
      have z2 := blk_cell hZ 2
      have z3 := blk_cell hZ 3
      have z4 := blk_cell hZ 4
      have y0 := blk_frozen hZ 0
      have y1 := blk_frozen hZ 1
      have y2 := blk_frozen hZ 2
      have y3 := blk_frozen hZ 3
      have y4 := blk_frozen hZ 4
      clear hZ hV hO hbw hZ10
      go_wp2_with fail
      refine bodyPost_ret (results_cell_row rfl _ _ w.heap.size 38 _ (0, 0) _ rfl HZ10.out Tryz.underlying38 rfl (by kernel_rfl)) rfl ?_
      exact ⟨A3, c3, A4, c4, rfl, HO10.out, HB10.out⟩
end Go.Proofs.YtiddjadfkpjpdaaGreatDoor.Q
