/- ref.Object. -/
import Derived.Test.YtiddjadfkpjpdaaGreatDoorHPut
set_option linter.unusedVariables false
set_option linter.unusedSimpArgs false
namespace Go.Proofs.YtiddjadfkpjpdaaGreatDoor.Q
open Go.RowKit Go.Proofs.YtiddjadfkpjpdaaGreatDoorW.PrintWords Go.Proofs.YtiddjadfkpjpdaaGreatDoorW.PrintLast
theorem wordB_kS (S : Nat → Prop) (w : World) (s : ByteArray) : (kS S w).K w (wordB s) [.int .i64 (wordB s).f0, .int .i64 (wordB s).f1, .string (wordB s).f2, .slice none (wordB s).f3.length 0, .slice none (wordB s).f4.length 0] :=
  fun w' _ => k38_mk w' (wordB s) (Nat.le_refl 0) (cnil _ _ _) (Nat.le_refl 0) (cnil _ _ _)
/-- The shape of an object of texts. -/
structure ObjShape (v : S38) : Prop where
  f0 : v.f0 = 6
  f1 : v.f1 = 0
  f2 : v.f2 = ⟨#[]⟩
  len : v.f3.length = v.f4.length
theorem objF_shape (l : List S90) : ∀ v, ObjShape v → ObjShape (objF v l) := by
  induction l with
  | nil => intro v h; exact h
  | cons p l ih =>
    intro v h
    refine ih _ ?_
    unfold objS
    split
    · exact h
    · exact ⟨h.f0, h.f1, h.f2, by simp [setB, h.len]⟩
theorem obj0_shape : ObjShape obj0 := ⟨rfl, rfl, rfl, rfl⟩
theorem ObjShape.eq {v : S38} (h : ObjShape v) : (⟨6, 0, ⟨#[]⟩, v.f3, v.f4⟩ : S38) = v := by
  obtain ⟨h0, h1, h2, _⟩ := h
  cases v
  simp_all
theorem ObjShape.some {v : S38} (h : ObjShape v) (key : ByteArray) : (fieldB v key).isSome = decide (0 ≤ idxK v.f4 key) := by
  rw [fieldB_at]
  by_cases hi : 0 ≤ idxK v.f4 key
  · rw [if_pos ⟨h.f0, hi⟩, decide_eq_true hi]
    have hlt : (idxK v.f4 key).toNat < v.f3.length := by
      have := h.len
      have hk : idxK v.f4 key < v.f4.length := by
        unfold idxK at hi ⊢
        split at hi
        · rename_i h1; rw [if_pos h1]; omega
        · omega
      omega
    rw [List.getElem?_eq_getElem hlt]; rfl
  · rw [if_neg (fun hh => hi hh.2), decide_eq_false hi]; rfl
theorem FieldP.val {x : S38} {key : ByteArray} {w w' : World} {e : Ending} (h : FieldP x key w e w') : ∃ (y0 y1 : Int) (y2 : ByteArray) (A3 : Option Addr) (n3 c3 : Nat) (A4 : Option Addr) (n4 c4 : Nat), e = .returned (.tuple #[.agg #[.int .i64 y0, .int .i64 y1, .string y2, .slice A3 n3 c3, .slice A4 n4 c4], .bool (fieldB x key).isSome]) ∧ Below w.heap.size w w' := by
  obtain ⟨hb, ⟨y, A3, c3, A4, c4, hf, rfl, _⟩ | ⟨hf, rfl⟩⟩ := h
  · exact ⟨_, _, _, _, _, _, _, _, _, by rw [hf]; rfl, hb⟩
  · exact ⟨_, _, _, _, _, _, _, _, _, by rw [hf]; rfl, hb⟩
/-- The memory of Object in a round. -/
structure ObjR (w : World) (v : S38) (A3 : Option Addr) (c3 : Nat) (A4 : Option Addr) (c4 : Nat) (p : S90) (b2 o : Nat) (wr : World) : Prop where
  Z : wr.heap[w.heap.size]? = some (.cells #[.int .i64 0, .int .i64 0, .string ⟨#[]⟩, .slice none 0 0, .slice none 0 0] 38 (0, 0))
  V : wr.heap[w.heap.size + 1]? = some (.cells #[.int .i64 v.f0, .int .i64 v.f1, .string v.f2, .slice A3 v.f3.length c3, .slice A4 v.f4.length c4] 38 (0, 0))
  own : OwnS (fun _ => False) wr (w.heap.size + 2) v A3 c3 A4 c4
  p0 : wr.cell? ⟨b2, o, none⟩ = some (.string p.f0)
  p1 : wr.cell? ⟨b2, o + 1, none⟩ = some (.string p.f1)
  lt : b2 < w.heap.size
  bw : Below w.heap.size w wr
  sz : w.heap.size + 2 ≤ wr.heap.size
section
variable {w : World} {v : S38} {A3 : Option Addr} {c3 : Nat} {A4 : Option Addr} {c4 : Nat} {p : S90} {b2 o : Nat} {wr : World}
theorem ObjR.held (h : ObjR w v A3 c3 A4 c4 p b2 o wr) : wr.cell? ⟨w.heap.size + 1, 0, none⟩ = some (.int .i64 v.f0) ∧ wr.cell? ⟨w.heap.size + 1, 1, none⟩ = some (.int .i64 v.f1) ∧ wr.cell? ⟨w.heap.size + 1, 2, none⟩ = some (.string v.f2) ∧ wr.cell? ⟨w.heap.size + 1, 3, none⟩ = some (.slice A3 v.f3.length c3) ∧ wr.cell? ⟨w.heap.size + 1, 4, none⟩ = some (.slice A4 v.f4.length c4) ∧ wr.cell? ⟨b2, o, none⟩ = some (.string p.f0) ∧ wr.cell? ⟨b2, o + 1, none⟩ = some (.string p.f1) :=
  ⟨(blk_cell h.V 0).trans rfl, (blk_cell h.V 1).trans rfl, (blk_cell h.V 2).trans rfl, (blk_cell h.V 3).trans rfl, (blk_cell h.V 4).trans rfl, h.p0, h.p1⟩
theorem ObjR.below (h : ObjR w v A3 c3 A4 c4 p b2 o wr) {w' : World} (hb : Below wr.heap.size wr w') : ObjR w v A3 c3 A4 c4 p b2 o w' := by
  have h1 := h.lt
  have h2 := h.sz
  exact ⟨(hb.block _ (blk_lt h.Z)).trans h.Z, (hb.block _ (blk_lt h.V)).trans h.V, h.own.below hb (fun _ hk => hk.elim), (hb.cell (p := ⟨b2, o, none⟩) (by show b2 < _; omega)).trans h.p0, (hb.cell (p := ⟨b2, o + 1, none⟩) (by show b2 < _; omega)).trans h.p1, h.lt, h.bw.trans (hb.mono h.bw.size), Nat.le_trans h.sz hb.size⟩
theorem ObjR.vc (h : ObjR w v A3 c3 A4 c4 p b2 o wr) : VC wr v A3 c3 A4 c4 := h.own.vs.vc
theorem ObjR.drew (h : ObjR w v A3 c3 A4 c4 p b2 o wr) : ObjR w v A3 c3 A4 c4 p b2 o wr.drew := h.below (below_drew1 (Below.refl _ _))
end
set_option maxRecDepth 100000 in
set_option maxHeartbeats 8000000 in
theorem robject_calls (l : List S90) (A : Option Addr) (c : Nat) (w : World) (hl : k90.C w A l.length l) (hw : pws l ≤ 1000000000) :
    Calls Tryz.prog 35 #[.slice A l.length c] w fun e w' => ∃ A3 c3 A4 c4, e = .returned (.agg #[.int .i64 (objF obj0 l).f0, .int .i64 (objF obj0 l).f1, .string (objF obj0 l).f2, .slice A3 (objF obj0 l).f3.length c3, .slice A4 (objF obj0 l).f4.length c4]) ∧ VC w' (objF obj0 l) A3 c3 A4 c4 ∧ Below w.heap.size w w' := by
  have hlen := pws_len l
  obtain ⟨W1, hW1⟩ : ∃ W1, W1 = (w.alloc (.cells #[.int .i64 0, .int .i64 0, .string ⟨#[]⟩, .slice none 0 0, .slice none 0 0] 38)).alloc (.cells #[.int .i64 6, .int .i64 0, .string ⟨#[]⟩, .slice none 0 0, .slice none 0 0] 38) := ⟨_, rfl⟩
  have hb1 : Below w.heap.size w W1 := by rw [hW1]; exact ba2 _ _ _
  have hs1 : w.heap.size + 2 ≤ W1.heap.size := by rw [hW1]; simp
  have hZ1 : W1.heap[w.heap.size]? = some (.cells #[.int .i64 0, .int .i64 0, .string ⟨#[]⟩, .slice none 0 0, .slice none 0 0] 38 (0, 0)) := by rw [hW1]; exact blk_alloc (World.alloc_heap_new _ _) _
  have hV1 : W1.heap[w.heap.size + 1]? = some (.cells #[.int .i64 6, .int .i64 0, .string ⟨#[]⟩, .slice none 0 0, .slice none 0 0] 38 (0, 0)) := by
    rw [hW1]
    have := World.alloc_heap_new (w.alloc (.cells #[.int .i64 0, .int .i64 0, .string ⟨#[]⟩, .slice none 0 0, .slice none 0 0] 38)) (.cells #[.int .i64 6, .int .i64 0, .string ⟨#[]⟩, .slice none 0 0, .slice none 0 0] 38)
    rwa [World.size_alloc] at this
  have hO1 : OwnS (fun _ => False) W1 (w.heap.size + 2) obj0 none 0 none 0 := ⟨Kd.R_nil _ _ _ _ _, Kd.R_nil _ _ _ _ _⟩
  have HL := Lib.hid hl
  have HB1 := Lib.hid hb1
  have HW1 := Lib.hid hW1
  have HZ1 := Lib.hid hZ1
  have HV1 := Lib.hid hV1
  have HO1 := Lib.hid hO1
  clear hl hb1 hW1 hZ1 hV1 hO1
  go_enter Tryz.func35, Tryz.ntmps35
  go_wp2_with fail
  rw [← HW1.out]
  go_loopw [4] (fun i wr => ∃ k v A3 c3 A4 c4, k ≤ l.length ∧ i = .int .i64 (k : Nat) ∧ Hid (v = objF obj0 (l.take k)) ∧ wr.heap[w.heap.size]? = some (.cells #[.int .i64 0, .int .i64 0, .string ⟨#[]⟩, .slice none 0 0, .slice none 0 0] 38 (0, 0)) ∧ wr.heap[w.heap.size + 1]? = some (.cells #[.int .i64 v.f0, .int .i64 v.f1, .string v.f2, .slice A3 v.f3.length c3, .slice A4 v.f4.length c4] 38 (0, 0)) ∧ OwnS (fun _ => False) wr (w.heap.size + 2) v A3 c3 A4 c4 ∧ Below w.heap.size w wr ∧ w.heap.size + 2 ≤ wr.heap.size) (fun i _ => l.length - (intOf i).toNat)
  case atStart => exact ⟨0, obj0, none, 0, none, 0, Nat.zero_le _, rfl, rfl, HZ1.out, HV1.out, HO1.out, HB1.out, hs1⟩
  case round =>
    obtain ⟨k, v, A3, c3, A4, c4, hk, rfl, hv, hZ, hV, hO, hbw, hsz⟩ := hrel
    have HWV : Hid (v.wt ≤ 1073741824) := by
      show _ ≤ _
      have h1 := objF_wt (l.take k) obj0
      have h2 := pws_take l k
      have h3 : obj0.wt = 1 := by decide +kernel
      rw [hv.out]; omega
    have HSH : Hid (ObjShape v) := by rw [hv.out]; exact objF_shape _ _ obj0_shape
    by_cases hlt : k < l.length
    · obtain ⟨b2, o2, rfl, hb2, g0, g1⟩ := at_pair HL.out k hlt
      replace g0 := (hbw.cell (p := ⟨b2, o2 + k * 2, none⟩) hb2).trans g0
      replace g1 := (hbw.cell (p := ⟨b2, o2 + k * 2 + 1, none⟩) hb2).trans g1
      have HWY : Hid ((wordB l[k].f1).wt ≤ 1073741824) := by
        show _ ≤ _
        have := pws_get l k hlt
        unfold pw at this
        rw [wordB_wt]; omega
      have HI1 : Hid (ObjR w v A3 c3 A4 c4 l[k] b2 (o2 + k * 2) wr) := ⟨hZ, hV, hO, g0, g1, hb2, hbw, hsz⟩
      obtain ⟨h, hh⟩ : ∃ h, h = (fieldB v l[k].f0).isSome := ⟨_, rfl⟩
      have HH := Lib.hid hh
      clear hZ hV hO hbw hh g0 g1 hb2
      go_wp2_with fail
      refine start_ (n := 13) (S := fun w' => w'.cell? ⟨w.heap.size + 1, 0, none⟩ = some (.int .i64 v.f0) ∧ w'.cell? ⟨w.heap.size + 1, 1, none⟩ = some (.int .i64 v.f1) ∧ w'.cell? ⟨w.heap.size + 1, 2, none⟩ = some (.string v.f2) ∧ w'.cell? ⟨w.heap.size + 1, 3, none⟩ = some (.slice A3 v.f3.length c3) ∧ w'.cell? ⟨w.heap.size + 1, 4, none⟩ = some (.slice A4 v.f4.length c4) ∧ w'.cell? ⟨b2, o2 + k * 2, none⟩ = some (.string l[k].f0) ∧ w'.cell? ⟨b2, o2 + k * 2 + 1, none⟩ = some (.string l[k].f1)) (ds := [11]) #[false, false, false, false, false, false, false, false, false, false, false, false, false] (by kernel_rfl) rfl rfl HI1.out.drew.held (fun hHeld => ?_)
      obtain ⟨wd, hwd⟩ : ∃ wd, wd = wr.drew := ⟨_, rfl⟩
      have HID : Hid (ObjR w v A3 c3 A4 c4 l[k] b2 (o2 + k * 2) wd) := by rw [hwd]; exact HI1.out.drew
      have HED : Hid (Below wr.heap.size wr wd) := by rw [hwd]; exact below_drew1 (Below.refl _ _)
      have HSD : Hid (wr.heap.size ≤ wd.heap.size) := HED.out.size
      rw [← hwd] at hHeld ⊢
      clear hwd
      refine take_ (i := 0) (N := some 15) (v := ?_) (a' := ?_) #[true, false, false, false, false, false, false, false, false, false, false, false, false] rfl rfl (by kernel_rfl) (fun _ _ _ h => h) (Or.inl ⟨by rfl, ?_⟩) hHeld ?_ ?_
      rotate_left
      · rintro w' ⟨s0, s1, s2, s3, s4, s5, s6⟩
        go_simp
        with_reducible rfl
      rotate_left
      · simp only [Act.put, List.setIfInBounds_toArray, List.set_cons_zero, List.set_cons_succ, Go.Proofs.YtiddjadfkpjpdaaGreatDoorW.PrintLast.i64_w, Go.Proofs.YtiddjadfkpjpdaaGreatDoorW.PrintLast.i32_w]
        rfl
      refine pure_ (i := 1) (N := some 16) (v := ?_) (a' := ?_) #[true, true, false, false, false, false, false, false, false, false, false, false, false] rfl rfl (by kernel_rfl) (fun _ _ _ h => h) (Or.inl ⟨by rfl, ?_⟩) ?_ ?_
      rotate_left
      · intro w'
        go_simp
        with_reducible rfl
      rotate_left
      · simp only [Act.put, List.setIfInBounds_toArray, List.set_cons_zero, List.set_cons_succ, Go.Proofs.YtiddjadfkpjpdaaGreatDoorW.PrintLast.i64_w, Go.Proofs.YtiddjadfkpjpdaaGreatDoorW.PrintLast.i32_w]
        rfl
      refine pure_ (i := 2) (N := some 17) (v := ?_) (a' := ?_) #[true, true, true, false, false, false, false, false, false, false, false, false, false] rfl rfl (by kernel_rfl) (fun _ _ _ h => h) (Or.inl ⟨by rfl, ?_⟩) ?_ ?_
      rotate_left
      · intro w'
        go_simp
        with_reducible rfl
      rotate_left
      · simp only [Act.put, List.setIfInBounds_toArray, List.set_cons_zero, List.set_cons_succ, Go.Proofs.YtiddjadfkpjpdaaGreatDoorW.PrintLast.i64_w, Go.Proofs.YtiddjadfkpjpdaaGreatDoorW.PrintLast.i32_w]
        rfl
      refine pure_ (i := 3) (N := some 18) (v := ?_) (a' := ?_) #[true, true, true, true, false, false, false, false, false, false, false, false, false] rfl rfl (by kernel_rfl) (fun _ _ _ h => h) (Or.inl ⟨by rfl, ?_⟩) ?_ ?_
      rotate_left
      · intro w'
        go_simp
        with_reducible rfl
      rotate_left
      · simp only [Act.put, List.setIfInBounds_toArray, List.set_cons_zero, List.set_cons_succ, Go.Proofs.YtiddjadfkpjpdaaGreatDoorW.PrintLast.i64_w, Go.Proofs.YtiddjadfkpjpdaaGreatDoorW.PrintLast.i32_w]
        rfl
      refine pure_ (i := 4) (N := some 19) (v := ?_) (a' := ?_) #[true, true, true, true, true, false, false, false, false, false, false, false, false] rfl rfl (by kernel_rfl) (fun _ _ _ h => h) (Or.inl ⟨by rfl, ?_⟩) ?_ ?_
      rotate_left
      · intro w'
        go_simp
        with_reducible rfl
      rotate_left
      · simp only [Act.put, List.setIfInBounds_toArray, List.set_cons_zero, List.set_cons_succ, Go.Proofs.YtiddjadfkpjpdaaGreatDoorW.PrintLast.i64_w, Go.Proofs.YtiddjadfkpjpdaaGreatDoorW.PrintLast.i32_w]
        rfl
      refine take_ (i := 5) (N := some 20) (v := ?_) (a' := ?_) #[true, true, true, true, true, true, false, false, false, false, false, false, false] rfl rfl (by kernel_rfl) (fun _ _ _ h => h) (Or.inl ⟨by rfl, ?_⟩) hHeld ?_ ?_
      rotate_left
      · rintro w' ⟨s0, s1, s2, s3, s4, s5, s6⟩
        go_simp
        with_reducible rfl
      rotate_left
      · simp only [Act.put, List.setIfInBounds_toArray, List.set_cons_zero, List.set_cons_succ, Go.Proofs.YtiddjadfkpjpdaaGreatDoorW.PrintLast.i64_w, Go.Proofs.YtiddjadfkpjpdaaGreatDoorW.PrintLast.i32_w]
        rfl
      refine join_ (σ := Int × Int × ByteArray × Option Addr × Nat × Nat × Option Addr × Nat × Nat × Nat) 2 #[true, true, true, true, true, true, true, true, true, true, true, false, false] (fun s => [(21, (.tuple #[.agg #[.int .i64 s.1, .int .i64 s.2.1, .string s.2.2.1, .slice s.2.2.2.1 s.2.2.2.2.1 s.2.2.2.2.2.1, .slice s.2.2.2.2.2.2.1 s.2.2.2.2.2.2.2.1 s.2.2.2.2.2.2.2.2.1], .bool h])), (14, (.tuple #[.agg #[.int .i64 s.1, .int .i64 s.2.1, .string s.2.2.1, .slice s.2.2.2.1 s.2.2.2.2.1 s.2.2.2.2.2.1, .slice s.2.2.2.2.2.2.1 s.2.2.2.2.2.2.2.1 s.2.2.2.2.2.2.2.2.1], .bool h])), (22, (.agg #[.int .i64 s.1, .int .i64 s.2.1, .string s.2.2.1, .slice s.2.2.2.1 s.2.2.2.2.1 s.2.2.2.2.2.1, .slice s.2.2.2.2.2.2.1 s.2.2.2.2.2.2.2.1 s.2.2.2.2.2.2.2.2.1])), (23, .bool h), (5, .pointer (some ⟨s.2.2.2.2.2.2.2.2.2, 0, none⟩))]) (fun s w' => Below wr.heap.size wr w' ∧ ObjR w v A3 c3 A4 c4 l[k] b2 (o2 + k * 2) w' ∧ w'.heap[s.2.2.2.2.2.2.2.2.2]? = some (.cells #[.int .i64 0, .int .i64 0, .string ⟨#[]⟩, .slice none 0 0, .slice none 0 0] 38 (0, 0)) ∧ wr.heap.size ≤ s.2.2.2.2.2.2.2.2.2) ?_ ?_
      rotate_left
      · intro hJ
        refine two_ (i := 6) (j := 10) (Ni := some 21) (Nj := some 5) #[true, true, true, true, true, true, true, false, false, false, false, false, false] #[true, true, true, true, true, true, false, false, false, false, true, false, false] rfl rfl rfl rfl (by kernel_rfl) (by decide) (by decide) (fun K hK => ?_) (fun K hK => ?_)
        · refine goes_ Tryz.func40 (by kernel_rfl) rfl #[.agg #[.int .i64 v.f0, .int .i64 v.f1, .string v.f2, .slice A3 v.f3.length c3, .slice A4 v.f4.length c4], .string l[k].f0] (by rfl) rfl rfl (by (try simp only [List.map_toArray, List.map_cons, List.map_nil]); first | done | rfl) ?_
          refine (rfield_calls v l[k].f0 A3 c3 A4 c4 _ HID.out.vc (by have := HWV.out; omega)).mono ?_
          rintro e w6 h6
          obtain ⟨y0, y1, y2, E3, n3, e3, E4, n4, e4, rfl, b6⟩ := FieldP.val h6
          have HI6 := Lib.hid (HID.out.below b6)
          have HE6 := Lib.hid b6
          clear h6 b6
          rw [← HH.out]
          refine ⟨_, rfl, ?_⟩
          refine hK.out _ _ HI6.out.held (fun hHeld => ?_)
          clear hK K
          refine norm_ (a' := ?_) ?_ ?_
          rotate_left
          · show Act.put _ (some 21) _ = _
            simp only [Act.put, List.setIfInBounds_toArray, List.set_cons_zero, List.set_cons_succ, Go.Proofs.YtiddjadfkpjpdaaGreatDoorW.PrintLast.i64_w, Go.Proofs.YtiddjadfkpjpdaaGreatDoorW.PrintLast.i32_w]
            rfl
          refine pure_ (i := 7) (N := some 14) (v := ?_) (a' := ?_) #[true, true, true, true, true, true, true, true, false, false, false, false, false] rfl rfl (by kernel_rfl) (fun _ _ _ h => h) (Or.inl ⟨by rfl, ?_⟩) ?_ ?_
          rotate_left
          · intro w'
            go_simp
            with_reducible rfl
          rotate_left
          · simp only [Act.put, List.setIfInBounds_toArray, List.set_cons_zero, List.set_cons_succ, Go.Proofs.YtiddjadfkpjpdaaGreatDoorW.PrintLast.i64_w, Go.Proofs.YtiddjadfkpjpdaaGreatDoorW.PrintLast.i32_w]
            rfl
          refine pure_ (i := 8) (N := some 22) (v := ?_) (a' := ?_) #[true, true, true, true, true, true, true, true, true, false, false, false, false] rfl rfl (by kernel_rfl) (fun _ _ _ h => h) (Or.inl ⟨by rfl, ?_⟩) ?_ ?_
          rotate_left
          · intro w'
            go_simp
            with_reducible rfl
          rotate_left
          · simp only [Act.put, List.setIfInBounds_toArray, List.set_cons_zero, List.set_cons_succ, Go.Proofs.YtiddjadfkpjpdaaGreatDoorW.PrintLast.i64_w, Go.Proofs.YtiddjadfkpjpdaaGreatDoorW.PrintLast.i32_w]
            rfl
          refine pure_ (i := 9) (N := some 23) (v := ?_) (a' := ?_) #[true, true, true, true, true, true, true, true, true, true, false, false, false] rfl rfl (by kernel_rfl) (fun _ _ _ h => h) (Or.inl ⟨by rfl, ?_⟩) ?_ ?_
          rotate_left
          · intro w'
            go_simp
            with_reducible rfl
          rotate_left
          · simp only [Act.put, List.setIfInBounds_toArray, List.set_cons_zero, List.set_cons_succ, Go.Proofs.YtiddjadfkpjpdaaGreatDoorW.PrintLast.i64_w, Go.Proofs.YtiddjadfkpjpdaaGreatDoorW.PrintLast.i32_w]
            rfl
          refine one_ (i := 10) (N := some 5) #[true, true, true, true, true, true, true, true, true, true, true, false, false] rfl rfl (by kernel_rfl) (by decide) (fun K hK => ?_)
          refine box_step (by rfl) (N := 5) rfl (cs := #[.int .i64 0, .int .i64 0, .string ⟨#[]⟩, .slice none 0 0, .slice none 0 0]) (t := 38) (by first | (go_simp; done) | (go_simp; rfl)) ?_
          intro g hge w7 hG b7
          have HI7 := Lib.hid (HI6.out.below b7)
          have HG7 := Lib.hid hG
          have HE7 := Lib.hid b7
          have HGE : Hid (w6.heap.size ≤ g) := by show _ ≤ _; omega
          clear hge hG b7
          refine hK.out _ _ HI7.out.held (fun hHeld => ?_)
          clear hK K
          refine norm_ (a' := ?_) ?_ ?_
          rotate_left
          · show Act.put _ (some 5) _ = _
            simp only [Act.put, List.setIfInBounds_toArray, List.set_cons_zero, List.set_cons_succ, Go.Proofs.YtiddjadfkpjpdaaGreatDoorW.PrintLast.i64_w, Go.Proofs.YtiddjadfkpjpdaaGreatDoorW.PrintLast.i32_w]
            rfl
          exact hJ (y0, y1, y2, E3, n3, e3, E4, n4, e4, g) w7 ⟨HED.out.trans ((HE6.out.mono HSD.out).trans (HE7.out.mono (Nat.le_trans HSD.out HE6.out.size))), HI7.out, HG7.out, Nat.le_trans HSD.out (Nat.le_trans HE6.out.size HGE.out)⟩
        · refine box_step (by rfl) (N := 5) rfl (cs := #[.int .i64 0, .int .i64 0, .string ⟨#[]⟩, .slice none 0 0, .slice none 0 0]) (t := 38) (by first | (go_simp; done) | (go_simp; rfl)) ?_
          intro g hge w7 hG b7
          have HI7 := Lib.hid (HID.out.below b7)
          have HG7 := Lib.hid hG
          have HE7 := Lib.hid b7
          have HGE : Hid (wd.heap.size ≤ g) := by show _ ≤ _; omega
          clear hge hG b7
          refine hK.out _ _ HI7.out.held (fun hHeld => ?_)
          clear hK K
          refine norm_ (a' := ?_) ?_ ?_
          rotate_left
          · show Act.put _ (some 5) _ = _
            simp only [Act.put, List.setIfInBounds_toArray, List.set_cons_zero, List.set_cons_succ, Go.Proofs.YtiddjadfkpjpdaaGreatDoorW.PrintLast.i64_w, Go.Proofs.YtiddjadfkpjpdaaGreatDoorW.PrintLast.i32_w]
            rfl
          refine one_ (i := 6) (N := some 21) #[true, true, true, true, true, true, true, false, false, false, true, false, false] rfl rfl (by kernel_rfl) (by decide) (fun K hK => ?_)
          refine goes_ Tryz.func40 (by kernel_rfl) rfl #[.agg #[.int .i64 v.f0, .int .i64 v.f1, .string v.f2, .slice A3 v.f3.length c3, .slice A4 v.f4.length c4], .string l[k].f0] (by rfl) rfl rfl (by (try simp only [List.map_toArray, List.map_cons, List.map_nil]); first | done | rfl) ?_
          refine (rfield_calls v l[k].f0 A3 c3 A4 c4 _ HI7.out.vc (by have := HWV.out; omega)).mono ?_
          rintro e w6 h6
          obtain ⟨y0, y1, y2, E3, n3, e3, E4, n4, e4, rfl, b6⟩ := FieldP.val h6
          have HI6 := Lib.hid (HI7.out.below b6)
          have HE6 := Lib.hid b6
          clear h6 b6
          rw [← HH.out]
          refine ⟨_, rfl, ?_⟩
          refine hK.out _ _ HI6.out.held (fun hHeld => ?_)
          clear hK K
          refine norm_ (a' := ?_) ?_ ?_
          rotate_left
          · show Act.put _ (some 21) _ = _
            simp only [Act.put, List.setIfInBounds_toArray, List.set_cons_zero, List.set_cons_succ, Go.Proofs.YtiddjadfkpjpdaaGreatDoorW.PrintLast.i64_w, Go.Proofs.YtiddjadfkpjpdaaGreatDoorW.PrintLast.i32_w]
            rfl
          refine pure_ (i := 7) (N := some 14) (v := ?_) (a' := ?_) #[true, true, true, true, true, true, true, true, false, false, true, false, false] rfl rfl (by kernel_rfl) (fun _ _ _ h => h) (Or.inl ⟨by rfl, ?_⟩) ?_ ?_
          rotate_left
          · intro w'
            go_simp
            with_reducible rfl
          rotate_left
          · simp only [Act.put, List.setIfInBounds_toArray, List.set_cons_zero, List.set_cons_succ, Go.Proofs.YtiddjadfkpjpdaaGreatDoorW.PrintLast.i64_w, Go.Proofs.YtiddjadfkpjpdaaGreatDoorW.PrintLast.i32_w]
            rfl
          refine pure_ (i := 8) (N := some 22) (v := ?_) (a' := ?_) #[true, true, true, true, true, true, true, true, true, false, true, false, false] rfl rfl (by kernel_rfl) (fun _ _ _ h => h) (Or.inl ⟨by rfl, ?_⟩) ?_ ?_
          rotate_left
          · intro w'
            go_simp
            with_reducible rfl
          rotate_left
          · simp only [Act.put, List.setIfInBounds_toArray, List.set_cons_zero, List.set_cons_succ, Go.Proofs.YtiddjadfkpjpdaaGreatDoorW.PrintLast.i64_w, Go.Proofs.YtiddjadfkpjpdaaGreatDoorW.PrintLast.i32_w]
            rfl
          refine pure_ (i := 9) (N := some 23) (v := ?_) (a' := ?_) #[true, true, true, true, true, true, true, true, true, true, true, false, false] rfl rfl (by kernel_rfl) (fun _ _ _ h => h) (Or.inl ⟨by rfl, ?_⟩) ?_ ?_
          rotate_left
          · intro w'
            go_simp
            with_reducible rfl
          rotate_left
          · simp only [Act.put, List.setIfInBounds_toArray, List.set_cons_zero, List.set_cons_succ, Go.Proofs.YtiddjadfkpjpdaaGreatDoorW.PrintLast.i64_w, Go.Proofs.YtiddjadfkpjpdaaGreatDoorW.PrintLast.i32_w]
            rfl
          exact hJ (y0, y1, y2, E3, n3, e3, E4, n4, e4, g) w6 ⟨HED.out.trans ((HE7.out.mono HSD.out).trans (HE6.out.mono (Nat.le_trans HSD.out HE7.out.size))), HI6.out, (HE6.out.block _ (blk_lt HG7.out)).trans HG7.out, Nat.le_trans HSD.out HGE.out⟩
      rintro ⟨y0, y1, y2, E3, n3, e3, E4, n4, e4, g⟩ w8 ⟨b8, i8, hG8, hge⟩
      have HI8 := Lib.hid i8
      have HG8 := Lib.hid hG8
      have HE8 := Lib.hid b8
      have HGE := Lib.hid hge
      clear b8 i8 hG8 hge hHeld
      refine norm_ (a' := ?_) ?_ ?_
      rotate_left
      · simp only [putAll]
        simp only [Act.put, List.setIfInBounds_toArray, List.set_cons_zero, List.set_cons_succ, Go.Proofs.YtiddjadfkpjpdaaGreatDoorW.PrintLast.i64_w, Go.Proofs.YtiddjadfkpjpdaaGreatDoorW.PrintLast.i32_w]
        rfl
      refine last_ (i := 11) (N := none) #[true, true, true, true, true, true, true, true, true, true, true, true, false] rfl rfl (by kernel_rfl) (by decide) (fun K hK => ?_)
      have z0 := blk_cell HG8.out 0
      have z1 := blk_cell HG8.out 1
      have z2 := blk_cell HG8.out 2
      have z3 := blk_cell HG8.out 3
      have z4 := blk_cell HG8.out 4
      have u0 := blk_frozen HG8.out 0
      have u1 := blk_frozen HG8.out 1
      have u2 := blk_frozen HG8.out 2
      have u3 := blk_frozen HG8.out 3
      have u4 := blk_frozen HG8.out 4
      refine skip_ (w1 := ?_) (by rfl) rfl ?_ ?_
      rotate_left
      · go_simp
        rfl
      refine hK.out _ _ ?_
      clear hK K
      refine pure_ (i := 12) (N := some 6) (v := ?_) (a' := ?_) #[true, true, true, true, true, true, true, true, true, true, true, true, true] rfl rfl (by kernel_rfl) (fun _ _ _ h => h) (Or.inl ⟨by rfl, ?_⟩) ?_ ?_
      rotate_left
      · intro w'
        go_simp
        with_reducible rfl
      rotate_left
      · simp only [Act.put, List.setIfInBounds_toArray, List.set_cons_zero, List.set_cons_succ, Go.Proofs.YtiddjadfkpjpdaaGreatDoorW.PrintLast.i64_w, Go.Proofs.YtiddjadfkpjpdaaGreatDoorW.PrintLast.i32_w]
        rfl
      refine done_ (by kernel_rfl) ?_
      obtain ⟨w9, hw9⟩ : ∃ w9, w9 = set5 w8 g (.int .i64 y0) (.int .i64 y1) (.string y2) (.slice E3 n3 e3) (.slice E4 n4 e4) := ⟨_, rfl⟩
      have hE9 : Below wr.heap.size wr w9 := by rw [hw9]; exact set5_below HE8.out _ HGE.out _ _ _ _ _
      have HE9 := Lib.hid hE9
      have HI9 := Lib.hid (HI1.out.below hE9)
      unfold set5 at hw9
      rw [← hw9]
      clear hw9 hE9 z0 z1 z2 z3 z4 u0 u1 u2 u3 u4
      simp only [Exit.inBlock, Exit.then]
      apply_assumption
      have HH2 := HH.out
      rw [HSH.out.some] at HH2
      cases h
      · have HIDX : Hid (idxK v.f4 l[k].f0 = -1) := by
          show _ = _
          have h1 := idxK_lo v.f4 l[k].f0
          have h2 := of_decide_eq_false HH2.symm
          omega
        have HN : Hid ((setB ⟨6, 0, ⟨#[]⟩, v.f3, v.f4⟩ l[k].f0 (wordB l[k].f1)) = objF obj0 (l.take (k + 1))) := by
          show _ = _
          rw [HSH.out.eq, objF_snoc _ _ _ hlt, ← hv.out]; unfold objS; rw [if_neg (by rw [HIDX.out]; decide)]
        clear HH2
        go_wp2_with fail
        refine start_ (n := 14) (S := fun w' => w'.cell? ⟨w.heap.size + 1, 0, none⟩ = some (.int .i64 v.f0) ∧ w'.cell? ⟨w.heap.size + 1, 1, none⟩ = some (.int .i64 v.f1) ∧ w'.cell? ⟨w.heap.size + 1, 2, none⟩ = some (.string v.f2) ∧ w'.cell? ⟨w.heap.size + 1, 3, none⟩ = some (.slice A3 v.f3.length c3) ∧ w'.cell? ⟨w.heap.size + 1, 4, none⟩ = some (.slice A4 v.f4.length c4) ∧ w'.cell? ⟨b2, o2 + k * 2, none⟩ = some (.string l[k].f0) ∧ w'.cell? ⟨b2, o2 + k * 2 + 1, none⟩ = some (.string l[k].f1)) (ds := [13]) #[false, false, false, false, false, false, false, false, false, false, false, false, false, false] (by kernel_rfl) rfl rfl HI9.out.drew.held (fun hHeld => ?_)
        refine take_ (i := 0) (N := some 26) (v := ?_) (a' := ?_) #[true, false, false, false, false, false, false, false, false, false, false, false, false, false] rfl rfl (by kernel_rfl) (fun _ _ _ h => h) (Or.inl ⟨by rfl, ?_⟩) hHeld ?_ ?_
        rotate_left
        · rintro w' ⟨s0, s1, s2, s3, s4, s5, s6⟩
          go_simp
          with_reducible rfl
        rotate_left
        · simp only [Act.put, List.setIfInBounds_toArray, List.set_cons_zero, List.set_cons_succ, Go.Proofs.YtiddjadfkpjpdaaGreatDoorW.PrintLast.i64_w, Go.Proofs.YtiddjadfkpjpdaaGreatDoorW.PrintLast.i32_w]
          rfl
        refine pure_ (i := 1) (N := some 27) (v := ?_) (a' := ?_) #[true, true, false, false, false, false, false, false, false, false, false, false, false, false] rfl rfl (by kernel_rfl) (fun _ _ _ h => h) (Or.inl ⟨by rfl, ?_⟩) ?_ ?_
        rotate_left
        · intro w'
          go_simp
          with_reducible rfl
        rotate_left
        · simp only [Act.put, List.setIfInBounds_toArray, List.set_cons_zero, List.set_cons_succ, Go.Proofs.YtiddjadfkpjpdaaGreatDoorW.PrintLast.i64_w, Go.Proofs.YtiddjadfkpjpdaaGreatDoorW.PrintLast.i32_w]
          rfl
        refine pure_ (i := 2) (N := some 28) (v := ?_) (a' := ?_) #[true, true, true, false, false, false, false, false, false, false, false, false, false, false] rfl rfl (by kernel_rfl) (fun _ _ _ h => h) (Or.inl ⟨by rfl, ?_⟩) ?_ ?_
        rotate_left
        · intro w'
          go_simp
          with_reducible rfl
        rotate_left
        · simp only [Act.put, List.setIfInBounds_toArray, List.set_cons_zero, List.set_cons_succ, Go.Proofs.YtiddjadfkpjpdaaGreatDoorW.PrintLast.i64_w, Go.Proofs.YtiddjadfkpjpdaaGreatDoorW.PrintLast.i32_w]
          rfl
        refine pure_ (i := 3) (N := some 29) (v := ?_) (a' := ?_) #[true, true, true, true, false, false, false, false, false, false, false, false, false, false] rfl rfl (by kernel_rfl) (fun _ _ _ h => h) (Or.inl ⟨by rfl, ?_⟩) ?_ ?_
        rotate_left
        · intro w'
          go_simp
          with_reducible rfl
        rotate_left
        · simp only [Act.put, List.setIfInBounds_toArray, List.set_cons_zero, List.set_cons_succ, Go.Proofs.YtiddjadfkpjpdaaGreatDoorW.PrintLast.i64_w, Go.Proofs.YtiddjadfkpjpdaaGreatDoorW.PrintLast.i32_w]
          rfl
        refine pure_ (i := 4) (N := some 30) (v := ?_) (a' := ?_) #[true, true, true, true, true, false, false, false, false, false, false, false, false, false] rfl rfl (by kernel_rfl) (fun _ _ _ h => h) (Or.inl ⟨by rfl, ?_⟩) ?_ ?_
        rotate_left
        · intro w'
          go_simp
          with_reducible rfl
        rotate_left
        · simp only [Act.put, List.setIfInBounds_toArray, List.set_cons_zero, List.set_cons_succ, Go.Proofs.YtiddjadfkpjpdaaGreatDoorW.PrintLast.i64_w, Go.Proofs.YtiddjadfkpjpdaaGreatDoorW.PrintLast.i32_w]
          rfl
        refine take_ (i := 5) (N := some 31) (v := ?_) (a' := ?_) #[true, true, true, true, true, true, false, false, false, false, false, false, false, false] rfl rfl (by kernel_rfl) (fun _ _ _ h => h) (Or.inl ⟨by rfl, ?_⟩) hHeld ?_ ?_
        rotate_left
        · rintro w' ⟨s0, s1, s2, s3, s4, s5, s6⟩
          go_simp
          with_reducible rfl
        rotate_left
        · simp only [Act.put, List.setIfInBounds_toArray, List.set_cons_zero, List.set_cons_succ, Go.Proofs.YtiddjadfkpjpdaaGreatDoorW.PrintLast.i64_w, Go.Proofs.YtiddjadfkpjpdaaGreatDoorW.PrintLast.i32_w]
          rfl
        refine pure_ (i := 6) (N := some 32) (v := ?_) (a' := ?_) #[true, true, true, true, true, true, true, false, false, false, false, false, false, false] rfl rfl (by kernel_rfl) (fun _ _ _ h => h) (Or.inl ⟨by rfl, ?_⟩) ?_ ?_
        rotate_left
        · intro w'
          go_simp
          with_reducible rfl
        rotate_left
        · simp only [Act.put, List.setIfInBounds_toArray, List.set_cons_zero, List.set_cons_succ, Go.Proofs.YtiddjadfkpjpdaaGreatDoorW.PrintLast.i64_w, Go.Proofs.YtiddjadfkpjpdaaGreatDoorW.PrintLast.i32_w]
          rfl
        refine pure_ (i := 7) (N := some 33) (v := ?_) (a' := ?_) #[true, true, true, true, true, true, true, true, false, false, false, false, false, false] rfl rfl (by kernel_rfl) (fun _ _ _ h => h) (Or.inl ⟨by rfl, ?_⟩) ?_ ?_
        rotate_left
        · intro w'
          go_simp
          with_reducible rfl
        rotate_left
        · simp only [Act.put, List.setIfInBounds_toArray, List.set_cons_zero, List.set_cons_succ, Go.Proofs.YtiddjadfkpjpdaaGreatDoorW.PrintLast.i64_w, Go.Proofs.YtiddjadfkpjpdaaGreatDoorW.PrintLast.i32_w]
          rfl
        refine pure_ (i := 8) (N := some 34) (v := ?_) (a' := ?_) #[true, true, true, true, true, true, true, true, true, false, false, false, false, false] rfl rfl (by kernel_rfl) (fun _ _ _ h => h) (Or.inl ⟨by rfl, ?_⟩) ?_ ?_
        rotate_left
        · intro w'
          go_simp
          with_reducible rfl
        rotate_left
        · simp only [Act.put, List.setIfInBounds_toArray, List.set_cons_zero, List.set_cons_succ, Go.Proofs.YtiddjadfkpjpdaaGreatDoorW.PrintLast.i64_w, Go.Proofs.YtiddjadfkpjpdaaGreatDoorW.PrintLast.i32_w]
          rfl
        refine pure_ (i := 9) (N := some 35) (v := ?_) (a' := ?_) #[true, true, true, true, true, true, true, true, true, true, false, false, false, false] rfl rfl (by kernel_rfl) (fun _ _ _ h => h) (Or.inl ⟨by rfl, ?_⟩) ?_ ?_
        rotate_left
        · intro w'
          go_simp
          with_reducible rfl
        rotate_left
        · simp only [Act.put, List.setIfInBounds_toArray, List.set_cons_zero, List.set_cons_succ, Go.Proofs.YtiddjadfkpjpdaaGreatDoorW.PrintLast.i64_w, Go.Proofs.YtiddjadfkpjpdaaGreatDoorW.PrintLast.i32_w]
          rfl
        refine take_ (i := 10) (N := some 36) (v := ?_) (a' := ?_) #[true, true, true, true, true, true, true, true, true, true, true, false, false, false] rfl rfl (by kernel_rfl) (fun _ _ _ h => h) (Or.inl ⟨by rfl, ?_⟩) hHeld ?_ ?_
        rotate_left
        · rintro w' ⟨s0, s1, s2, s3, s4, s5, s6⟩
          go_simp
          with_reducible rfl
        rotate_left
        · simp only [Act.put, List.setIfInBounds_toArray, List.set_cons_zero, List.set_cons_succ, Go.Proofs.YtiddjadfkpjpdaaGreatDoorW.PrintLast.i64_w, Go.Proofs.YtiddjadfkpjpdaaGreatDoorW.PrintLast.i32_w]
          rfl
        refine one_ (i := 11) (N := some 37) #[true, true, true, true, true, true, true, true, true, true, true, true, false, false] rfl rfl (by kernel_rfl) (by decide) (fun K hK => ?_)
        refine goes_ Tryz.func75 (by kernel_rfl) rfl #[.string l[k].f1] (by rfl) rfl rfl (by (try simp only [List.map_toArray, List.map_cons, List.map_nil]); first | done | rfl) ?_
        refine (rword_calls l[k].f1 _).mono ?_
        rintro e w10 ⟨rfl, b10⟩
        have HI10 := Lib.hid (HI9.out.below ((below_drew1 (Below.refl _ _)).trans b10))
        clear b10
        refine ⟨_, rfl, ?_⟩
        refine hK.out _ _ HI10.out.held (fun hHeld => ?_)
        clear hK K
        refine norm_ (a' := ?_) ?_ ?_
        rotate_left
        · show Act.put _ (some 37) _ = _
          simp only [Act.put, List.setIfInBounds_toArray, List.set_cons_zero, List.set_cons_succ, Go.Proofs.YtiddjadfkpjpdaaGreatDoorW.PrintLast.i64_w, Go.Proofs.YtiddjadfkpjpdaaGreatDoorW.PrintLast.i32_w]
          rfl
        refine one_ (i := 12) (N := some 38) #[true, true, true, true, true, true, true, true, true, true, true, true, true, false] rfl rfl (by kernel_rfl) (by decide) (fun K hK => ?_)
        refine goes_ Tryz.func47 (by kernel_rfl) rfl #[.agg #[.int .i64 v.f0, .int .i64 v.f1, .string v.f2, .slice A3 v.f3.length c3, .slice A4 v.f4.length c4], .string l[k].f0, .agg #[.int .i64 4, .int .i64 0, .string l[k].f1, .slice none 0 0, .slice none 0 0]] (by rfl) rfl rfl (by (try simp only [List.map_toArray, List.map_cons, List.map_nil]); first | done | rfl) ?_
        refine (put_calls v (wordB l[k].f1) l[k].f0 A3 c3 A4 c4 none 0 none 0 (fun _ => False) w10 (fun _ hk => hk.elim) HI10.out.own.vs (wordB_kS _ _ _) HWV.out HWY.out HIDX.out).mono ?_
        rintro e w11 ⟨F3, f3, F4, f4, rfl, vc11, b11⟩
        have HI11 := Lib.hid (HI10.out.below b11)
        have HO11 := Lib.hid (vc11.lower HI10.out.sz)
        clear vc11 b11
        refine ⟨_, rfl, ?_⟩
        refine hK.out _ _ HI11.out.held (fun hHeld => ?_)
        clear hK K
        refine norm_ (a' := ?_) ?_ ?_
        rotate_left
        · show Act.put _ (some 38) _ = _
          simp only [Act.put, List.setIfInBounds_toArray, List.set_cons_zero, List.set_cons_succ, Go.Proofs.YtiddjadfkpjpdaaGreatDoorW.PrintLast.i64_w, Go.Proofs.YtiddjadfkpjpdaaGreatDoorW.PrintLast.i32_w]
          rfl
        refine last_ (i := 13) (N := none) #[true, true, true, true, true, true, true, true, true, true, true, true, true, true] rfl rfl (by kernel_rfl) (by decide) (fun K hK => ?_)
        obtain ⟨s0, s1, s2, s3, s4, s5, s6⟩ := hHeld
        have u0 := blk_frozen HI11.out.V 0
        have u1 := blk_frozen HI11.out.V 1
        have u2 := blk_frozen HI11.out.V 2
        have u3 := blk_frozen HI11.out.V 3
        have u4 := blk_frozen HI11.out.V 4
        refine skip_ (w1 := ?_) (by rfl) rfl ?_ ?_
        rotate_left
        · go_simp
          rfl
        refine hK.out _ _ ?_
        clear hK K
        refine done_ (by kernel_rfl) ?_
        obtain ⟨w12, hw12⟩ : ∃ w12, w12 = set5 w11 (w.heap.size + 1) (.int .i64 (setB ⟨6, 0, ⟨#[]⟩, v.f3, v.f4⟩ l[k].f0 (wordB l[k].f1)).f0) (.int .i64 (setB ⟨6, 0, ⟨#[]⟩, v.f3, v.f4⟩ l[k].f0 (wordB l[k].f1)).f1) (.string (setB ⟨6, 0, ⟨#[]⟩, v.f3, v.f4⟩ l[k].f0 (wordB l[k].f1)).f2) (.slice F3 (setB ⟨6, 0, ⟨#[]⟩, v.f3, v.f4⟩ l[k].f0 (wordB l[k].f1)).f3.length f3) (.slice F4 (setB ⟨6, 0, ⟨#[]⟩, v.f3, v.f4⟩ l[k].f0 (wordB l[k].f1)).f4.length f4) := ⟨_, rfl⟩
        have hf12 : ∀ q, q ≠ w.heap.size + 1 → w12.heap[q]? = w11.heap[q]? := fun q hq => by rw [hw12]; exact set5_far _ _ _ _ _ _ _ q hq
        have HV12 : Hid (w12.heap[w.heap.size + 1]? = some (.cells #[.int .i64 (setB ⟨6, 0, ⟨#[]⟩, v.f3, v.f4⟩ l[k].f0 (wordB l[k].f1)).f0, .int .i64 (setB ⟨6, 0, ⟨#[]⟩, v.f3, v.f4⟩ l[k].f0 (wordB l[k].f1)).f1, .string (setB ⟨6, 0, ⟨#[]⟩, v.f3, v.f4⟩ l[k].f0 (wordB l[k].f1)).f2, .slice F3 (setB ⟨6, 0, ⟨#[]⟩, v.f3, v.f4⟩ l[k].f0 (wordB l[k].f1)).f3.length f3, .slice F4 (setB ⟨6, 0, ⟨#[]⟩, v.f3, v.f4⟩ l[k].f0 (wordB l[k].f1)).f4.length f4] 38 (0, 0))) := by
          show _ = _
          rw [hw12]; exact set5_blk HI11.out.V _ _ _ _ _
        have HZ12 : Hid (w12.heap[w.heap.size]? = some (.cells #[.int .i64 0, .int .i64 0, .string ⟨#[]⟩, .slice none 0 0, .slice none 0 0] 38 (0, 0))) := (hf12 _ (by omega)).trans HI11.out.Z
        have HB12 : Hid (Below w.heap.size w w12) := by rw [hw12]; exact set5_below HI11.out.bw _ (by omega) _ _ _ _ _
        have HS12 : Hid (w.heap.size + 2 ≤ w12.heap.size) := by show _ ≤ _; rw [hw12]; have := HI11.out.sz; simp [set5, World.setCell]; omega
        have HO12 := Lib.hid (HO11.out.far (fun q hq _ => hf12 q (by omega)) (fun _ hk => hk.elim))
        unfold set5 at hw12
        rw [← hw12]
        clear hw12 hf12 hHeld s0 s1 s2 s3 s4 s5 s6 u0 u1 u2 u3 u4
        simp only [Exit.inBlock, Exit.then]
        apply_assumption
        go_wp2_with fail
        go_roundw
        case rel => exact ⟨k + 1, _, F3, f3, F4, f4, by omega, by go_num, HN.out, HZ12.out, HV12.out, HO12.out, HB12.out, HS12.out⟩
        case measure => simp [intOf]; omega
      · have HN : Hid (v = objF obj0 (l.take (k + 1))) := by
          show _ = _
          rw [objF_snoc _ _ _ hlt, ← hv.out]; unfold objS; rw [if_pos (of_decide_eq_true HH2.symm)]
        clear HH2
        go_wp2_with fail
        go_roundw
        case rel => exact ⟨k + 1, v, A3, c3, A4, c4, by omega, by go_num, HN.out, HI9.out.Z, HI9.out.V, HI9.out.own, HI9.out.bw, HI9.out.sz⟩
        case measure => simp [intOf]; omega
    · obtain rfl : k = l.length := by omega
      have hvv : v = objF obj0 l := by rw [hv.out, List.take_length]
      clear hv
      subst hvv
      have hZ10 := set5_blk hZ (.int .i64 (objF obj0 l).f0) (.int .i64 (objF obj0 l).f1) (.string (objF obj0 l).f2) (.slice A3 (objF obj0 l).f3.length c3) (.slice A4 (objF obj0 l).f4.length c4)
      have HO10 := Lib.hid ((hO.far (w' := set5 wr w.heap.size (.int .i64 (objF obj0 l).f0) (.int .i64 (objF obj0 l).f1) (.string (objF obj0 l).f2) (.slice A3 (objF obj0 l).f3.length c3) (.slice A4 (objF obj0 l).f4.length c4)) (fun q hq _ => set5_far wr w.heap.size (.int .i64 (objF obj0 l).f0) (.int .i64 (objF obj0 l).f1) (.string (objF obj0 l).f2) (.slice A3 (objF obj0 l).f3.length c3) (.slice A4 (objF obj0 l).f4.length c4) q (by omega)) (fun _ hk => hk.elim)).vs.vc)
      have HB10 := Lib.hid (set5_below hbw w.heap.size (Nat.le_refl _) (.int .i64 (objF obj0 l).f0) (.int .i64 (objF obj0 l).f1) (.string (objF obj0 l).f2) (.slice A3 (objF obj0 l).f3.length c3) (.slice A4 (objF obj0 l).f4.length c4))
      have HZ10 := Lib.hid hZ10
      have v0 := blk_cell hV 0
      have v1 := blk_cell hV 1
      have v2 := blk_cell hV 2
      have v3 := blk_cell hV 3
      have v4 := blk_cell hV 4
      have z0 := blk_cell hZ 0
      have z1 := blk_cell hZ 1
      have z2 := blk_cell hZ 2
      have z3 := blk_cell hZ 3
      have z4 := blk_cell hZ 4
      have y0 := blk_frozen hZ 0
      have y1 := blk_frozen hZ 1
      have y2 := blk_frozen hZ 2
      have y3 := blk_frozen hZ 3
      have y4 := blk_frozen hZ 4
      clear hZ hV hO hbw hZ10
      go_wp2_with fail
      refine bodyPost_ret (results_cell_row rfl _ _ w.heap.size 38 _ (0, 0) _ rfl HZ10.out Tryz.underlying38 rfl (by kernel_rfl)) rfl ?_
      exact ⟨A3, c3, A4, c4, rfl, HO10.out, HB10.out⟩
end Go.Proofs.YtiddjadfkpjpdaaGreatDoor.Q
