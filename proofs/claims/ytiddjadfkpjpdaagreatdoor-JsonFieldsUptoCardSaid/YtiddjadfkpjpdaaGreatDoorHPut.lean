/- ref.Put: an object in which a key has a value. -/
import Derived.Test.YtiddjadfkpjpdaaGreatDoorHObj
set_option linter.unusedVariables false
set_option linter.unusedSimpArgs false
namespace Go.Proofs.YtiddjadfkpjpdaaGreatDoor.Q
open Go.RowKit Go.Proofs.YtiddjadfkpjpdaaGreatDoorW.PrintWords Go.Proofs.YtiddjadfkpjpdaaGreatDoorW.PrintLast
/-- A value whose parts are read wherever the blocks of S stand as in w0. -/
def kS (S : Nat → Prop) (w0 : World) : Kd S38 where
  sz := k38.sz
  E := []
  K := fun _ x cs => ∀ w', (∀ k, S k → w'.heap[k]? = w0.heap[k]?) → k38.K w' x cs
  M := fun _ _ _ x cs => ∀ w', (∀ k, S k → w'.heap[k]? = w0.heap[k]?) → k38.K w' x cs
  K_len := fun h => k38.K_len (h w0 (fun _ _ => rfl))
  K_one := fun h => k38.K_one (h w0 (fun _ _ => rfl))
  K_below := fun _ h => h
  K_of_M := fun h => h
  M_mono := fun _ h => h
  M_bound := fun h => h
  M_move := fun _ h => h
  M_lower := fun _ h => h
theorem kS_step {S : Nat → Prop} {w0 W W1 : World} {e base : Nat} {v : Value} {xs : List S38} (h : (kS S w0).R e W base (fun _ => True) v xs) (hm : ∀ k, some k = v.ownBlock → W1.heap[k]? = W.heap[k]?) : (kS S w0).R e W1 base (fun _ => True) v xs :=
  Kd.R_mono (Kd.R_move (ok := fun k => some k = v.ownBlock) ⟨fun k hk => hk.symm, h.2.imp_ (fun _ _ hp => hp)⟩ hm) (fun _ _ => trivial)
theorem kS_C {S : Nat → Prop} {w W : World} {A : Option Addr} {n : Nat} {xs : List S38} (h : (kS S w).C W A n xs) (hS : ∀ k, S k → W.heap[k]? = w.heap[k]?) : k38.C W A n xs :=
  ReadsRow.imp_ h (Below.refl _ _) (fun _ _ hp => hp W hS)
theorem kS_C' {S : Nat → Prop} {w w1 W : World} {A : Option Addr} {n : Nat} {xs : List S38} (h : (kS S w).C W A n xs) (hS : ∀ k, S k → w1.heap[k]? = w.heap[k]?) : (kS S w1).C W A n xs :=
  ReadsRow.imp_ h (Below.refl _ _) (fun _ _ hp w' hw => hp w' (fun k hk => (hw k hk).trans (hS k hk)))
theorem kS_R {S : Nat → Prop} {w w1 W : World} {e base : Nat} {ok : Nat → Prop} {v : Value} {xs : List S38} (h : (kS S w).R e W base ok v xs) (hS : ∀ k, S k → w1.heap[k]? = w.heap[k]?) : (kS S w1).R e W base ok v xs :=
  Kd.R_imp (d := kS S w) (d' := kS S w1) rfl (fun _ _ _ _ _ hp w' hw => hp w' (fun k hk => (hw k hk).trans (hS k hk))) h
/-- A value that is read, its elements in S alone. -/
structure VS (S : Nat → Prop) (w : World) (x : S38) (A3 : Option Addr) (c3 : Nat) (A4 : Option Addr) (c4 : Nat) : Prop where
  l3 : x.f3.length ≤ c3
  g3 : (kS S w).C w A3 x.f3.length x.f3
  l4 : x.f4.length ≤ c4
  g4 : Kd.string.C w A4 x.f4.length x.f4
theorem VS.vc {S : Nat → Prop} {w : World} {x : S38} {A3 : Option Addr} {c3 : Nat} {A4 : Option Addr} {c4 : Nat} (h : VS S w x A3 c3 A4 c4) : VC w x A3 c3 A4 c4 :=
  ⟨h.l3, kS_C h.g3 (fun _ _ => rfl), h.l4, h.g4⟩
theorem VS.below {S : Nat → Prop} {w w' : World} {x : S38} {A3 : Option Addr} {c3 : Nat} {A4 : Option Addr} {c4 : Nat} (h : VS S w x A3 c3 A4 c4) (hb : Below w.heap.size w w') (hS : ∀ k, S k → k < w.heap.size) : VS S w' x A3 c3 A4 c4 :=
  ⟨h.l3, kS_C' (Kd.C_below h.g3 hb) (fun k hk => hb.block k (hS k hk)), h.l4, Kd.C_below h.g4 hb⟩
/-- A value whose rows are of one's own, its elements in S alone. -/
structure OwnS (S : Nat → Prop) (w : World) (base : Nat) (x : S38) (A3 : Option Addr) (c3 : Nat) (A4 : Option Addr) (c4 : Nat) : Prop where
  l : (kS S w).R 38 w base (fun _ => True) (.slice A3 x.f3.length c3) x.f3
  k : Kd.string.R 9 w base (fun _ => True) (.slice A4 x.f4.length c4) x.f4
section
variable {S : Nat → Prop} {w w' : World} {base : Nat} {x : S38} {A3 : Option Addr} {c3 : Nat} {A4 : Option Addr} {c4 : Nat}
theorem OwnS.vs (h : OwnS S w base x A3 c3 A4 c4) : VS S w x A3 c3 A4 c4 :=
  ⟨(Kd.R_reads' h.l).2.1, (Kd.R_reads' h.l).2.2, (Kd.R_reads' h.k).2.1, (Kd.R_reads' h.k).2.2⟩
theorem OwnS.far (h : OwnS S w base x A3 c3 A4 c4) (hf : ∀ q, base ≤ q → q < w.heap.size → w'.heap[q]? = w.heap[q]?) (hS : ∀ k, S k → w'.heap[k]? = w.heap[k]?) : OwnS S w' base x A3 c3 A4 c4 :=
  ⟨kS_R (kS_step h.l (fun q hq => hf q (Kd.R_base h.l q hq.symm) (Kd.R_lt h.l q hq.symm))) hS, Kd.R_mono (Kd.R_step (Kd.R_bound h.k) (fun q hq hl => hf q hq.2.1 hl)) (fun _ _ => trivial)⟩
theorem OwnS.below (h : OwnS S w base x A3 c3 A4 c4) (hb : Below w.heap.size w w') (hS : ∀ k, S k → k < w.heap.size) : OwnS S w' base x A3 c3 A4 c4 :=
  h.far (fun q _ hl => hb.block q hl) (fun k hk => hb.block k (hS k hk))
theorem OwnS.lower {b : Nat} (h : OwnS S w base x A3 c3 A4 c4) (hb : b ≤ base) : OwnS S w b x A3 c3 A4 c4 := ⟨Kd.R_lower h.l hb, Kd.R_lower h.k hb⟩
end
/-- The memory of Put. -/
structure PutM (w : World) (x y : S38) (A3 : Option Addr) (c3 : Nat) (A4 : Option Addr) (c4 : Nat) (B3 : Option Addr) (d3 : Nat) (B4 : Option Addr) (d4 : Nat) (wr : World) : Prop where
  V : wr.heap[w.heap.size]? = some (.cells #[.int .i64 x.f0, .int .i64 x.f1, .string x.f2, .slice A3 x.f3.length c3, .slice A4 x.f4.length c4] 38 (0, 0))
  X : wr.heap[w.heap.size + 1]? = some (.cells #[.int .i64 y.f0, .int .i64 y.f1, .string y.f2, .slice B3 y.f3.length d3, .slice B4 y.f4.length d4] 38 (0, 0))
  Z : wr.heap[w.heap.size + 1 + 1]? = some (.cells #[.int .i64 0, .int .i64 0, .string ⟨#[]⟩, .slice none 0 0, .slice none 0 0] 38 (0, 0))
  bw : Below w.heap.size w wr
section
variable {w : World} {x y : S38} {A3 : Option Addr} {c3 : Nat} {A4 : Option Addr} {c4 : Nat} {B3 : Option Addr} {d3 : Nat} {B4 : Option Addr} {d4 : Nat} {wr : World}
theorem PutM.held (h : PutM w x y A3 c3 A4 c4 B3 d3 B4 d4 wr) : wr.cell? ⟨w.heap.size, 3, none⟩ = some (.slice A3 x.f3.length c3) ∧ wr.cell? ⟨w.heap.size, 4, none⟩ = some (.slice A4 x.f4.length c4) :=
  ⟨(blk_cell h.V 3).trans rfl, (blk_cell h.V 4).trans rfl⟩
theorem PutM.below (h : PutM w x y A3 c3 A4 c4 B3 d3 B4 d4 wr) {w' : World} (hw : Below w.heap.size w w') (hb : Below wr.heap.size wr w') : PutM w x y A3 c3 A4 c4 B3 d3 B4 d4 w' :=
  ⟨(hb.block _ (blk_lt h.V)).trans h.V, (hb.block _ (blk_lt h.X)).trans h.X, (hb.block _ (blk_lt h.Z)).trans h.Z, hw⟩
theorem PutM.drew (h : PutM w x y A3 c3 A4 c4 B3 d3 B4 d4 wr) : PutM w x y A3 c3 A4 c4 B3 d3 B4 d4 wr.drew := ⟨h.V, h.X, h.Z, below_drew1 h.bw⟩
end
structure PutF (S : Nat → Prop) (w wS : World) (x : S38) (A12 : Option Addr) (c12 : Nat) (A16 : Option Addr) (c16 : Nat) (g : Nat) (w' : World) : Prop where
  b : Below wS.heap.size wS w'
  k : Kd.string.R 9 w' wS.heap.size (fun _ => True) (.slice A12 x.f4.length c12) x.f4
  l : (kS S w).R 38 w' wS.heap.size (fun _ => True) (.slice A16 x.f3.length c16) x.f3
  G : w'.heap[g]? = some (.cells #[.int .i64 0, .int .i64 0, .string ⟨#[]⟩, .slice none 0 0, .slice none 0 0] 38 (0, 0))
  ge : wS.heap.size ≤ g
  ne : some g ≠ (Value.slice A16 x.f3.length c16).ownBlock
/-- The memory of Put behind the append of both. -/
structure PutG (S : Nat → Prop) (w wS : World) (x y : S38) (key : ByteArray) (ks : List ByteArray) (ls : List S38) (A42 : Option Addr) (c42 : Nat) (A47 : Option Addr) (c47 : Nat) (A12 : Option Addr) (c12 : Nat) (A16 : Option Addr) (c16 : Nat) (g : Nat) (w' : World) : Prop where
  b : Below wS.heap.size wS w'
  k : Kd.string.R 9 w' wS.heap.size (fun _ => True) (.slice A42 ks.length c42) ks
  l : (kS S w).R 38 w' wS.heap.size (fun _ => True) (.slice A47 ls.length c47) ls
  G : w'.heap[g]? = some (.cells #[.int .i64 6, .int .i64 0, .string ⟨#[]⟩, .slice A16 x.f3.length c16, .slice A12 x.f4.length c12] 38 (0, 0))
  ne : some g ≠ (Value.slice A47 ls.length c47).ownBlock
theorem put_held {w' : World} {g b : Nat} {y : S38} {v0 v1 v2 v3 v4 u3 u4 : Value} (hG : w'.heap[g]? = some (.cells #[v0, v1, v2, v3, v4] 38 (0, 0))) (hX : w'.heap[b]? = some (.cells #[.int .i64 y.f0, .int .i64 y.f1, .string y.f2, u3, u4] 38 (0, 0))) :
    w'.cell? ⟨g, 3, none⟩ = some v3 ∧ w'.cell? ⟨g, 4, none⟩ = some v4 ∧ w'.cell? ⟨b, 0, none⟩ = some (.int .i64 y.f0) ∧ w'.cell? ⟨b, 1, none⟩ = some (.int .i64 y.f1) ∧ w'.cell? ⟨b, 2, none⟩ = some (.string y.f2) ∧ w'.cell? ⟨b, 3, none⟩ = some u3 ∧ w'.cell? ⟨b, 4, none⟩ = some u4 :=
  ⟨(blk_cell hG 3).trans rfl, (blk_cell hG 4).trans rfl, (blk_cell hX 0).trans rfl, (blk_cell hX 1).trans rfl, (blk_cell hX 2).trans rfl, (blk_cell hX 3).trans rfl, (blk_cell hX 4).trans rfl⟩
structure PutD (S : Nat → Prop) (w wS : World) (x : S38) (A12 : Option Addr) (c12 : Nat) (A16 : Option Addr) (c16 : Nat) (g : Nat) (w' : World) : Prop where
  b : Below wS.heap.size wS w'
  bw : Below w.heap.size w w'
  k : Kd.string.R 9 w' wS.heap.size (fun _ => True) (.slice A12 x.f4.length c12) x.f4
  l : (kS S w).R 38 w' wS.heap.size (fun _ => True) (.slice A16 x.f3.length c16) x.f3
  G : w'.heap[g]? = some (.cells #[.int .i64 6, .int .i64 0, .string ⟨#[]⟩, .slice A16 x.f3.length c16, .slice A12 x.f4.length c12] 38 (0, 0))
  ge : wS.heap.size ≤ g
  ne : some g ≠ (Value.slice A16 x.f3.length c16).ownBlock
  sz : wS.heap.size ≤ w'.heap.size
theorem PutD.of {S : Nat → Prop} {w wS w2 w3 : World} {x : S38} {A12 : Option Addr} {c12 : Nat} {A16 : Option Addr} {c16 : Nat} {g : Nat} (hF : PutF S w wS x A12 c12 A16 c16 g w2) (hbS : Below w.heap.size w wS) (hs : w.heap.size ≤ wS.heap.size) (e : w3 = set5 w2 g (.int .i64 6) (.int .i64 0) (.string ⟨#[]⟩) (.slice A16 x.f3.length c16) (.slice A12 x.f4.length c12)) : PutD S w wS x A12 c12 A16 c16 g w3 := by
  have hb3 : Below wS.heap.size wS w3 := by rw [e]; exact set5_below hF.b _ hF.ge _ _ _ _ _
  refine ⟨hb3, hbS.trans (hb3.mono hs), ?_, ?_, ?_, hF.ge, hF.ne, hb3.size⟩
  · rw [e]; exact Kd.R_mono (Kd.R_step (Kd.R_types hF.k hF.G (by simp [Kd.string, Kd.scalar])) (fun q hq _ => set5_far _ _ _ _ _ _ _ q hq.2)) (fun _ _ => trivial)
  · rw [e]; exact kS_step hF.l (fun q hq => set5_far _ _ _ _ _ _ _ q (fun he => hF.ne (by rw [← he]; exact hq)))
  · rw [e]; exact set5_blk hF.G _ _ _ _ _
theorem PutD.drew {S : Nat → Prop} {w wS w3 : World} {x : S38} {A12 : Option Addr} {c12 : Nat} {A16 : Option Addr} {c16 : Nat} {g : Nat} (h : PutD S w wS x A12 c12 A16 c16 g w3) : PutD S w wS x A12 c12 A16 c16 g w3.drew :=
  ⟨below_drew1 h.b, below_drew1 h.bw, Kd.R_drew h.k, Kd.R_drew h.l, h.G, h.ge, h.ne, h.sz⟩
/-- What Put tells where the object has no such key. -/
def PutP (S : Nat → Prop) (y : S38) (w : World) (e : Ending) (w' : World) : Prop :=
  ∃ A3 c3 A4 c4, e = .returned (.agg #[.int .i64 y.f0, .int .i64 y.f1, .string y.f2, .slice A3 y.f3.length c3, .slice A4 y.f4.length c4]) ∧ OwnS S w' w.heap.size y A3 c3 A4 c4 ∧ Below w.heap.size w w'
set_option maxRecDepth 100000 in
set_option maxHeartbeats 16000000 in
theorem put_calls (x y : S38) (key : ByteArray) (A3 : Option Addr) (c3 : Nat) (A4 : Option Addr) (c4 : Nat) (B3 : Option Addr) (d3 : Nat) (B4 : Option Addr) (d4 : Nat) (S : Nat → Prop) (w : World) (hS : ∀ k, S k → k < w.heap.size) (hx : VS S w x A3 c3 A4 c4) (hy : (kS S w).K w y [.int .i64 y.f0, .int .i64 y.f1, .string y.f2, .slice B3 y.f3.length d3, .slice B4 y.f4.length d4]) (hwx : x.wt ≤ 1073741824) (hwy : y.wt ≤ 1073741824) (hkey : idxK x.f4 key = -1) :
    Calls Tryz.prog 47 #[.agg #[.int .i64 x.f0, .int .i64 x.f1, .string x.f2, .slice A3 x.f3.length c3, .slice A4 x.f4.length c4], .string key, .agg #[.int .i64 y.f0, .int .i64 y.f1, .string y.f2, .slice B3 y.f3.length d3, .slice B4 y.f4.length d4]] w (PutP S (setB ⟨6, 0, ⟨#[]⟩, x.f3, x.f4⟩ key y) w) := by
  have hl3 := wt_len3 x
  have hl4 := wt_len4 x
  obtain ⟨w1, hw1⟩ : ∃ w1, w1 = ((w.alloc (.cells #[.int .i64 x.f0, .int .i64 x.f1, .string x.f2, .slice A3 x.f3.length c3, .slice A4 x.f4.length c4] 38)).alloc (.cells #[.int .i64 y.f0, .int .i64 y.f1, .string y.f2, .slice B3 y.f3.length d3, .slice B4 y.f4.length d4] 38)).alloc (.cells #[.int .i64 0, .int .i64 0, .string ⟨#[]⟩, .slice none 0 0, .slice none 0 0] 38) := ⟨_, rfl⟩
  have HM : Hid (PutM w x y A3 c3 A4 c4 B3 d3 B4 d4 w1) := by
    rw [hw1]
    refine ⟨blk_alloc (blk_alloc (World.alloc_heap_new _ _) _) _, blk_alloc ?_ _, ?_, (ba2 w _ _).trans ((ba _ _).mono (by simp; omega))⟩
    · have := World.alloc_heap_new (w.alloc (.cells #[.int .i64 x.f0, .int .i64 x.f1, .string x.f2, .slice A3 x.f3.length c3, .slice A4 x.f4.length c4] 38)) (.cells #[.int .i64 y.f0, .int .i64 y.f1, .string y.f2, .slice B3 y.f3.length d3, .slice B4 y.f4.length d4] 38)
      rwa [World.size_alloc] at this
    · have := World.alloc_heap_new ((w.alloc (.cells #[.int .i64 x.f0, .int .i64 x.f1, .string x.f2, .slice A3 x.f3.length c3, .slice A4 x.f4.length c4] 38)).alloc (.cells #[.int .i64 y.f0, .int .i64 y.f1, .string y.f2, .slice B3 y.f3.length d3, .slice B4 y.f4.length d4] 38)) (.cells #[.int .i64 0, .int .i64 0, .string ⟨#[]⟩, .slice none 0 0, .slice none 0 0] 38)
      rwa [World.size_alloc, World.size_alloc] at this
  have HX := Lib.hid hx
  have HY := Lib.hid hy
  have HW1 := Lib.hid hw1
  have HKEY := Lib.hid hkey
  clear hw1 hx hy hkey
  have v3 := blk_cell HM.out.V 3
  have v4 := blk_cell HM.out.V 4
  go_enter Tryz.func47, Tryz.ntmps47
  go_wp2_with fail
  rw [← HW1.out]
  obtain ⟨wS, HWS⟩ : ∃ wS, Hid (wS = w1.drew) := ⟨_, rfl⟩
  have HsS : Hid (w.heap.size ≤ wS.heap.size) := by show _ ≤ _; rw [HWS.out]; exact HM.out.bw.size
  have HbS : Hid (Below w.heap.size w wS) := by rw [HWS.out]; exact below_drew1 HM.out.bw
  have HS0 : Hid (Below wS.heap.size wS wS) := Below.refl _ _
  have HwSs : Hid (wS.heap.size ≤ wS.heap.size) := Nat.le_refl _
  have HMS : Hid (PutM w x y A3 c3 A4 c4 B3 d3 B4 d4 wS) := by rw [HWS.out]; exact HM.out.drew
  refine start_ (n := 11) (S := fun w' => w'.cell? ⟨w.heap.size, 3, none⟩ = some (.slice A3 x.f3.length c3) ∧ w'.cell? ⟨w.heap.size, 4, none⟩ = some (.slice A4 x.f4.length c4)) (ds := [10]) #[false, false, false, false, false, false, false, false, false, false, false] (by kernel_rfl) rfl rfl (HM.out.drew.held) (fun hHeld => ?_)
  have hHS := HWS.out
  rw [← hHS] at hHeld ⊢
  clear hHS
  refine pure_ (i := 1) (N := some 10) (v := ?_) (a' := ?_) #[false, true, false, false, false, false, false, false, false, false, false] rfl rfl (by kernel_rfl) (fun _ _ _ h => h) (Or.inl ⟨by rfl, ?_⟩) ?_ ?_
  rotate_left
  · intro w'
    go_simp
    with_reducible rfl
  rotate_left
  · simp only [Act.put, List.setIfInBounds_toArray, List.set_cons_zero, List.set_cons_succ, Go.Proofs.YtiddjadfkpjpdaaGreatDoorW.PrintLast.i64_w, Go.Proofs.YtiddjadfkpjpdaaGreatDoorW.PrintLast.i32_w]
    rfl
  refine take_ (i := 2) (N := some 11) (v := ?_) (a' := ?_) #[false, true, true, false, false, false, false, false, false, false, false] rfl rfl (by kernel_rfl) (fun _ _ _ h => h) (Or.inl ⟨by rfl, ?_⟩) hHeld ?_ ?_
  rotate_left
  · rintro w' ⟨s0, s1⟩
    go_simp
    with_reducible rfl
  rotate_left
  · simp only [Act.put, List.setIfInBounds_toArray, List.set_cons_zero, List.set_cons_succ, Go.Proofs.YtiddjadfkpjpdaaGreatDoorW.PrintLast.i64_w, Go.Proofs.YtiddjadfkpjpdaaGreatDoorW.PrintLast.i32_w]
    rfl
  refine pure_ (i := 5) (N := some 14) (v := ?_) (a' := ?_) #[false, true, true, false, false, true, false, false, false, false, false] rfl rfl (by kernel_rfl) (fun _ _ _ h => h) (Or.inl ⟨by rfl, ?_⟩) ?_ ?_
  rotate_left
  · intro w'
    go_simp
    with_reducible rfl
  rotate_left
  · simp only [Act.put, List.setIfInBounds_toArray, List.set_cons_zero, List.set_cons_succ, Go.Proofs.YtiddjadfkpjpdaaGreatDoorW.PrintLast.i64_w, Go.Proofs.YtiddjadfkpjpdaaGreatDoorW.PrintLast.i32_w]
    rfl
  refine take_ (i := 6) (N := some 15) (v := ?_) (a' := ?_) #[false, true, true, false, false, true, true, false, false, false, false] rfl rfl (by kernel_rfl) (fun _ _ _ h => h) (Or.inl ⟨by rfl, ?_⟩) hHeld ?_ ?_
  rotate_left
  · rintro w' ⟨s0, s1⟩
    go_simp
    with_reducible rfl
  rotate_left
  · simp only [Act.put, List.setIfInBounds_toArray, List.set_cons_zero, List.set_cons_succ, Go.Proofs.YtiddjadfkpjpdaaGreatDoorW.PrintLast.i64_w, Go.Proofs.YtiddjadfkpjpdaaGreatDoorW.PrintLast.i32_w]
    rfl
  refine join_ (σ := Option Addr × Nat × Option Addr × Nat × Option Addr × Nat × Option Addr × Nat × Nat) 1 #[true, true, true, true, true, true, true, true, true, true, false] (fun s => [(9, .slice s.1 0 s.2.1), (12, .slice s.2.2.1 x.f4.length s.2.2.2.1), (13, .slice s.2.2.2.2.1 0 s.2.2.2.2.2.1), (16, .slice s.2.2.2.2.2.2.1 x.f3.length s.2.2.2.2.2.2.2.1), (17, .agg #[.int .i64 6, .int .i64 0, .string ⟨#[]⟩, .slice s.2.2.2.2.2.2.1 x.f3.length s.2.2.2.2.2.2.2.1, .slice s.2.2.1 x.f4.length s.2.2.2.1]), (7, .pointer (some ⟨s.2.2.2.2.2.2.2.2, 0, none⟩))]) (fun s w' => PutF S w wS x s.2.2.1 s.2.2.2.1 s.2.2.2.2.2.2.1 s.2.2.2.2.2.2.2.1 s.2.2.2.2.2.2.2.2 w') ?_ ?_
  rotate_left
  · intro hJ
    refine three_ (i := 0) (j := 4) (k := 9) (Ni := some 9) (Nj := some 13) (Nk := some 7) #[true, true, true, false, false, true, true, false, false, false, false] #[false, true, true, false, true, true, true, false, false, false, false] #[false, true, true, false, false, true, true, false, false, true, false] rfl rfl rfl rfl rfl rfl (by kernel_rfl) (by decide) (by decide) (by decide) (fun K hK => ?_) (fun K hK => ?_) (fun K hK => ?_)
    · refine Kd.R_lit_step Kd.string (w0 := wS) wS.heap.size 9 (by rfl) (N := 9) rfl (xs := []) (inner := []) (ok := fun _ => True) (okp := fun _ => True) (by first | (go_simp; done) | (go_simp; rfl)) (Reps.none _ _) (fun _ h => h) trivial HS0.out (HwSs.out) (by decide) ?_
      intro v_1 w_1 hR_1 hB_1 hg_1 hb_1
      obtain ⟨A9_1, c9_1, hv_1⟩ := Kd.R_slice hR_1
      subst hv_1
      have HA_1 := Lib.hid hR_1
      have HB_1 := Lib.hid hB_1
      have HBW_1 : Hid (Below w.heap.size w w_1) := HbS.out.trans (HB_1.out.mono HsS.out)
      have Hw_1s : Hid (wS.heap.size ≤ w_1.heap.size) := HB_1.out.size
      clear hR_1 hB_1 hg_1 hb_1
      refine hK.out _ _ ((HMS.out.below HBW_1.out HB_1.out).held) (fun hHeld => ?_)
      clear hK K
      refine norm_ (a' := ?_) ?_ ?_
      rotate_left
      · show Act.put _ (some 9) _ = _
        simp only [Act.put, List.setIfInBounds_toArray, List.set_cons_zero, List.set_cons_succ, Go.Proofs.YtiddjadfkpjpdaaGreatDoorW.PrintLast.i64_w, Go.Proofs.YtiddjadfkpjpdaaGreatDoorW.PrintLast.i32_w]
        rfl
      refine three_ (i := 3) (j := 4) (k := 9) (Ni := some 12) (Nj := some 13) (Nk := some 7) #[true, true, true, true, false, true, true, false, false, false, false] #[true, true, true, false, true, true, true, false, false, false, false] #[true, true, true, false, false, true, true, false, false, true, false] rfl rfl rfl rfl rfl rfl (by kernel_rfl) (by decide) (by decide) (by decide) (fun K hK => ?_) (fun K hK => ?_) (fun K hK => ?_)
      · refine Kd.R_append_rows_step Kd.string (Rr := Kd.string.K w) (w0 := wS) wS.heap.size (by rfl) (.tmp 9) (.tmp 11) 32 9 (.string ⟨#[]⟩) 16 rfl Tryz.underlying32 info9 rfl (by decide) (by decide) (.slice A9_1 0 c9_1) [] x.f4 A4 x.f4.length c4 (fun _ => True) (fun _ => False) rfl rfl HA_1.out (HX.out.g4.imp_ HBW_1.out (fun _ _ hp => hp)) (fun _ _ h => h) (fun _ h => h.elim) (fun _ _ => trivial) HB_1.out (Hw_1s.out) (by simp; omega) ?_
        intro v_2 w_2 hR_2 hB_2 hg_2 hat_2
        rw [List.nil_append] at hR_2
        obtain ⟨A12_2, c12_2, hv_2⟩ := Kd.R_slice hR_2
        subst hv_2
        have HA_2 := Lib.hid hR_2
        have HB_2 := Lib.hid hB_2
        have HBW_2 : Hid (Below w.heap.size w w_2) := HbS.out.trans (HB_2.out.mono HsS.out)
        have Hw_2s : Hid (wS.heap.size ≤ w_2.heap.size) := HB_2.out.size
        clear hR_2 hB_2 hg_2 hat_2
        refine hK.out _ _ ((HMS.out.below HBW_2.out HB_2.out).held) (fun hHeld => ?_)
        clear hK K
        refine norm_ (a' := ?_) ?_ ?_
        rotate_left
        · show Act.put _ (some 12) _ = _
          simp only [Act.put, List.setIfInBounds_toArray, List.set_cons_zero, List.set_cons_succ, Go.Proofs.YtiddjadfkpjpdaaGreatDoorW.PrintLast.i64_w, Go.Proofs.YtiddjadfkpjpdaaGreatDoorW.PrintLast.i32_w]
          rfl
        refine two_ (i := 4) (j := 9) (Ni := some 13) (Nj := some 7) #[true, true, true, true, true, true, true, false, false, false, false] #[true, true, true, true, false, true, true, false, false, true, false] rfl rfl rfl rfl (by kernel_rfl) (by decide) (by decide) (fun K hK => ?_) (fun K hK => ?_)
        · refine Kd.R_lit_step (kS S w) (w0 := wS) wS.heap.size 38 (by rfl) (N := 13) rfl (xs := []) (inner := []) (ok := fun _ => True) (okp := fun _ => True) (by first | (go_simp; done) | (go_simp; rfl)) (Reps.none _ _) (fun _ h => h) trivial HB_2.out (Hw_2s.out) (by decide) ?_
          intro v_3 w_3 hR_3 hB_3 hg_3 hb_3
          obtain ⟨A13_3, c13_3, hv_3⟩ := Kd.R_slice hR_3
          subst hv_3
          have HL_3 := Lib.hid hR_3
          have HA_3 := Lib.hid (Kd.R_grown HA_2.out hg_3 (fun _ _ => by simp))
          have HB_3 := Lib.hid hB_3
          have HBW_3 : Hid (Below w.heap.size w w_3) := HbS.out.trans (HB_3.out.mono HsS.out)
          have Hw_3s : Hid (wS.heap.size ≤ w_3.heap.size) := HB_3.out.size
          clear hR_3 hB_3 hg_3 hb_3
          refine hK.out _ _ ((HMS.out.below HBW_3.out HB_3.out).held) (fun hHeld => ?_)
          clear hK K
          refine norm_ (a' := ?_) ?_ ?_
          rotate_left
          · show Act.put _ (some 13) _ = _
            simp only [Act.put, List.setIfInBounds_toArray, List.set_cons_zero, List.set_cons_succ, Go.Proofs.YtiddjadfkpjpdaaGreatDoorW.PrintLast.i64_w, Go.Proofs.YtiddjadfkpjpdaaGreatDoorW.PrintLast.i32_w]
            rfl
          refine two_ (i := 7) (j := 9) (Ni := some 16) (Nj := some 7) #[true, true, true, true, true, true, true, true, false, false, false] #[true, true, true, true, true, true, true, false, false, true, false] rfl rfl rfl rfl (by kernel_rfl) (by decide) (by decide) (fun K hK => ?_) (fun K hK => ?_)
          · refine Kd.R_append_rows_step (kS S w) (Rr := (kS S w).K w) (w0 := wS) wS.heap.size (by rfl) (.tmp 13) (.tmp 15) 36 38 (.agg #[(.int .i64 0), (.int .i64 0), (.string ⟨#[]⟩), (.slice none 0 0), (.slice none 0 0)]) 80 rfl Tryz.underlying36 info38 rfl (Nat.succ_pos 4) (by decide) (.slice A13_3 0 c13_3) [] x.f3 A3 x.f3.length c3 (fun _ => True) (fun _ => False) rfl rfl HL_3.out (HX.out.g3.imp_ HBW_3.out (fun _ _ hp => hp)) (fun _ _ h => h) (fun _ h => h.elim) (fun _ _ => trivial) HB_3.out (Hw_3s.out) (by simp; omega) ?_
            intro v_4 w_4 hR_4 hB_4 hg_4 hat_4
            rw [List.nil_append] at hR_4
            obtain ⟨A16_4, c16_4, hv_4⟩ := Kd.R_slice hR_4
            subst hv_4
            have HL_4 := Lib.hid hR_4
            have HA_4 := Lib.hid (Kd.R_over HA_3.out HL_3.out (by simp [Kd.string, Kd.scalar, kS]) hg_4)
            have HB_4 := Lib.hid hB_4
            have HBW_4 : Hid (Below w.heap.size w w_4) := HbS.out.trans (HB_4.out.mono HsS.out)
            have Hw_4s : Hid (wS.heap.size ≤ w_4.heap.size) := HB_4.out.size
            clear hR_4 hB_4 hg_4 hat_4
            refine hK.out _ _ ((HMS.out.below HBW_4.out HB_4.out).held) (fun hHeld => ?_)
            clear hK K
            refine norm_ (a' := ?_) ?_ ?_
            rotate_left
            · show Act.put _ (some 16) _ = _
              simp only [Act.put, List.setIfInBounds_toArray, List.set_cons_zero, List.set_cons_succ, Go.Proofs.YtiddjadfkpjpdaaGreatDoorW.PrintLast.i64_w, Go.Proofs.YtiddjadfkpjpdaaGreatDoorW.PrintLast.i32_w]
              rfl
            refine pure_ (i := 8) (N := some 17) (v := ?_) (a' := ?_) #[true, true, true, true, true, true, true, true, true, false, false] rfl rfl (by kernel_rfl) (fun _ _ _ h => h) (Or.inl ⟨by rfl, ?_⟩) ?_ ?_
            rotate_left
            · intro w'
              go_simp
              with_reducible rfl
            rotate_left
            · simp only [Act.put, List.setIfInBounds_toArray, List.set_cons_zero, List.set_cons_succ, Go.Proofs.YtiddjadfkpjpdaaGreatDoorW.PrintLast.i64_w, Go.Proofs.YtiddjadfkpjpdaaGreatDoorW.PrintLast.i32_w]
              rfl
            refine one_ (i := 9) (N := some 7) #[true, true, true, true, true, true, true, true, true, true, false] rfl rfl (by kernel_rfl) (by decide) (fun K hK => ?_)
            refine box_step (by rfl) (N := 7) rfl (cs := #[.int .i64 0, .int .i64 0, .string ⟨#[]⟩, .slice none 0 0, .slice none 0 0]) (t := 38) (by first | (go_simp; done) | (go_simp; rfl)) ?_
            intro g_5 hge_5 w_5 hG_5 hb_5
            have HG_5 := Lib.hid hG_5
            have HGE_5 : Hid (wS.heap.size ≤ g_5) := by have := Hw_4s.out; show _ ≤ _; omega
            have hg_5 : World.grownBy w_4 w_5 none := ⟨hb_5.os, hb_5.tape, hb_5.output, hb_5.size, fun q hq _ => hb_5.block q hq⟩
            have hB_5 : Below wS.heap.size wS w_5 := HB_4.out.trans (hb_5.mono (Hw_4s.out))
            have HNE_5 : Hid (some g_5 ≠ (Value.slice A16_4 x.f3.length c16_4).ownBlock) := by show some _ ≠ _; intro e; have := Kd.R_lt HL_4.out _ e.symm; omega
            have HA_5 := Lib.hid (Kd.R_grown HA_4.out hg_5 (fun _ _ => by simp))
            have HL_5 := Lib.hid (Kd.R_grown HL_4.out hg_5 (fun _ _ => by simp))
            have HB_5 := Lib.hid hB_5
            have HBW_5 : Hid (Below w.heap.size w w_5) := HbS.out.trans (HB_5.out.mono HsS.out)
            have Hw_5s : Hid (wS.heap.size ≤ w_5.heap.size) := HB_5.out.size
            clear hG_5 hb_5 hg_5 hB_5
            clear hge_5
            refine hK.out _ _ ((HMS.out.below HBW_5.out HB_5.out).held) (fun hHeld => ?_)
            clear hK K
            refine norm_ (a' := ?_) ?_ ?_
            rotate_left
            · show Act.put _ (some 7) _ = _
              simp only [Act.put, List.setIfInBounds_toArray, List.set_cons_zero, List.set_cons_succ, Go.Proofs.YtiddjadfkpjpdaaGreatDoorW.PrintLast.i64_w, Go.Proofs.YtiddjadfkpjpdaaGreatDoorW.PrintLast.i32_w]
              rfl
            exact hJ (A9_1, c9_1, A12_2, c12_2, A13_3, c13_3, A16_4, c16_4, g_5) w_5 ⟨HB_5.out, HA_5.out, HL_5.out, HG_5.out, HGE_5.out, HNE_5.out⟩
          · refine box_step (by rfl) (N := 7) rfl (cs := #[.int .i64 0, .int .i64 0, .string ⟨#[]⟩, .slice none 0 0, .slice none 0 0]) (t := 38) (by first | (go_simp; done) | (go_simp; rfl)) ?_
            intro g_6 hge_6 w_6 hG_6 hb_6
            have HG_6 := Lib.hid hG_6
            have HGE_6 : Hid (wS.heap.size ≤ g_6) := by have := Hw_3s.out; show _ ≤ _; omega
            have hg_6 : World.grownBy w_3 w_6 none := ⟨hb_6.os, hb_6.tape, hb_6.output, hb_6.size, fun q hq _ => hb_6.block q hq⟩
            have hB_6 : Below wS.heap.size wS w_6 := HB_3.out.trans (hb_6.mono (Hw_3s.out))
            have HNE_6 : Hid (some g_6 ≠ (Value.slice A13_3 0 c13_3).ownBlock) := by show some _ ≠ _; intro e; have := Kd.R_lt HL_3.out _ e.symm; omega
            have HA_6 := Lib.hid (Kd.R_grown HA_3.out hg_6 (fun _ _ => by simp))
            have HL_6 := Lib.hid (Kd.R_grown HL_3.out hg_6 (fun _ _ => by simp))
            have HB_6 := Lib.hid hB_6
            have HBW_6 : Hid (Below w.heap.size w w_6) := HbS.out.trans (HB_6.out.mono HsS.out)
            have Hw_6s : Hid (wS.heap.size ≤ w_6.heap.size) := HB_6.out.size
            clear hG_6 hb_6 hg_6 hB_6
            clear hge_6
            refine hK.out _ _ ((HMS.out.below HBW_6.out HB_6.out).held) (fun hHeld => ?_)
            clear hK K
            refine norm_ (a' := ?_) ?_ ?_
            rotate_left
            · show Act.put _ (some 7) _ = _
              simp only [Act.put, List.setIfInBounds_toArray, List.set_cons_zero, List.set_cons_succ, Go.Proofs.YtiddjadfkpjpdaaGreatDoorW.PrintLast.i64_w, Go.Proofs.YtiddjadfkpjpdaaGreatDoorW.PrintLast.i32_w]
              rfl
            refine one_ (i := 7) (N := some 16) #[true, true, true, true, true, true, true, true, false, true, false] rfl rfl (by kernel_rfl) (by decide) (fun K hK => ?_)
            refine Kd.R_append_rows_step (kS S w) (Rr := (kS S w).K w) (w0 := wS) wS.heap.size (by rfl) (.tmp 13) (.tmp 15) 36 38 (.agg #[(.int .i64 0), (.int .i64 0), (.string ⟨#[]⟩), (.slice none 0 0), (.slice none 0 0)]) 80 rfl Tryz.underlying36 info38 rfl (Nat.succ_pos 4) (by decide) (.slice A13_3 0 c13_3) [] x.f3 A3 x.f3.length c3 (fun _ => True) (fun _ => False) rfl rfl HL_6.out (HX.out.g3.imp_ HBW_6.out (fun _ _ hp => hp)) (fun _ _ h => h) (fun _ h => h.elim) (fun _ _ => trivial) HB_6.out (Hw_6s.out) (by simp; omega) ?_
            intro v_7 w_7 hR_7 hB_7 hg_7 hat_7
            rw [List.nil_append] at hR_7
            obtain ⟨A16_7, c16_7, hv_7⟩ := Kd.R_slice hR_7
            subst hv_7
            have HL_7 := Lib.hid hR_7
            have HNE_7 : Hid (some g_6 ≠ (Value.slice A16_7 x.f3.length c16_7).ownBlock) := by
              show some _ ≠ _
              rcases hat_7 with h | ⟨b, hb1, hb2⟩
              · rw [h]; exact HNE_6.out
              · rw [hb1]; intro e; injection e with e; have := blk_lt HG_6.out; omega
            have HA_7 := Lib.hid (Kd.R_over HA_6.out HL_6.out (by simp [Kd.string, Kd.scalar, kS]) hg_7)
            have HG_7 : Hid (w_7.heap[g_6]? = some (.cells #[.int .i64 0, .int .i64 0, .string ⟨#[]⟩, .slice none 0 0, .slice none 0 0] 38 (0, 0))) := (hg_7.block _ (blk_lt HG_6.out) HNE_6.out).trans HG_6.out
            have HB_7 := Lib.hid hB_7
            have HBW_7 : Hid (Below w.heap.size w w_7) := HbS.out.trans (HB_7.out.mono HsS.out)
            have Hw_7s : Hid (wS.heap.size ≤ w_7.heap.size) := HB_7.out.size
            clear hR_7 hB_7 hg_7 hat_7
            refine hK.out _ _ ((HMS.out.below HBW_7.out HB_7.out).held) (fun hHeld => ?_)
            clear hK K
            refine norm_ (a' := ?_) ?_ ?_
            rotate_left
            · show Act.put _ (some 16) _ = _
              simp only [Act.put, List.setIfInBounds_toArray, List.set_cons_zero, List.set_cons_succ, Go.Proofs.YtiddjadfkpjpdaaGreatDoorW.PrintLast.i64_w, Go.Proofs.YtiddjadfkpjpdaaGreatDoorW.PrintLast.i32_w]
              rfl
            refine pure_ (i := 8) (N := some 17) (v := ?_) (a' := ?_) #[true, true, true, true, true, true, true, true, true, true, false] rfl rfl (by kernel_rfl) (fun _ _ _ h => h) (Or.inl ⟨by rfl, ?_⟩) ?_ ?_
            rotate_left
            · intro w'
              go_simp
              with_reducible rfl
            rotate_left
            · simp only [Act.put, List.setIfInBounds_toArray, List.set_cons_zero, List.set_cons_succ, Go.Proofs.YtiddjadfkpjpdaaGreatDoorW.PrintLast.i64_w, Go.Proofs.YtiddjadfkpjpdaaGreatDoorW.PrintLast.i32_w]
              rfl
            exact hJ (A9_1, c9_1, A12_2, c12_2, A13_3, c13_3, A16_7, c16_7, g_6) w_7 ⟨HB_7.out, HA_7.out, HL_7.out, HG_7.out, HGE_6.out, HNE_7.out⟩
        · refine box_step (by rfl) (N := 7) rfl (cs := #[.int .i64 0, .int .i64 0, .string ⟨#[]⟩, .slice none 0 0, .slice none 0 0]) (t := 38) (by first | (go_simp; done) | (go_simp; rfl)) ?_
          intro g_8 hge_8 w_8 hG_8 hb_8
          have HG_8 := Lib.hid hG_8
          have HGE_8 : Hid (wS.heap.size ≤ g_8) := by have := Hw_2s.out; show _ ≤ _; omega
          have hg_8 : World.grownBy w_2 w_8 none := ⟨hb_8.os, hb_8.tape, hb_8.output, hb_8.size, fun q hq _ => hb_8.block q hq⟩
          have hB_8 : Below wS.heap.size wS w_8 := HB_2.out.trans (hb_8.mono (Hw_2s.out))
          have HA_8 := Lib.hid (Kd.R_grown HA_2.out hg_8 (fun _ _ => by simp))
          have HB_8 := Lib.hid hB_8
          have HBW_8 : Hid (Below w.heap.size w w_8) := HbS.out.trans (HB_8.out.mono HsS.out)
          have Hw_8s : Hid (wS.heap.size ≤ w_8.heap.size) := HB_8.out.size
          clear hG_8 hb_8 hg_8 hB_8
          clear hge_8
          refine hK.out _ _ ((HMS.out.below HBW_8.out HB_8.out).held) (fun hHeld => ?_)
          clear hK K
          refine norm_ (a' := ?_) ?_ ?_
          rotate_left
          · show Act.put _ (some 7) _ = _
            simp only [Act.put, List.setIfInBounds_toArray, List.set_cons_zero, List.set_cons_succ, Go.Proofs.YtiddjadfkpjpdaaGreatDoorW.PrintLast.i64_w, Go.Proofs.YtiddjadfkpjpdaaGreatDoorW.PrintLast.i32_w]
            rfl
          refine one_ (i := 4) (N := some 13) #[true, true, true, true, true, true, true, false, false, true, false] rfl rfl (by kernel_rfl) (by decide) (fun K hK => ?_)
          refine Kd.R_lit_step (kS S w) (w0 := wS) wS.heap.size 38 (by rfl) (N := 13) rfl (xs := []) (inner := []) (ok := fun _ => True) (okp := fun _ => True) (by first | (go_simp; done) | (go_simp; rfl)) (Reps.none _ _) (fun _ h => h) trivial HB_8.out (Hw_8s.out) (by decide) ?_
          intro v_9 w_9 hR_9 hB_9 hg_9 hb_9
          obtain ⟨A13_9, c13_9, hv_9⟩ := Kd.R_slice hR_9
          subst hv_9
          have HL_9 := Lib.hid hR_9
          have HNE_9 : Hid (some g_8 ≠ (Value.slice A13_9 0 c13_9).ownBlock) := by
            obtain ⟨b, hb1, hb2⟩ := hb_9
            have := blk_lt HG_8.out
            show some _ ≠ _
            simp only [List.length_nil] at hb1
            rw [hb1]; intro e; injection e with e; omega
          have HA_9 := Lib.hid (Kd.R_grown HA_8.out hg_9 (fun _ _ => by simp))
          have HG_9 : Hid (w_9.heap[g_8]? = some (.cells #[.int .i64 0, .int .i64 0, .string ⟨#[]⟩, .slice none 0 0, .slice none 0 0] 38 (0, 0))) := (hg_9.block _ (blk_lt HG_8.out) (by simp)).trans HG_8.out
          have HB_9 := Lib.hid hB_9
          have HBW_9 : Hid (Below w.heap.size w w_9) := HbS.out.trans (HB_9.out.mono HsS.out)
          have Hw_9s : Hid (wS.heap.size ≤ w_9.heap.size) := HB_9.out.size
          clear hR_9 hB_9 hg_9 hb_9
          refine hK.out _ _ ((HMS.out.below HBW_9.out HB_9.out).held) (fun hHeld => ?_)
          clear hK K
          refine norm_ (a' := ?_) ?_ ?_
          rotate_left
          · show Act.put _ (some 13) _ = _
            simp only [Act.put, List.setIfInBounds_toArray, List.set_cons_zero, List.set_cons_succ, Go.Proofs.YtiddjadfkpjpdaaGreatDoorW.PrintLast.i64_w, Go.Proofs.YtiddjadfkpjpdaaGreatDoorW.PrintLast.i32_w]
            rfl
          refine one_ (i := 7) (N := some 16) #[true, true, true, true, true, true, true, true, false, true, false] rfl rfl (by kernel_rfl) (by decide) (fun K hK => ?_)
          refine Kd.R_append_rows_step (kS S w) (Rr := (kS S w).K w) (w0 := wS) wS.heap.size (by rfl) (.tmp 13) (.tmp 15) 36 38 (.agg #[(.int .i64 0), (.int .i64 0), (.string ⟨#[]⟩), (.slice none 0 0), (.slice none 0 0)]) 80 rfl Tryz.underlying36 info38 rfl (Nat.succ_pos 4) (by decide) (.slice A13_9 0 c13_9) [] x.f3 A3 x.f3.length c3 (fun _ => True) (fun _ => False) rfl rfl HL_9.out (HX.out.g3.imp_ HBW_9.out (fun _ _ hp => hp)) (fun _ _ h => h) (fun _ h => h.elim) (fun _ _ => trivial) HB_9.out (Hw_9s.out) (by simp; omega) ?_
          intro v_10 w_10 hR_10 hB_10 hg_10 hat_10
          rw [List.nil_append] at hR_10
          obtain ⟨A16_10, c16_10, hv_10⟩ := Kd.R_slice hR_10
          subst hv_10
          have HL_10 := Lib.hid hR_10
          have HNE_10 : Hid (some g_8 ≠ (Value.slice A16_10 x.f3.length c16_10).ownBlock) := by
            show some _ ≠ _
            rcases hat_10 with h | ⟨b, hb1, hb2⟩
            · rw [h]; exact HNE_9.out
            · rw [hb1]; intro e; injection e with e; have := blk_lt HG_9.out; omega
          have HA_10 := Lib.hid (Kd.R_over HA_9.out HL_9.out (by simp [Kd.string, Kd.scalar, kS]) hg_10)
          have HG_10 : Hid (w_10.heap[g_8]? = some (.cells #[.int .i64 0, .int .i64 0, .string ⟨#[]⟩, .slice none 0 0, .slice none 0 0] 38 (0, 0))) := (hg_10.block _ (blk_lt HG_9.out) HNE_9.out).trans HG_9.out
          have HB_10 := Lib.hid hB_10
          have HBW_10 : Hid (Below w.heap.size w w_10) := HbS.out.trans (HB_10.out.mono HsS.out)
          have Hw_10s : Hid (wS.heap.size ≤ w_10.heap.size) := HB_10.out.size
          clear hR_10 hB_10 hg_10 hat_10
          refine hK.out _ _ ((HMS.out.below HBW_10.out HB_10.out).held) (fun hHeld => ?_)
          clear hK K
          refine norm_ (a' := ?_) ?_ ?_
          rotate_left
          · show Act.put _ (some 16) _ = _
            simp only [Act.put, List.setIfInBounds_toArray, List.set_cons_zero, List.set_cons_succ, Go.Proofs.YtiddjadfkpjpdaaGreatDoorW.PrintLast.i64_w, Go.Proofs.YtiddjadfkpjpdaaGreatDoorW.PrintLast.i32_w]
            rfl
          refine pure_ (i := 8) (N := some 17) (v := ?_) (a' := ?_) #[true, true, true, true, true, true, true, true, true, true, false] rfl rfl (by kernel_rfl) (fun _ _ _ h => h) (Or.inl ⟨by rfl, ?_⟩) ?_ ?_
          rotate_left
          · intro w'
            go_simp
            with_reducible rfl
          rotate_left
          · simp only [Act.put, List.setIfInBounds_toArray, List.set_cons_zero, List.set_cons_succ, Go.Proofs.YtiddjadfkpjpdaaGreatDoorW.PrintLast.i64_w, Go.Proofs.YtiddjadfkpjpdaaGreatDoorW.PrintLast.i32_w]
            rfl
          exact hJ (A9_1, c9_1, A12_2, c12_2, A13_9, c13_9, A16_10, c16_10, g_8) w_10 ⟨HB_10.out, HA_10.out, HL_10.out, HG_10.out, HGE_8.out, HNE_10.out⟩
      · refine Kd.R_lit_step (kS S w) (w0 := wS) wS.heap.size 38 (by rfl) (N := 13) rfl (xs := []) (inner := []) (ok := fun _ => True) (okp := fun _ => True) (by first | (go_simp; done) | (go_simp; rfl)) (Reps.none _ _) (fun _ h => h) trivial HB_1.out (Hw_1s.out) (by decide) ?_
        intro v_11 w_11 hR_11 hB_11 hg_11 hb_11
        obtain ⟨A13_11, c13_11, hv_11⟩ := Kd.R_slice hR_11
        subst hv_11
        have HL_11 := Lib.hid hR_11
        have HA_11 := Lib.hid (Kd.R_grown HA_1.out hg_11 (fun _ _ => by simp))
        have HB_11 := Lib.hid hB_11
        have HBW_11 : Hid (Below w.heap.size w w_11) := HbS.out.trans (HB_11.out.mono HsS.out)
        have Hw_11s : Hid (wS.heap.size ≤ w_11.heap.size) := HB_11.out.size
        clear hR_11 hB_11 hg_11 hb_11
        refine hK.out _ _ ((HMS.out.below HBW_11.out HB_11.out).held) (fun hHeld => ?_)
        clear hK K
        refine norm_ (a' := ?_) ?_ ?_
        rotate_left
        · show Act.put _ (some 13) _ = _
          simp only [Act.put, List.setIfInBounds_toArray, List.set_cons_zero, List.set_cons_succ, Go.Proofs.YtiddjadfkpjpdaaGreatDoorW.PrintLast.i64_w, Go.Proofs.YtiddjadfkpjpdaaGreatDoorW.PrintLast.i32_w]
          rfl
        refine two_ (i := 3) (j := 9) (Ni := some 12) (Nj := some 7) #[true, true, true, true, true, true, true, false, false, false, false] #[true, true, true, false, true, true, true, false, false, true, false] rfl rfl rfl rfl (by kernel_rfl) (by decide) (by decide) (fun K hK => ?_) (fun K hK => ?_)
        · refine Kd.R_append_rows_step Kd.string (Rr := Kd.string.K w) (w0 := wS) wS.heap.size (by rfl) (.tmp 9) (.tmp 11) 32 9 (.string ⟨#[]⟩) 16 rfl Tryz.underlying32 info9 rfl (by decide) (by decide) (.slice A9_1 0 c9_1) [] x.f4 A4 x.f4.length c4 (fun _ => True) (fun _ => False) rfl rfl HA_11.out (HX.out.g4.imp_ HBW_11.out (fun _ _ hp => hp)) (fun _ _ h => h) (fun _ h => h.elim) (fun _ _ => trivial) HB_11.out (Hw_11s.out) (by simp; omega) ?_
          intro v_12 w_12 hR_12 hB_12 hg_12 hat_12
          rw [List.nil_append] at hR_12
          obtain ⟨A12_12, c12_12, hv_12⟩ := Kd.R_slice hR_12
          subst hv_12
          have HA_12 := Lib.hid hR_12
          have HL_12 := Lib.hid (Kd.R_over HL_11.out HA_11.out (by simp [Kd.string, Kd.scalar, kS]) hg_12)
          have HB_12 := Lib.hid hB_12
          have HBW_12 : Hid (Below w.heap.size w w_12) := HbS.out.trans (HB_12.out.mono HsS.out)
          have Hw_12s : Hid (wS.heap.size ≤ w_12.heap.size) := HB_12.out.size
          clear hR_12 hB_12 hg_12 hat_12
          refine hK.out _ _ ((HMS.out.below HBW_12.out HB_12.out).held) (fun hHeld => ?_)
          clear hK K
          refine norm_ (a' := ?_) ?_ ?_
          rotate_left
          · show Act.put _ (some 12) _ = _
            simp only [Act.put, List.setIfInBounds_toArray, List.set_cons_zero, List.set_cons_succ, Go.Proofs.YtiddjadfkpjpdaaGreatDoorW.PrintLast.i64_w, Go.Proofs.YtiddjadfkpjpdaaGreatDoorW.PrintLast.i32_w]
            rfl
          refine two_ (i := 7) (j := 9) (Ni := some 16) (Nj := some 7) #[true, true, true, true, true, true, true, true, false, false, false] #[true, true, true, true, true, true, true, false, false, true, false] rfl rfl rfl rfl (by kernel_rfl) (by decide) (by decide) (fun K hK => ?_) (fun K hK => ?_)
          · refine Kd.R_append_rows_step (kS S w) (Rr := (kS S w).K w) (w0 := wS) wS.heap.size (by rfl) (.tmp 13) (.tmp 15) 36 38 (.agg #[(.int .i64 0), (.int .i64 0), (.string ⟨#[]⟩), (.slice none 0 0), (.slice none 0 0)]) 80 rfl Tryz.underlying36 info38 rfl (Nat.succ_pos 4) (by decide) (.slice A13_11 0 c13_11) [] x.f3 A3 x.f3.length c3 (fun _ => True) (fun _ => False) rfl rfl HL_12.out (HX.out.g3.imp_ HBW_12.out (fun _ _ hp => hp)) (fun _ _ h => h) (fun _ h => h.elim) (fun _ _ => trivial) HB_12.out (Hw_12s.out) (by simp; omega) ?_
            intro v_13 w_13 hR_13 hB_13 hg_13 hat_13
            rw [List.nil_append] at hR_13
            obtain ⟨A16_13, c16_13, hv_13⟩ := Kd.R_slice hR_13
            subst hv_13
            have HL_13 := Lib.hid hR_13
            have HA_13 := Lib.hid (Kd.R_over HA_12.out HL_12.out (by simp [Kd.string, Kd.scalar, kS]) hg_13)
            have HB_13 := Lib.hid hB_13
            have HBW_13 : Hid (Below w.heap.size w w_13) := HbS.out.trans (HB_13.out.mono HsS.out)
            have Hw_13s : Hid (wS.heap.size ≤ w_13.heap.size) := HB_13.out.size
            clear hR_13 hB_13 hg_13 hat_13
            refine hK.out _ _ ((HMS.out.below HBW_13.out HB_13.out).held) (fun hHeld => ?_)
            clear hK K
            refine norm_ (a' := ?_) ?_ ?_
            rotate_left
            · show Act.put _ (some 16) _ = _
              simp only [Act.put, List.setIfInBounds_toArray, List.set_cons_zero, List.set_cons_succ, Go.Proofs.YtiddjadfkpjpdaaGreatDoorW.PrintLast.i64_w, Go.Proofs.YtiddjadfkpjpdaaGreatDoorW.PrintLast.i32_w]
              rfl
            refine pure_ (i := 8) (N := some 17) (v := ?_) (a' := ?_) #[true, true, true, true, true, true, true, true, true, false, false] rfl rfl (by kernel_rfl) (fun _ _ _ h => h) (Or.inl ⟨by rfl, ?_⟩) ?_ ?_
            rotate_left
            · intro w'
              go_simp
              with_reducible rfl
            rotate_left
            · simp only [Act.put, List.setIfInBounds_toArray, List.set_cons_zero, List.set_cons_succ, Go.Proofs.YtiddjadfkpjpdaaGreatDoorW.PrintLast.i64_w, Go.Proofs.YtiddjadfkpjpdaaGreatDoorW.PrintLast.i32_w]
              rfl
            refine one_ (i := 9) (N := some 7) #[true, true, true, true, true, true, true, true, true, true, false] rfl rfl (by kernel_rfl) (by decide) (fun K hK => ?_)
            refine box_step (by rfl) (N := 7) rfl (cs := #[.int .i64 0, .int .i64 0, .string ⟨#[]⟩, .slice none 0 0, .slice none 0 0]) (t := 38) (by first | (go_simp; done) | (go_simp; rfl)) ?_
            intro g_14 hge_14 w_14 hG_14 hb_14
            have HG_14 := Lib.hid hG_14
            have HGE_14 : Hid (wS.heap.size ≤ g_14) := by have := Hw_13s.out; show _ ≤ _; omega
            have hg_14 : World.grownBy w_13 w_14 none := ⟨hb_14.os, hb_14.tape, hb_14.output, hb_14.size, fun q hq _ => hb_14.block q hq⟩
            have hB_14 : Below wS.heap.size wS w_14 := HB_13.out.trans (hb_14.mono (Hw_13s.out))
            have HNE_14 : Hid (some g_14 ≠ (Value.slice A16_13 x.f3.length c16_13).ownBlock) := by show some _ ≠ _; intro e; have := Kd.R_lt HL_13.out _ e.symm; omega
            have HA_14 := Lib.hid (Kd.R_grown HA_13.out hg_14 (fun _ _ => by simp))
            have HL_14 := Lib.hid (Kd.R_grown HL_13.out hg_14 (fun _ _ => by simp))
            have HB_14 := Lib.hid hB_14
            have HBW_14 : Hid (Below w.heap.size w w_14) := HbS.out.trans (HB_14.out.mono HsS.out)
            have Hw_14s : Hid (wS.heap.size ≤ w_14.heap.size) := HB_14.out.size
            clear hG_14 hb_14 hg_14 hB_14
            clear hge_14
            refine hK.out _ _ ((HMS.out.below HBW_14.out HB_14.out).held) (fun hHeld => ?_)
            clear hK K
            refine norm_ (a' := ?_) ?_ ?_
            rotate_left
            · show Act.put _ (some 7) _ = _
              simp only [Act.put, List.setIfInBounds_toArray, List.set_cons_zero, List.set_cons_succ, Go.Proofs.YtiddjadfkpjpdaaGreatDoorW.PrintLast.i64_w, Go.Proofs.YtiddjadfkpjpdaaGreatDoorW.PrintLast.i32_w]
              rfl
            exact hJ (A9_1, c9_1, A12_12, c12_12, A13_11, c13_11, A16_13, c16_13, g_14) w_14 ⟨HB_14.out, HA_14.out, HL_14.out, HG_14.out, HGE_14.out, HNE_14.out⟩
          · refine box_step (by rfl) (N := 7) rfl (cs := #[.int .i64 0, .int .i64 0, .string ⟨#[]⟩, .slice none 0 0, .slice none 0 0]) (t := 38) (by first | (go_simp; done) | (go_simp; rfl)) ?_
            intro g_15 hge_15 w_15 hG_15 hb_15
            have HG_15 := Lib.hid hG_15
            have HGE_15 : Hid (wS.heap.size ≤ g_15) := by have := Hw_12s.out; show _ ≤ _; omega
            have hg_15 : World.grownBy w_12 w_15 none := ⟨hb_15.os, hb_15.tape, hb_15.output, hb_15.size, fun q hq _ => hb_15.block q hq⟩
            have hB_15 : Below wS.heap.size wS w_15 := HB_12.out.trans (hb_15.mono (Hw_12s.out))
            have HNE_15 : Hid (some g_15 ≠ (Value.slice A13_11 0 c13_11).ownBlock) := by show some _ ≠ _; intro e; have := Kd.R_lt HL_12.out _ e.symm; omega
            have HA_15 := Lib.hid (Kd.R_grown HA_12.out hg_15 (fun _ _ => by simp))
            have HL_15 := Lib.hid (Kd.R_grown HL_12.out hg_15 (fun _ _ => by simp))
            have HB_15 := Lib.hid hB_15
            have HBW_15 : Hid (Below w.heap.size w w_15) := HbS.out.trans (HB_15.out.mono HsS.out)
            have Hw_15s : Hid (wS.heap.size ≤ w_15.heap.size) := HB_15.out.size
            clear hG_15 hb_15 hg_15 hB_15
            clear hge_15
            refine hK.out _ _ ((HMS.out.below HBW_15.out HB_15.out).held) (fun hHeld => ?_)
            clear hK K
            refine norm_ (a' := ?_) ?_ ?_
            rotate_left
            · show Act.put _ (some 7) _ = _
              simp only [Act.put, List.setIfInBounds_toArray, List.set_cons_zero, List.set_cons_succ, Go.Proofs.YtiddjadfkpjpdaaGreatDoorW.PrintLast.i64_w, Go.Proofs.YtiddjadfkpjpdaaGreatDoorW.PrintLast.i32_w]
              rfl
            refine one_ (i := 7) (N := some 16) #[true, true, true, true, true, true, true, true, false, true, false] rfl rfl (by kernel_rfl) (by decide) (fun K hK => ?_)
            refine Kd.R_append_rows_step (kS S w) (Rr := (kS S w).K w) (w0 := wS) wS.heap.size (by rfl) (.tmp 13) (.tmp 15) 36 38 (.agg #[(.int .i64 0), (.int .i64 0), (.string ⟨#[]⟩), (.slice none 0 0), (.slice none 0 0)]) 80 rfl Tryz.underlying36 info38 rfl (Nat.succ_pos 4) (by decide) (.slice A13_11 0 c13_11) [] x.f3 A3 x.f3.length c3 (fun _ => True) (fun _ => False) rfl rfl HL_15.out (HX.out.g3.imp_ HBW_15.out (fun _ _ hp => hp)) (fun _ _ h => h) (fun _ h => h.elim) (fun _ _ => trivial) HB_15.out (Hw_15s.out) (by simp; omega) ?_
            intro v_16 w_16 hR_16 hB_16 hg_16 hat_16
            rw [List.nil_append] at hR_16
            obtain ⟨A16_16, c16_16, hv_16⟩ := Kd.R_slice hR_16
            subst hv_16
            have HL_16 := Lib.hid hR_16
            have HNE_16 : Hid (some g_15 ≠ (Value.slice A16_16 x.f3.length c16_16).ownBlock) := by
              show some _ ≠ _
              rcases hat_16 with h | ⟨b, hb1, hb2⟩
              · rw [h]; exact HNE_15.out
              · rw [hb1]; intro e; injection e with e; have := blk_lt HG_15.out; omega
            have HA_16 := Lib.hid (Kd.R_over HA_15.out HL_15.out (by simp [Kd.string, Kd.scalar, kS]) hg_16)
            have HG_16 : Hid (w_16.heap[g_15]? = some (.cells #[.int .i64 0, .int .i64 0, .string ⟨#[]⟩, .slice none 0 0, .slice none 0 0] 38 (0, 0))) := (hg_16.block _ (blk_lt HG_15.out) HNE_15.out).trans HG_15.out
            have HB_16 := Lib.hid hB_16
            have HBW_16 : Hid (Below w.heap.size w w_16) := HbS.out.trans (HB_16.out.mono HsS.out)
            have Hw_16s : Hid (wS.heap.size ≤ w_16.heap.size) := HB_16.out.size
            clear hR_16 hB_16 hg_16 hat_16
            refine hK.out _ _ ((HMS.out.below HBW_16.out HB_16.out).held) (fun hHeld => ?_)
            clear hK K
            refine norm_ (a' := ?_) ?_ ?_
            rotate_left
            · show Act.put _ (some 16) _ = _
              simp only [Act.put, List.setIfInBounds_toArray, List.set_cons_zero, List.set_cons_succ, Go.Proofs.YtiddjadfkpjpdaaGreatDoorW.PrintLast.i64_w, Go.Proofs.YtiddjadfkpjpdaaGreatDoorW.PrintLast.i32_w]
              rfl
            refine pure_ (i := 8) (N := some 17) (v := ?_) (a' := ?_) #[true, true, true, true, true, true, true, true, true, true, false] rfl rfl (by kernel_rfl) (fun _ _ _ h => h) (Or.inl ⟨by rfl, ?_⟩) ?_ ?_
            rotate_left
            · intro w'
              go_simp
              with_reducible rfl
            rotate_left
            · simp only [Act.put, List.setIfInBounds_toArray, List.set_cons_zero, List.set_cons_succ, Go.Proofs.YtiddjadfkpjpdaaGreatDoorW.PrintLast.i64_w, Go.Proofs.YtiddjadfkpjpdaaGreatDoorW.PrintLast.i32_w]
              rfl
            exact hJ (A9_1, c9_1, A12_12, c12_12, A13_11, c13_11, A16_16, c16_16, g_15) w_16 ⟨HB_16.out, HA_16.out, HL_16.out, HG_16.out, HGE_15.out, HNE_16.out⟩
        · refine box_step (by rfl) (N := 7) rfl (cs := #[.int .i64 0, .int .i64 0, .string ⟨#[]⟩, .slice none 0 0, .slice none 0 0]) (t := 38) (by first | (go_simp; done) | (go_simp; rfl)) ?_
          intro g_17 hge_17 w_17 hG_17 hb_17
          have HG_17 := Lib.hid hG_17
          have HGE_17 : Hid (wS.heap.size ≤ g_17) := by have := Hw_11s.out; show _ ≤ _; omega
          have hg_17 : World.grownBy w_11 w_17 none := ⟨hb_17.os, hb_17.tape, hb_17.output, hb_17.size, fun q hq _ => hb_17.block q hq⟩
          have hB_17 : Below wS.heap.size wS w_17 := HB_11.out.trans (hb_17.mono (Hw_11s.out))
          have HNE_17 : Hid (some g_17 ≠ (Value.slice A13_11 0 c13_11).ownBlock) := by show some _ ≠ _; intro e; have := Kd.R_lt HL_11.out _ e.symm; omega
          have HA_17 := Lib.hid (Kd.R_grown HA_11.out hg_17 (fun _ _ => by simp))
          have HL_17 := Lib.hid (Kd.R_grown HL_11.out hg_17 (fun _ _ => by simp))
          have HB_17 := Lib.hid hB_17
          have HBW_17 : Hid (Below w.heap.size w w_17) := HbS.out.trans (HB_17.out.mono HsS.out)
          have Hw_17s : Hid (wS.heap.size ≤ w_17.heap.size) := HB_17.out.size
          clear hG_17 hb_17 hg_17 hB_17
          clear hge_17
          refine hK.out _ _ ((HMS.out.below HBW_17.out HB_17.out).held) (fun hHeld => ?_)
          clear hK K
          refine norm_ (a' := ?_) ?_ ?_
          rotate_left
          · show Act.put _ (some 7) _ = _
            simp only [Act.put, List.setIfInBounds_toArray, List.set_cons_zero, List.set_cons_succ, Go.Proofs.YtiddjadfkpjpdaaGreatDoorW.PrintLast.i64_w, Go.Proofs.YtiddjadfkpjpdaaGreatDoorW.PrintLast.i32_w]
            rfl
          refine one_ (i := 3) (N := some 12) #[true, true, true, true, true, true, true, false, false, true, false] rfl rfl (by kernel_rfl) (by decide) (fun K hK => ?_)
          refine Kd.R_append_rows_step Kd.string (Rr := Kd.string.K w) (w0 := wS) wS.heap.size (by rfl) (.tmp 9) (.tmp 11) 32 9 (.string ⟨#[]⟩) 16 rfl Tryz.underlying32 info9 rfl (by decide) (by decide) (.slice A9_1 0 c9_1) [] x.f4 A4 x.f4.length c4 (fun _ => True) (fun _ => False) rfl rfl HA_17.out (HX.out.g4.imp_ HBW_17.out (fun _ _ hp => hp)) (fun _ _ h => h) (fun _ h => h.elim) (fun _ _ => trivial) HB_17.out (Hw_17s.out) (by simp; omega) ?_
          intro v_18 w_18 hR_18 hB_18 hg_18 hat_18
          rw [List.nil_append] at hR_18
          obtain ⟨A12_18, c12_18, hv_18⟩ := Kd.R_slice hR_18
          subst hv_18
          have HA_18 := Lib.hid hR_18
          have HL_18 := Lib.hid (Kd.R_over HL_17.out HA_17.out (by simp [Kd.string, Kd.scalar, kS]) hg_18)
          have HG_18 : Hid (w_18.heap[g_17]? = some (.cells #[.int .i64 0, .int .i64 0, .string ⟨#[]⟩, .slice none 0 0, .slice none 0 0] 38 (0, 0))) := (hg_18.block _ (blk_lt HG_17.out) (Kd.R_ne HA_17.out HG_17.out (by decide))).trans HG_17.out
          have HB_18 := Lib.hid hB_18
          have HBW_18 : Hid (Below w.heap.size w w_18) := HbS.out.trans (HB_18.out.mono HsS.out)
          have Hw_18s : Hid (wS.heap.size ≤ w_18.heap.size) := HB_18.out.size
          clear hR_18 hB_18 hg_18 hat_18
          refine hK.out _ _ ((HMS.out.below HBW_18.out HB_18.out).held) (fun hHeld => ?_)
          clear hK K
          refine norm_ (a' := ?_) ?_ ?_
          rotate_left
          · show Act.put _ (some 12) _ = _
            simp only [Act.put, List.setIfInBounds_toArray, List.set_cons_zero, List.set_cons_succ, Go.Proofs.YtiddjadfkpjpdaaGreatDoorW.PrintLast.i64_w, Go.Proofs.YtiddjadfkpjpdaaGreatDoorW.PrintLast.i32_w]
            rfl
          refine one_ (i := 7) (N := some 16) #[true, true, true, true, true, true, true, true, false, true, false] rfl rfl (by kernel_rfl) (by decide) (fun K hK => ?_)
          refine Kd.R_append_rows_step (kS S w) (Rr := (kS S w).K w) (w0 := wS) wS.heap.size (by rfl) (.tmp 13) (.tmp 15) 36 38 (.agg #[(.int .i64 0), (.int .i64 0), (.string ⟨#[]⟩), (.slice none 0 0), (.slice none 0 0)]) 80 rfl Tryz.underlying36 info38 rfl (Nat.succ_pos 4) (by decide) (.slice A13_11 0 c13_11) [] x.f3 A3 x.f3.length c3 (fun _ => True) (fun _ => False) rfl rfl HL_18.out (HX.out.g3.imp_ HBW_18.out (fun _ _ hp => hp)) (fun _ _ h => h) (fun _ h => h.elim) (fun _ _ => trivial) HB_18.out (Hw_18s.out) (by simp; omega) ?_
          intro v_19 w_19 hR_19 hB_19 hg_19 hat_19
          rw [List.nil_append] at hR_19
          obtain ⟨A16_19, c16_19, hv_19⟩ := Kd.R_slice hR_19
          subst hv_19
          have HL_19 := Lib.hid hR_19
          have HNE_19 : Hid (some g_17 ≠ (Value.slice A16_19 x.f3.length c16_19).ownBlock) := by
            show some _ ≠ _
            rcases hat_19 with h | ⟨b, hb1, hb2⟩
            · rw [h]; exact HNE_17.out
            · rw [hb1]; intro e; injection e with e; have := blk_lt HG_18.out; omega
          have HA_19 := Lib.hid (Kd.R_over HA_18.out HL_18.out (by simp [Kd.string, Kd.scalar, kS]) hg_19)
          have HG_19 : Hid (w_19.heap[g_17]? = some (.cells #[.int .i64 0, .int .i64 0, .string ⟨#[]⟩, .slice none 0 0, .slice none 0 0] 38 (0, 0))) := (hg_19.block _ (blk_lt HG_18.out) HNE_17.out).trans HG_18.out
          have HB_19 := Lib.hid hB_19
          have HBW_19 : Hid (Below w.heap.size w w_19) := HbS.out.trans (HB_19.out.mono HsS.out)
          have Hw_19s : Hid (wS.heap.size ≤ w_19.heap.size) := HB_19.out.size
          clear hR_19 hB_19 hg_19 hat_19
          refine hK.out _ _ ((HMS.out.below HBW_19.out HB_19.out).held) (fun hHeld => ?_)
          clear hK K
          refine norm_ (a' := ?_) ?_ ?_
          rotate_left
          · show Act.put _ (some 16) _ = _
            simp only [Act.put, List.setIfInBounds_toArray, List.set_cons_zero, List.set_cons_succ, Go.Proofs.YtiddjadfkpjpdaaGreatDoorW.PrintLast.i64_w, Go.Proofs.YtiddjadfkpjpdaaGreatDoorW.PrintLast.i32_w]
            rfl
          refine pure_ (i := 8) (N := some 17) (v := ?_) (a' := ?_) #[true, true, true, true, true, true, true, true, true, true, false] rfl rfl (by kernel_rfl) (fun _ _ _ h => h) (Or.inl ⟨by rfl, ?_⟩) ?_ ?_
          rotate_left
          · intro w'
            go_simp
            with_reducible rfl
          rotate_left
          · simp only [Act.put, List.setIfInBounds_toArray, List.set_cons_zero, List.set_cons_succ, Go.Proofs.YtiddjadfkpjpdaaGreatDoorW.PrintLast.i64_w, Go.Proofs.YtiddjadfkpjpdaaGreatDoorW.PrintLast.i32_w]
            rfl
          exact hJ (A9_1, c9_1, A12_18, c12_18, A13_11, c13_11, A16_19, c16_19, g_17) w_19 ⟨HB_19.out, HA_19.out, HL_19.out, HG_19.out, HGE_17.out, HNE_19.out⟩
      · refine box_step (by rfl) (N := 7) rfl (cs := #[.int .i64 0, .int .i64 0, .string ⟨#[]⟩, .slice none 0 0, .slice none 0 0]) (t := 38) (by first | (go_simp; done) | (go_simp; rfl)) ?_
        intro g_20 hge_20 w_20 hG_20 hb_20
        have HG_20 := Lib.hid hG_20
        have HGE_20 : Hid (wS.heap.size ≤ g_20) := by have := Hw_1s.out; show _ ≤ _; omega
        have hg_20 : World.grownBy w_1 w_20 none := ⟨hb_20.os, hb_20.tape, hb_20.output, hb_20.size, fun q hq _ => hb_20.block q hq⟩
        have hB_20 : Below wS.heap.size wS w_20 := HB_1.out.trans (hb_20.mono (Hw_1s.out))
        have HA_20 := Lib.hid (Kd.R_grown HA_1.out hg_20 (fun _ _ => by simp))
        have HB_20 := Lib.hid hB_20
        have HBW_20 : Hid (Below w.heap.size w w_20) := HbS.out.trans (HB_20.out.mono HsS.out)
        have Hw_20s : Hid (wS.heap.size ≤ w_20.heap.size) := HB_20.out.size
        clear hG_20 hb_20 hg_20 hB_20
        clear hge_20
        refine hK.out _ _ ((HMS.out.below HBW_20.out HB_20.out).held) (fun hHeld => ?_)
        clear hK K
        refine norm_ (a' := ?_) ?_ ?_
        rotate_left
        · show Act.put _ (some 7) _ = _
          simp only [Act.put, List.setIfInBounds_toArray, List.set_cons_zero, List.set_cons_succ, Go.Proofs.YtiddjadfkpjpdaaGreatDoorW.PrintLast.i64_w, Go.Proofs.YtiddjadfkpjpdaaGreatDoorW.PrintLast.i32_w]
          rfl
        refine two_ (i := 3) (j := 4) (Ni := some 12) (Nj := some 13) #[true, true, true, true, false, true, true, false, false, true, false] #[true, true, true, false, true, true, true, false, false, true, false] rfl rfl rfl rfl (by kernel_rfl) (by decide) (by decide) (fun K hK => ?_) (fun K hK => ?_)
        · refine Kd.R_append_rows_step Kd.string (Rr := Kd.string.K w) (w0 := wS) wS.heap.size (by rfl) (.tmp 9) (.tmp 11) 32 9 (.string ⟨#[]⟩) 16 rfl Tryz.underlying32 info9 rfl (by decide) (by decide) (.slice A9_1 0 c9_1) [] x.f4 A4 x.f4.length c4 (fun _ => True) (fun _ => False) rfl rfl HA_20.out (HX.out.g4.imp_ HBW_20.out (fun _ _ hp => hp)) (fun _ _ h => h) (fun _ h => h.elim) (fun _ _ => trivial) HB_20.out (Hw_20s.out) (by simp; omega) ?_
          intro v_21 w_21 hR_21 hB_21 hg_21 hat_21
          rw [List.nil_append] at hR_21
          obtain ⟨A12_21, c12_21, hv_21⟩ := Kd.R_slice hR_21
          subst hv_21
          have HA_21 := Lib.hid hR_21
          have HG_21 : Hid (w_21.heap[g_20]? = some (.cells #[.int .i64 0, .int .i64 0, .string ⟨#[]⟩, .slice none 0 0, .slice none 0 0] 38 (0, 0))) := (hg_21.block _ (blk_lt HG_20.out) (Kd.R_ne HA_20.out HG_20.out (by decide))).trans HG_20.out
          have HB_21 := Lib.hid hB_21
          have HBW_21 : Hid (Below w.heap.size w w_21) := HbS.out.trans (HB_21.out.mono HsS.out)
          have Hw_21s : Hid (wS.heap.size ≤ w_21.heap.size) := HB_21.out.size
          clear hR_21 hB_21 hg_21 hat_21
          refine hK.out _ _ ((HMS.out.below HBW_21.out HB_21.out).held) (fun hHeld => ?_)
          clear hK K
          refine norm_ (a' := ?_) ?_ ?_
          rotate_left
          · show Act.put _ (some 12) _ = _
            simp only [Act.put, List.setIfInBounds_toArray, List.set_cons_zero, List.set_cons_succ, Go.Proofs.YtiddjadfkpjpdaaGreatDoorW.PrintLast.i64_w, Go.Proofs.YtiddjadfkpjpdaaGreatDoorW.PrintLast.i32_w]
            rfl
          refine one_ (i := 4) (N := some 13) #[true, true, true, true, true, true, true, false, false, true, false] rfl rfl (by kernel_rfl) (by decide) (fun K hK => ?_)
          refine Kd.R_lit_step (kS S w) (w0 := wS) wS.heap.size 38 (by rfl) (N := 13) rfl (xs := []) (inner := []) (ok := fun _ => True) (okp := fun _ => True) (by first | (go_simp; done) | (go_simp; rfl)) (Reps.none _ _) (fun _ h => h) trivial HB_21.out (Hw_21s.out) (by decide) ?_
          intro v_22 w_22 hR_22 hB_22 hg_22 hb_22
          obtain ⟨A13_22, c13_22, hv_22⟩ := Kd.R_slice hR_22
          subst hv_22
          have HL_22 := Lib.hid hR_22
          have HNE_22 : Hid (some g_20 ≠ (Value.slice A13_22 0 c13_22).ownBlock) := by
            obtain ⟨b, hb1, hb2⟩ := hb_22
            have := blk_lt HG_21.out
            show some _ ≠ _
            simp only [List.length_nil] at hb1
            rw [hb1]; intro e; injection e with e; omega
          have HA_22 := Lib.hid (Kd.R_grown HA_21.out hg_22 (fun _ _ => by simp))
          have HG_22 : Hid (w_22.heap[g_20]? = some (.cells #[.int .i64 0, .int .i64 0, .string ⟨#[]⟩, .slice none 0 0, .slice none 0 0] 38 (0, 0))) := (hg_22.block _ (blk_lt HG_21.out) (by simp)).trans HG_21.out
          have HB_22 := Lib.hid hB_22
          have HBW_22 : Hid (Below w.heap.size w w_22) := HbS.out.trans (HB_22.out.mono HsS.out)
          have Hw_22s : Hid (wS.heap.size ≤ w_22.heap.size) := HB_22.out.size
          clear hR_22 hB_22 hg_22 hb_22
          refine hK.out _ _ ((HMS.out.below HBW_22.out HB_22.out).held) (fun hHeld => ?_)
          clear hK K
          refine norm_ (a' := ?_) ?_ ?_
          rotate_left
          · show Act.put _ (some 13) _ = _
            simp only [Act.put, List.setIfInBounds_toArray, List.set_cons_zero, List.set_cons_succ, Go.Proofs.YtiddjadfkpjpdaaGreatDoorW.PrintLast.i64_w, Go.Proofs.YtiddjadfkpjpdaaGreatDoorW.PrintLast.i32_w]
            rfl
          refine one_ (i := 7) (N := some 16) #[true, true, true, true, true, true, true, true, false, true, false] rfl rfl (by kernel_rfl) (by decide) (fun K hK => ?_)
          refine Kd.R_append_rows_step (kS S w) (Rr := (kS S w).K w) (w0 := wS) wS.heap.size (by rfl) (.tmp 13) (.tmp 15) 36 38 (.agg #[(.int .i64 0), (.int .i64 0), (.string ⟨#[]⟩), (.slice none 0 0), (.slice none 0 0)]) 80 rfl Tryz.underlying36 info38 rfl (Nat.succ_pos 4) (by decide) (.slice A13_22 0 c13_22) [] x.f3 A3 x.f3.length c3 (fun _ => True) (fun _ => False) rfl rfl HL_22.out (HX.out.g3.imp_ HBW_22.out (fun _ _ hp => hp)) (fun _ _ h => h) (fun _ h => h.elim) (fun _ _ => trivial) HB_22.out (Hw_22s.out) (by simp; omega) ?_
          intro v_23 w_23 hR_23 hB_23 hg_23 hat_23
          rw [List.nil_append] at hR_23
          obtain ⟨A16_23, c16_23, hv_23⟩ := Kd.R_slice hR_23
          subst hv_23
          have HL_23 := Lib.hid hR_23
          have HNE_23 : Hid (some g_20 ≠ (Value.slice A16_23 x.f3.length c16_23).ownBlock) := by
            show some _ ≠ _
            rcases hat_23 with h | ⟨b, hb1, hb2⟩
            · rw [h]; exact HNE_22.out
            · rw [hb1]; intro e; injection e with e; have := blk_lt HG_22.out; omega
          have HA_23 := Lib.hid (Kd.R_over HA_22.out HL_22.out (by simp [Kd.string, Kd.scalar, kS]) hg_23)
          have HG_23 : Hid (w_23.heap[g_20]? = some (.cells #[.int .i64 0, .int .i64 0, .string ⟨#[]⟩, .slice none 0 0, .slice none 0 0] 38 (0, 0))) := (hg_23.block _ (blk_lt HG_22.out) HNE_22.out).trans HG_22.out
          have HB_23 := Lib.hid hB_23
          have HBW_23 : Hid (Below w.heap.size w w_23) := HbS.out.trans (HB_23.out.mono HsS.out)
          have Hw_23s : Hid (wS.heap.size ≤ w_23.heap.size) := HB_23.out.size
          clear hR_23 hB_23 hg_23 hat_23
          refine hK.out _ _ ((HMS.out.below HBW_23.out HB_23.out).held) (fun hHeld => ?_)
          clear hK K
          refine norm_ (a' := ?_) ?_ ?_
          rotate_left
          · show Act.put _ (some 16) _ = _
            simp only [Act.put, List.setIfInBounds_toArray, List.set_cons_zero, List.set_cons_succ, Go.Proofs.YtiddjadfkpjpdaaGreatDoorW.PrintLast.i64_w, Go.Proofs.YtiddjadfkpjpdaaGreatDoorW.PrintLast.i32_w]
            rfl
          refine pure_ (i := 8) (N := some 17) (v := ?_) (a' := ?_) #[true, true, true, true, true, true, true, true, true, true, false] rfl rfl (by kernel_rfl) (fun _ _ _ h => h) (Or.inl ⟨by rfl, ?_⟩) ?_ ?_
          rotate_left
          · intro w'
            go_simp
            with_reducible rfl
          rotate_left
          · simp only [Act.put, List.setIfInBounds_toArray, List.set_cons_zero, List.set_cons_succ, Go.Proofs.YtiddjadfkpjpdaaGreatDoorW.PrintLast.i64_w, Go.Proofs.YtiddjadfkpjpdaaGreatDoorW.PrintLast.i32_w]
            rfl
          exact hJ (A9_1, c9_1, A12_21, c12_21, A13_22, c13_22, A16_23, c16_23, g_20) w_23 ⟨HB_23.out, HA_23.out, HL_23.out, HG_23.out, HGE_20.out, HNE_23.out⟩
        · refine Kd.R_lit_step (kS S w) (w0 := wS) wS.heap.size 38 (by rfl) (N := 13) rfl (xs := []) (inner := []) (ok := fun _ => True) (okp := fun _ => True) (by first | (go_simp; done) | (go_simp; rfl)) (Reps.none _ _) (fun _ h => h) trivial HB_20.out (Hw_20s.out) (by decide) ?_
          intro v_24 w_24 hR_24 hB_24 hg_24 hb_24
          obtain ⟨A13_24, c13_24, hv_24⟩ := Kd.R_slice hR_24
          subst hv_24
          have HL_24 := Lib.hid hR_24
          have HNE_24 : Hid (some g_20 ≠ (Value.slice A13_24 0 c13_24).ownBlock) := by
            obtain ⟨b, hb1, hb2⟩ := hb_24
            have := blk_lt HG_20.out
            show some _ ≠ _
            simp only [List.length_nil] at hb1
            rw [hb1]; intro e; injection e with e; omega
          have HA_24 := Lib.hid (Kd.R_grown HA_20.out hg_24 (fun _ _ => by simp))
          have HG_24 : Hid (w_24.heap[g_20]? = some (.cells #[.int .i64 0, .int .i64 0, .string ⟨#[]⟩, .slice none 0 0, .slice none 0 0] 38 (0, 0))) := (hg_24.block _ (blk_lt HG_20.out) (by simp)).trans HG_20.out
          have HB_24 := Lib.hid hB_24
          have HBW_24 : Hid (Below w.heap.size w w_24) := HbS.out.trans (HB_24.out.mono HsS.out)
          have Hw_24s : Hid (wS.heap.size ≤ w_24.heap.size) := HB_24.out.size
          clear hR_24 hB_24 hg_24 hb_24
          refine hK.out _ _ ((HMS.out.below HBW_24.out HB_24.out).held) (fun hHeld => ?_)
          clear hK K
          refine norm_ (a' := ?_) ?_ ?_
          rotate_left
          · show Act.put _ (some 13) _ = _
            simp only [Act.put, List.setIfInBounds_toArray, List.set_cons_zero, List.set_cons_succ, Go.Proofs.YtiddjadfkpjpdaaGreatDoorW.PrintLast.i64_w, Go.Proofs.YtiddjadfkpjpdaaGreatDoorW.PrintLast.i32_w]
            rfl
          refine one_ (i := 3) (N := some 12) #[true, true, true, true, true, true, true, false, false, true, false] rfl rfl (by kernel_rfl) (by decide) (fun K hK => ?_)
          refine Kd.R_append_rows_step Kd.string (Rr := Kd.string.K w) (w0 := wS) wS.heap.size (by rfl) (.tmp 9) (.tmp 11) 32 9 (.string ⟨#[]⟩) 16 rfl Tryz.underlying32 info9 rfl (by decide) (by decide) (.slice A9_1 0 c9_1) [] x.f4 A4 x.f4.length c4 (fun _ => True) (fun _ => False) rfl rfl HA_24.out (HX.out.g4.imp_ HBW_24.out (fun _ _ hp => hp)) (fun _ _ h => h) (fun _ h => h.elim) (fun _ _ => trivial) HB_24.out (Hw_24s.out) (by simp; omega) ?_
          intro v_25 w_25 hR_25 hB_25 hg_25 hat_25
          rw [List.nil_append] at hR_25
          obtain ⟨A12_25, c12_25, hv_25⟩ := Kd.R_slice hR_25
          subst hv_25
          have HA_25 := Lib.hid hR_25
          have HL_25 := Lib.hid (Kd.R_over HL_24.out HA_24.out (by simp [Kd.string, Kd.scalar, kS]) hg_25)
          have HG_25 : Hid (w_25.heap[g_20]? = some (.cells #[.int .i64 0, .int .i64 0, .string ⟨#[]⟩, .slice none 0 0, .slice none 0 0] 38 (0, 0))) := (hg_25.block _ (blk_lt HG_24.out) (Kd.R_ne HA_24.out HG_24.out (by decide))).trans HG_24.out
          have HB_25 := Lib.hid hB_25
          have HBW_25 : Hid (Below w.heap.size w w_25) := HbS.out.trans (HB_25.out.mono HsS.out)
          have Hw_25s : Hid (wS.heap.size ≤ w_25.heap.size) := HB_25.out.size
          clear hR_25 hB_25 hg_25 hat_25
          refine hK.out _ _ ((HMS.out.below HBW_25.out HB_25.out).held) (fun hHeld => ?_)
          clear hK K
          refine norm_ (a' := ?_) ?_ ?_
          rotate_left
          · show Act.put _ (some 12) _ = _
            simp only [Act.put, List.setIfInBounds_toArray, List.set_cons_zero, List.set_cons_succ, Go.Proofs.YtiddjadfkpjpdaaGreatDoorW.PrintLast.i64_w, Go.Proofs.YtiddjadfkpjpdaaGreatDoorW.PrintLast.i32_w]
            rfl
          refine one_ (i := 7) (N := some 16) #[true, true, true, true, true, true, true, true, false, true, false] rfl rfl (by kernel_rfl) (by decide) (fun K hK => ?_)
          refine Kd.R_append_rows_step (kS S w) (Rr := (kS S w).K w) (w0 := wS) wS.heap.size (by rfl) (.tmp 13) (.tmp 15) 36 38 (.agg #[(.int .i64 0), (.int .i64 0), (.string ⟨#[]⟩), (.slice none 0 0), (.slice none 0 0)]) 80 rfl Tryz.underlying36 info38 rfl (Nat.succ_pos 4) (by decide) (.slice A13_24 0 c13_24) [] x.f3 A3 x.f3.length c3 (fun _ => True) (fun _ => False) rfl rfl HL_25.out (HX.out.g3.imp_ HBW_25.out (fun _ _ hp => hp)) (fun _ _ h => h) (fun _ h => h.elim) (fun _ _ => trivial) HB_25.out (Hw_25s.out) (by simp; omega) ?_
          intro v_26 w_26 hR_26 hB_26 hg_26 hat_26
          rw [List.nil_append] at hR_26
          obtain ⟨A16_26, c16_26, hv_26⟩ := Kd.R_slice hR_26
          subst hv_26
          have HL_26 := Lib.hid hR_26
          have HNE_26 : Hid (some g_20 ≠ (Value.slice A16_26 x.f3.length c16_26).ownBlock) := by
            show some _ ≠ _
            rcases hat_26 with h | ⟨b, hb1, hb2⟩
            · rw [h]; exact HNE_24.out
            · rw [hb1]; intro e; injection e with e; have := blk_lt HG_25.out; omega
          have HA_26 := Lib.hid (Kd.R_over HA_25.out HL_25.out (by simp [Kd.string, Kd.scalar, kS]) hg_26)
          have HG_26 : Hid (w_26.heap[g_20]? = some (.cells #[.int .i64 0, .int .i64 0, .string ⟨#[]⟩, .slice none 0 0, .slice none 0 0] 38 (0, 0))) := (hg_26.block _ (blk_lt HG_25.out) HNE_24.out).trans HG_25.out
          have HB_26 := Lib.hid hB_26
          have HBW_26 : Hid (Below w.heap.size w w_26) := HbS.out.trans (HB_26.out.mono HsS.out)
          have Hw_26s : Hid (wS.heap.size ≤ w_26.heap.size) := HB_26.out.size
          clear hR_26 hB_26 hg_26 hat_26
          refine hK.out _ _ ((HMS.out.below HBW_26.out HB_26.out).held) (fun hHeld => ?_)
          clear hK K
          refine norm_ (a' := ?_) ?_ ?_
          rotate_left
          · show Act.put _ (some 16) _ = _
            simp only [Act.put, List.setIfInBounds_toArray, List.set_cons_zero, List.set_cons_succ, Go.Proofs.YtiddjadfkpjpdaaGreatDoorW.PrintLast.i64_w, Go.Proofs.YtiddjadfkpjpdaaGreatDoorW.PrintLast.i32_w]
            rfl
          refine pure_ (i := 8) (N := some 17) (v := ?_) (a' := ?_) #[true, true, true, true, true, true, true, true, true, true, false] rfl rfl (by kernel_rfl) (fun _ _ _ h => h) (Or.inl ⟨by rfl, ?_⟩) ?_ ?_
          rotate_left
          · intro w'
            go_simp
            with_reducible rfl
          rotate_left
          · simp only [Act.put, List.setIfInBounds_toArray, List.set_cons_zero, List.set_cons_succ, Go.Proofs.YtiddjadfkpjpdaaGreatDoorW.PrintLast.i64_w, Go.Proofs.YtiddjadfkpjpdaaGreatDoorW.PrintLast.i32_w]
            rfl
          exact hJ (A9_1, c9_1, A12_25, c12_25, A13_24, c13_24, A16_26, c16_26, g_20) w_26 ⟨HB_26.out, HA_26.out, HL_26.out, HG_26.out, HGE_20.out, HNE_26.out⟩
    · refine Kd.R_lit_step (kS S w) (w0 := wS) wS.heap.size 38 (by rfl) (N := 13) rfl (xs := []) (inner := []) (ok := fun _ => True) (okp := fun _ => True) (by first | (go_simp; done) | (go_simp; rfl)) (Reps.none _ _) (fun _ h => h) trivial HS0.out (HwSs.out) (by decide) ?_
      intro v_27 w_27 hR_27 hB_27 hg_27 hb_27
      obtain ⟨A13_27, c13_27, hv_27⟩ := Kd.R_slice hR_27
      subst hv_27
      have HL_27 := Lib.hid hR_27
      have HB_27 := Lib.hid hB_27
      have HBW_27 : Hid (Below w.heap.size w w_27) := HbS.out.trans (HB_27.out.mono HsS.out)
      have Hw_27s : Hid (wS.heap.size ≤ w_27.heap.size) := HB_27.out.size
      clear hR_27 hB_27 hg_27 hb_27
      refine hK.out _ _ ((HMS.out.below HBW_27.out HB_27.out).held) (fun hHeld => ?_)
      clear hK K
      refine norm_ (a' := ?_) ?_ ?_
      rotate_left
      · show Act.put _ (some 13) _ = _
        simp only [Act.put, List.setIfInBounds_toArray, List.set_cons_zero, List.set_cons_succ, Go.Proofs.YtiddjadfkpjpdaaGreatDoorW.PrintLast.i64_w, Go.Proofs.YtiddjadfkpjpdaaGreatDoorW.PrintLast.i32_w]
        rfl
      refine two_ (i := 0) (j := 9) (Ni := some 9) (Nj := some 7) #[true, true, true, false, true, true, true, false, false, false, false] #[false, true, true, false, true, true, true, false, false, true, false] rfl rfl rfl rfl (by kernel_rfl) (by decide) (by decide) (fun K hK => ?_) (fun K hK => ?_)
      · refine Kd.R_lit_step Kd.string (w0 := wS) wS.heap.size 9 (by rfl) (N := 9) rfl (xs := []) (inner := []) (ok := fun _ => True) (okp := fun _ => True) (by first | (go_simp; done) | (go_simp; rfl)) (Reps.none _ _) (fun _ h => h) trivial HB_27.out (Hw_27s.out) (by decide) ?_
        intro v_28 w_28 hR_28 hB_28 hg_28 hb_28
        obtain ⟨A9_28, c9_28, hv_28⟩ := Kd.R_slice hR_28
        subst hv_28
        have HA_28 := Lib.hid hR_28
        have HL_28 := Lib.hid (Kd.R_grown HL_27.out hg_28 (fun _ _ => by simp))
        have HB_28 := Lib.hid hB_28
        have HBW_28 : Hid (Below w.heap.size w w_28) := HbS.out.trans (HB_28.out.mono HsS.out)
        have Hw_28s : Hid (wS.heap.size ≤ w_28.heap.size) := HB_28.out.size
        clear hR_28 hB_28 hg_28 hb_28
        refine hK.out _ _ ((HMS.out.below HBW_28.out HB_28.out).held) (fun hHeld => ?_)
        clear hK K
        refine norm_ (a' := ?_) ?_ ?_
        rotate_left
        · show Act.put _ (some 9) _ = _
          simp only [Act.put, List.setIfInBounds_toArray, List.set_cons_zero, List.set_cons_succ, Go.Proofs.YtiddjadfkpjpdaaGreatDoorW.PrintLast.i64_w, Go.Proofs.YtiddjadfkpjpdaaGreatDoorW.PrintLast.i32_w]
          rfl
        refine two_ (i := 3) (j := 9) (Ni := some 12) (Nj := some 7) #[true, true, true, true, true, true, true, false, false, false, false] #[true, true, true, false, true, true, true, false, false, true, false] rfl rfl rfl rfl (by kernel_rfl) (by decide) (by decide) (fun K hK => ?_) (fun K hK => ?_)
        · refine Kd.R_append_rows_step Kd.string (Rr := Kd.string.K w) (w0 := wS) wS.heap.size (by rfl) (.tmp 9) (.tmp 11) 32 9 (.string ⟨#[]⟩) 16 rfl Tryz.underlying32 info9 rfl (by decide) (by decide) (.slice A9_28 0 c9_28) [] x.f4 A4 x.f4.length c4 (fun _ => True) (fun _ => False) rfl rfl HA_28.out (HX.out.g4.imp_ HBW_28.out (fun _ _ hp => hp)) (fun _ _ h => h) (fun _ h => h.elim) (fun _ _ => trivial) HB_28.out (Hw_28s.out) (by simp; omega) ?_
          intro v_29 w_29 hR_29 hB_29 hg_29 hat_29
          rw [List.nil_append] at hR_29
          obtain ⟨A12_29, c12_29, hv_29⟩ := Kd.R_slice hR_29
          subst hv_29
          have HA_29 := Lib.hid hR_29
          have HL_29 := Lib.hid (Kd.R_over HL_28.out HA_28.out (by simp [Kd.string, Kd.scalar, kS]) hg_29)
          have HB_29 := Lib.hid hB_29
          have HBW_29 : Hid (Below w.heap.size w w_29) := HbS.out.trans (HB_29.out.mono HsS.out)
          have Hw_29s : Hid (wS.heap.size ≤ w_29.heap.size) := HB_29.out.size
          clear hR_29 hB_29 hg_29 hat_29
          refine hK.out _ _ ((HMS.out.below HBW_29.out HB_29.out).held) (fun hHeld => ?_)
          clear hK K
          refine norm_ (a' := ?_) ?_ ?_
          rotate_left
          · show Act.put _ (some 12) _ = _
            simp only [Act.put, List.setIfInBounds_toArray, List.set_cons_zero, List.set_cons_succ, Go.Proofs.YtiddjadfkpjpdaaGreatDoorW.PrintLast.i64_w, Go.Proofs.YtiddjadfkpjpdaaGreatDoorW.PrintLast.i32_w]
            rfl
          refine two_ (i := 7) (j := 9) (Ni := some 16) (Nj := some 7) #[true, true, true, true, true, true, true, true, false, false, false] #[true, true, true, true, true, true, true, false, false, true, false] rfl rfl rfl rfl (by kernel_rfl) (by decide) (by decide) (fun K hK => ?_) (fun K hK => ?_)
          · refine Kd.R_append_rows_step (kS S w) (Rr := (kS S w).K w) (w0 := wS) wS.heap.size (by rfl) (.tmp 13) (.tmp 15) 36 38 (.agg #[(.int .i64 0), (.int .i64 0), (.string ⟨#[]⟩), (.slice none 0 0), (.slice none 0 0)]) 80 rfl Tryz.underlying36 info38 rfl (Nat.succ_pos 4) (by decide) (.slice A13_27 0 c13_27) [] x.f3 A3 x.f3.length c3 (fun _ => True) (fun _ => False) rfl rfl HL_29.out (HX.out.g3.imp_ HBW_29.out (fun _ _ hp => hp)) (fun _ _ h => h) (fun _ h => h.elim) (fun _ _ => trivial) HB_29.out (Hw_29s.out) (by simp; omega) ?_
            intro v_30 w_30 hR_30 hB_30 hg_30 hat_30
            rw [List.nil_append] at hR_30
            obtain ⟨A16_30, c16_30, hv_30⟩ := Kd.R_slice hR_30
            subst hv_30
            have HL_30 := Lib.hid hR_30
            have HA_30 := Lib.hid (Kd.R_over HA_29.out HL_29.out (by simp [Kd.string, Kd.scalar, kS]) hg_30)
            have HB_30 := Lib.hid hB_30
            have HBW_30 : Hid (Below w.heap.size w w_30) := HbS.out.trans (HB_30.out.mono HsS.out)
            have Hw_30s : Hid (wS.heap.size ≤ w_30.heap.size) := HB_30.out.size
            clear hR_30 hB_30 hg_30 hat_30
            refine hK.out _ _ ((HMS.out.below HBW_30.out HB_30.out).held) (fun hHeld => ?_)
            clear hK K
            refine norm_ (a' := ?_) ?_ ?_
            rotate_left
            · show Act.put _ (some 16) _ = _
              simp only [Act.put, List.setIfInBounds_toArray, List.set_cons_zero, List.set_cons_succ, Go.Proofs.YtiddjadfkpjpdaaGreatDoorW.PrintLast.i64_w, Go.Proofs.YtiddjadfkpjpdaaGreatDoorW.PrintLast.i32_w]
              rfl
            refine pure_ (i := 8) (N := some 17) (v := ?_) (a' := ?_) #[true, true, true, true, true, true, true, true, true, false, false] rfl rfl (by kernel_rfl) (fun _ _ _ h => h) (Or.inl ⟨by rfl, ?_⟩) ?_ ?_
            rotate_left
            · intro w'
              go_simp
              with_reducible rfl
            rotate_left
            · simp only [Act.put, List.setIfInBounds_toArray, List.set_cons_zero, List.set_cons_succ, Go.Proofs.YtiddjadfkpjpdaaGreatDoorW.PrintLast.i64_w, Go.Proofs.YtiddjadfkpjpdaaGreatDoorW.PrintLast.i32_w]
              rfl
            refine one_ (i := 9) (N := some 7) #[true, true, true, true, true, true, true, true, true, true, false] rfl rfl (by kernel_rfl) (by decide) (fun K hK => ?_)
            refine box_step (by rfl) (N := 7) rfl (cs := #[.int .i64 0, .int .i64 0, .string ⟨#[]⟩, .slice none 0 0, .slice none 0 0]) (t := 38) (by first | (go_simp; done) | (go_simp; rfl)) ?_
            intro g_31 hge_31 w_31 hG_31 hb_31
            have HG_31 := Lib.hid hG_31
            have HGE_31 : Hid (wS.heap.size ≤ g_31) := by have := Hw_30s.out; show _ ≤ _; omega
            have hg_31 : World.grownBy w_30 w_31 none := ⟨hb_31.os, hb_31.tape, hb_31.output, hb_31.size, fun q hq _ => hb_31.block q hq⟩
            have hB_31 : Below wS.heap.size wS w_31 := HB_30.out.trans (hb_31.mono (Hw_30s.out))
            have HNE_31 : Hid (some g_31 ≠ (Value.slice A16_30 x.f3.length c16_30).ownBlock) := by show some _ ≠ _; intro e; have := Kd.R_lt HL_30.out _ e.symm; omega
            have HA_31 := Lib.hid (Kd.R_grown HA_30.out hg_31 (fun _ _ => by simp))
            have HL_31 := Lib.hid (Kd.R_grown HL_30.out hg_31 (fun _ _ => by simp))
            have HB_31 := Lib.hid hB_31
            have HBW_31 : Hid (Below w.heap.size w w_31) := HbS.out.trans (HB_31.out.mono HsS.out)
            have Hw_31s : Hid (wS.heap.size ≤ w_31.heap.size) := HB_31.out.size
            clear hG_31 hb_31 hg_31 hB_31
            clear hge_31
            refine hK.out _ _ ((HMS.out.below HBW_31.out HB_31.out).held) (fun hHeld => ?_)
            clear hK K
            refine norm_ (a' := ?_) ?_ ?_
            rotate_left
            · show Act.put _ (some 7) _ = _
              simp only [Act.put, List.setIfInBounds_toArray, List.set_cons_zero, List.set_cons_succ, Go.Proofs.YtiddjadfkpjpdaaGreatDoorW.PrintLast.i64_w, Go.Proofs.YtiddjadfkpjpdaaGreatDoorW.PrintLast.i32_w]
              rfl
            exact hJ (A9_28, c9_28, A12_29, c12_29, A13_27, c13_27, A16_30, c16_30, g_31) w_31 ⟨HB_31.out, HA_31.out, HL_31.out, HG_31.out, HGE_31.out, HNE_31.out⟩
          · refine box_step (by rfl) (N := 7) rfl (cs := #[.int .i64 0, .int .i64 0, .string ⟨#[]⟩, .slice none 0 0, .slice none 0 0]) (t := 38) (by first | (go_simp; done) | (go_simp; rfl)) ?_
            intro g_32 hge_32 w_32 hG_32 hb_32
            have HG_32 := Lib.hid hG_32
            have HGE_32 : Hid (wS.heap.size ≤ g_32) := by have := Hw_29s.out; show _ ≤ _; omega
            have hg_32 : World.grownBy w_29 w_32 none := ⟨hb_32.os, hb_32.tape, hb_32.output, hb_32.size, fun q hq _ => hb_32.block q hq⟩
            have hB_32 : Below wS.heap.size wS w_32 := HB_29.out.trans (hb_32.mono (Hw_29s.out))
            have HNE_32 : Hid (some g_32 ≠ (Value.slice A13_27 0 c13_27).ownBlock) := by show some _ ≠ _; intro e; have := Kd.R_lt HL_29.out _ e.symm; omega
            have HA_32 := Lib.hid (Kd.R_grown HA_29.out hg_32 (fun _ _ => by simp))
            have HL_32 := Lib.hid (Kd.R_grown HL_29.out hg_32 (fun _ _ => by simp))
            have HB_32 := Lib.hid hB_32
            have HBW_32 : Hid (Below w.heap.size w w_32) := HbS.out.trans (HB_32.out.mono HsS.out)
            have Hw_32s : Hid (wS.heap.size ≤ w_32.heap.size) := HB_32.out.size
            clear hG_32 hb_32 hg_32 hB_32
            clear hge_32
            refine hK.out _ _ ((HMS.out.below HBW_32.out HB_32.out).held) (fun hHeld => ?_)
            clear hK K
            refine norm_ (a' := ?_) ?_ ?_
            rotate_left
            · show Act.put _ (some 7) _ = _
              simp only [Act.put, List.setIfInBounds_toArray, List.set_cons_zero, List.set_cons_succ, Go.Proofs.YtiddjadfkpjpdaaGreatDoorW.PrintLast.i64_w, Go.Proofs.YtiddjadfkpjpdaaGreatDoorW.PrintLast.i32_w]
              rfl
            refine one_ (i := 7) (N := some 16) #[true, true, true, true, true, true, true, true, false, true, false] rfl rfl (by kernel_rfl) (by decide) (fun K hK => ?_)
            refine Kd.R_append_rows_step (kS S w) (Rr := (kS S w).K w) (w0 := wS) wS.heap.size (by rfl) (.tmp 13) (.tmp 15) 36 38 (.agg #[(.int .i64 0), (.int .i64 0), (.string ⟨#[]⟩), (.slice none 0 0), (.slice none 0 0)]) 80 rfl Tryz.underlying36 info38 rfl (Nat.succ_pos 4) (by decide) (.slice A13_27 0 c13_27) [] x.f3 A3 x.f3.length c3 (fun _ => True) (fun _ => False) rfl rfl HL_32.out (HX.out.g3.imp_ HBW_32.out (fun _ _ hp => hp)) (fun _ _ h => h) (fun _ h => h.elim) (fun _ _ => trivial) HB_32.out (Hw_32s.out) (by simp; omega) ?_
            intro v_33 w_33 hR_33 hB_33 hg_33 hat_33
            rw [List.nil_append] at hR_33
            obtain ⟨A16_33, c16_33, hv_33⟩ := Kd.R_slice hR_33
            subst hv_33
            have HL_33 := Lib.hid hR_33
            have HNE_33 : Hid (some g_32 ≠ (Value.slice A16_33 x.f3.length c16_33).ownBlock) := by
              show some _ ≠ _
              rcases hat_33 with h | ⟨b, hb1, hb2⟩
              · rw [h]; exact HNE_32.out
              · rw [hb1]; intro e; injection e with e; have := blk_lt HG_32.out; omega
            have HA_33 := Lib.hid (Kd.R_over HA_32.out HL_32.out (by simp [Kd.string, Kd.scalar, kS]) hg_33)
            have HG_33 : Hid (w_33.heap[g_32]? = some (.cells #[.int .i64 0, .int .i64 0, .string ⟨#[]⟩, .slice none 0 0, .slice none 0 0] 38 (0, 0))) := (hg_33.block _ (blk_lt HG_32.out) HNE_32.out).trans HG_32.out
            have HB_33 := Lib.hid hB_33
            have HBW_33 : Hid (Below w.heap.size w w_33) := HbS.out.trans (HB_33.out.mono HsS.out)
            have Hw_33s : Hid (wS.heap.size ≤ w_33.heap.size) := HB_33.out.size
            clear hR_33 hB_33 hg_33 hat_33
            refine hK.out _ _ ((HMS.out.below HBW_33.out HB_33.out).held) (fun hHeld => ?_)
            clear hK K
            refine norm_ (a' := ?_) ?_ ?_
            rotate_left
            · show Act.put _ (some 16) _ = _
              simp only [Act.put, List.setIfInBounds_toArray, List.set_cons_zero, List.set_cons_succ, Go.Proofs.YtiddjadfkpjpdaaGreatDoorW.PrintLast.i64_w, Go.Proofs.YtiddjadfkpjpdaaGreatDoorW.PrintLast.i32_w]
              rfl
            refine pure_ (i := 8) (N := some 17) (v := ?_) (a' := ?_) #[true, true, true, true, true, true, true, true, true, true, false] rfl rfl (by kernel_rfl) (fun _ _ _ h => h) (Or.inl ⟨by rfl, ?_⟩) ?_ ?_
            rotate_left
            · intro w'
              go_simp
              with_reducible rfl
            rotate_left
            · simp only [Act.put, List.setIfInBounds_toArray, List.set_cons_zero, List.set_cons_succ, Go.Proofs.YtiddjadfkpjpdaaGreatDoorW.PrintLast.i64_w, Go.Proofs.YtiddjadfkpjpdaaGreatDoorW.PrintLast.i32_w]
              rfl
            exact hJ (A9_28, c9_28, A12_29, c12_29, A13_27, c13_27, A16_33, c16_33, g_32) w_33 ⟨HB_33.out, HA_33.out, HL_33.out, HG_33.out, HGE_32.out, HNE_33.out⟩
        · refine box_step (by rfl) (N := 7) rfl (cs := #[.int .i64 0, .int .i64 0, .string ⟨#[]⟩, .slice none 0 0, .slice none 0 0]) (t := 38) (by first | (go_simp; done) | (go_simp; rfl)) ?_
          intro g_34 hge_34 w_34 hG_34 hb_34
          have HG_34 := Lib.hid hG_34
          have HGE_34 : Hid (wS.heap.size ≤ g_34) := by have := Hw_28s.out; show _ ≤ _; omega
          have hg_34 : World.grownBy w_28 w_34 none := ⟨hb_34.os, hb_34.tape, hb_34.output, hb_34.size, fun q hq _ => hb_34.block q hq⟩
          have hB_34 : Below wS.heap.size wS w_34 := HB_28.out.trans (hb_34.mono (Hw_28s.out))
          have HNE_34 : Hid (some g_34 ≠ (Value.slice A13_27 0 c13_27).ownBlock) := by show some _ ≠ _; intro e; have := Kd.R_lt HL_28.out _ e.symm; omega
          have HA_34 := Lib.hid (Kd.R_grown HA_28.out hg_34 (fun _ _ => by simp))
          have HL_34 := Lib.hid (Kd.R_grown HL_28.out hg_34 (fun _ _ => by simp))
          have HB_34 := Lib.hid hB_34
          have HBW_34 : Hid (Below w.heap.size w w_34) := HbS.out.trans (HB_34.out.mono HsS.out)
          have Hw_34s : Hid (wS.heap.size ≤ w_34.heap.size) := HB_34.out.size
          clear hG_34 hb_34 hg_34 hB_34
          clear hge_34
          refine hK.out _ _ ((HMS.out.below HBW_34.out HB_34.out).held) (fun hHeld => ?_)
          clear hK K
          refine norm_ (a' := ?_) ?_ ?_
          rotate_left
          · show Act.put _ (some 7) _ = _
            simp only [Act.put, List.setIfInBounds_toArray, List.set_cons_zero, List.set_cons_succ, Go.Proofs.YtiddjadfkpjpdaaGreatDoorW.PrintLast.i64_w, Go.Proofs.YtiddjadfkpjpdaaGreatDoorW.PrintLast.i32_w]
            rfl
          refine one_ (i := 3) (N := some 12) #[true, true, true, true, true, true, true, false, false, true, false] rfl rfl (by kernel_rfl) (by decide) (fun K hK => ?_)
          refine Kd.R_append_rows_step Kd.string (Rr := Kd.string.K w) (w0 := wS) wS.heap.size (by rfl) (.tmp 9) (.tmp 11) 32 9 (.string ⟨#[]⟩) 16 rfl Tryz.underlying32 info9 rfl (by decide) (by decide) (.slice A9_28 0 c9_28) [] x.f4 A4 x.f4.length c4 (fun _ => True) (fun _ => False) rfl rfl HA_34.out (HX.out.g4.imp_ HBW_34.out (fun _ _ hp => hp)) (fun _ _ h => h) (fun _ h => h.elim) (fun _ _ => trivial) HB_34.out (Hw_34s.out) (by simp; omega) ?_
          intro v_35 w_35 hR_35 hB_35 hg_35 hat_35
          rw [List.nil_append] at hR_35
          obtain ⟨A12_35, c12_35, hv_35⟩ := Kd.R_slice hR_35
          subst hv_35
          have HA_35 := Lib.hid hR_35
          have HL_35 := Lib.hid (Kd.R_over HL_34.out HA_34.out (by simp [Kd.string, Kd.scalar, kS]) hg_35)
          have HG_35 : Hid (w_35.heap[g_34]? = some (.cells #[.int .i64 0, .int .i64 0, .string ⟨#[]⟩, .slice none 0 0, .slice none 0 0] 38 (0, 0))) := (hg_35.block _ (blk_lt HG_34.out) (Kd.R_ne HA_34.out HG_34.out (by decide))).trans HG_34.out
          have HB_35 := Lib.hid hB_35
          have HBW_35 : Hid (Below w.heap.size w w_35) := HbS.out.trans (HB_35.out.mono HsS.out)
          have Hw_35s : Hid (wS.heap.size ≤ w_35.heap.size) := HB_35.out.size
          clear hR_35 hB_35 hg_35 hat_35
          refine hK.out _ _ ((HMS.out.below HBW_35.out HB_35.out).held) (fun hHeld => ?_)
          clear hK K
          refine norm_ (a' := ?_) ?_ ?_
          rotate_left
          · show Act.put _ (some 12) _ = _
            simp only [Act.put, List.setIfInBounds_toArray, List.set_cons_zero, List.set_cons_succ, Go.Proofs.YtiddjadfkpjpdaaGreatDoorW.PrintLast.i64_w, Go.Proofs.YtiddjadfkpjpdaaGreatDoorW.PrintLast.i32_w]
            rfl
          refine one_ (i := 7) (N := some 16) #[true, true, true, true, true, true, true, true, false, true, false] rfl rfl (by kernel_rfl) (by decide) (fun K hK => ?_)
          refine Kd.R_append_rows_step (kS S w) (Rr := (kS S w).K w) (w0 := wS) wS.heap.size (by rfl) (.tmp 13) (.tmp 15) 36 38 (.agg #[(.int .i64 0), (.int .i64 0), (.string ⟨#[]⟩), (.slice none 0 0), (.slice none 0 0)]) 80 rfl Tryz.underlying36 info38 rfl (Nat.succ_pos 4) (by decide) (.slice A13_27 0 c13_27) [] x.f3 A3 x.f3.length c3 (fun _ => True) (fun _ => False) rfl rfl HL_35.out (HX.out.g3.imp_ HBW_35.out (fun _ _ hp => hp)) (fun _ _ h => h) (fun _ h => h.elim) (fun _ _ => trivial) HB_35.out (Hw_35s.out) (by simp; omega) ?_
          intro v_36 w_36 hR_36 hB_36 hg_36 hat_36
          rw [List.nil_append] at hR_36
          obtain ⟨A16_36, c16_36, hv_36⟩ := Kd.R_slice hR_36
          subst hv_36
          have HL_36 := Lib.hid hR_36
          have HNE_36 : Hid (some g_34 ≠ (Value.slice A16_36 x.f3.length c16_36).ownBlock) := by
            show some _ ≠ _
            rcases hat_36 with h | ⟨b, hb1, hb2⟩
            · rw [h]; exact HNE_34.out
            · rw [hb1]; intro e; injection e with e; have := blk_lt HG_35.out; omega
          have HA_36 := Lib.hid (Kd.R_over HA_35.out HL_35.out (by simp [Kd.string, Kd.scalar, kS]) hg_36)
          have HG_36 : Hid (w_36.heap[g_34]? = some (.cells #[.int .i64 0, .int .i64 0, .string ⟨#[]⟩, .slice none 0 0, .slice none 0 0] 38 (0, 0))) := (hg_36.block _ (blk_lt HG_35.out) HNE_34.out).trans HG_35.out
          have HB_36 := Lib.hid hB_36
          have HBW_36 : Hid (Below w.heap.size w w_36) := HbS.out.trans (HB_36.out.mono HsS.out)
          have Hw_36s : Hid (wS.heap.size ≤ w_36.heap.size) := HB_36.out.size
          clear hR_36 hB_36 hg_36 hat_36
          refine hK.out _ _ ((HMS.out.below HBW_36.out HB_36.out).held) (fun hHeld => ?_)
          clear hK K
          refine norm_ (a' := ?_) ?_ ?_
          rotate_left
          · show Act.put _ (some 16) _ = _
            simp only [Act.put, List.setIfInBounds_toArray, List.set_cons_zero, List.set_cons_succ, Go.Proofs.YtiddjadfkpjpdaaGreatDoorW.PrintLast.i64_w, Go.Proofs.YtiddjadfkpjpdaaGreatDoorW.PrintLast.i32_w]
            rfl
          refine pure_ (i := 8) (N := some 17) (v := ?_) (a' := ?_) #[true, true, true, true, true, true, true, true, true, true, false] rfl rfl (by kernel_rfl) (fun _ _ _ h => h) (Or.inl ⟨by rfl, ?_⟩) ?_ ?_
          rotate_left
          · intro w'
            go_simp
            with_reducible rfl
          rotate_left
          · simp only [Act.put, List.setIfInBounds_toArray, List.set_cons_zero, List.set_cons_succ, Go.Proofs.YtiddjadfkpjpdaaGreatDoorW.PrintLast.i64_w, Go.Proofs.YtiddjadfkpjpdaaGreatDoorW.PrintLast.i32_w]
            rfl
          exact hJ (A9_28, c9_28, A12_35, c12_35, A13_27, c13_27, A16_36, c16_36, g_34) w_36 ⟨HB_36.out, HA_36.out, HL_36.out, HG_36.out, HGE_34.out, HNE_36.out⟩
      · refine box_step (by rfl) (N := 7) rfl (cs := #[.int .i64 0, .int .i64 0, .string ⟨#[]⟩, .slice none 0 0, .slice none 0 0]) (t := 38) (by first | (go_simp; done) | (go_simp; rfl)) ?_
        intro g_37 hge_37 w_37 hG_37 hb_37
        have HG_37 := Lib.hid hG_37
        have HGE_37 : Hid (wS.heap.size ≤ g_37) := by have := Hw_27s.out; show _ ≤ _; omega
        have hg_37 : World.grownBy w_27 w_37 none := ⟨hb_37.os, hb_37.tape, hb_37.output, hb_37.size, fun q hq _ => hb_37.block q hq⟩
        have hB_37 : Below wS.heap.size wS w_37 := HB_27.out.trans (hb_37.mono (Hw_27s.out))
        have HNE_37 : Hid (some g_37 ≠ (Value.slice A13_27 0 c13_27).ownBlock) := by show some _ ≠ _; intro e; have := Kd.R_lt HL_27.out _ e.symm; omega
        have HL_37 := Lib.hid (Kd.R_grown HL_27.out hg_37 (fun _ _ => by simp))
        have HB_37 := Lib.hid hB_37
        have HBW_37 : Hid (Below w.heap.size w w_37) := HbS.out.trans (HB_37.out.mono HsS.out)
        have Hw_37s : Hid (wS.heap.size ≤ w_37.heap.size) := HB_37.out.size
        clear hG_37 hb_37 hg_37 hB_37
        clear hge_37
        refine hK.out _ _ ((HMS.out.below HBW_37.out HB_37.out).held) (fun hHeld => ?_)
        clear hK K
        refine norm_ (a' := ?_) ?_ ?_
        rotate_left
        · show Act.put _ (some 7) _ = _
          simp only [Act.put, List.setIfInBounds_toArray, List.set_cons_zero, List.set_cons_succ, Go.Proofs.YtiddjadfkpjpdaaGreatDoorW.PrintLast.i64_w, Go.Proofs.YtiddjadfkpjpdaaGreatDoorW.PrintLast.i32_w]
          rfl
        refine one_ (i := 0) (N := some 9) #[true, true, true, false, true, true, true, false, false, true, false] rfl rfl (by kernel_rfl) (by decide) (fun K hK => ?_)
        refine Kd.R_lit_step Kd.string (w0 := wS) wS.heap.size 9 (by rfl) (N := 9) rfl (xs := []) (inner := []) (ok := fun _ => True) (okp := fun _ => True) (by first | (go_simp; done) | (go_simp; rfl)) (Reps.none _ _) (fun _ h => h) trivial HB_37.out (Hw_37s.out) (by decide) ?_
        intro v_38 w_38 hR_38 hB_38 hg_38 hb_38
        obtain ⟨A9_38, c9_38, hv_38⟩ := Kd.R_slice hR_38
        subst hv_38
        have HA_38 := Lib.hid hR_38
        have HL_38 := Lib.hid (Kd.R_grown HL_37.out hg_38 (fun _ _ => by simp))
        have HG_38 : Hid (w_38.heap[g_37]? = some (.cells #[.int .i64 0, .int .i64 0, .string ⟨#[]⟩, .slice none 0 0, .slice none 0 0] 38 (0, 0))) := (hg_38.block _ (blk_lt HG_37.out) (by simp)).trans HG_37.out
        have HB_38 := Lib.hid hB_38
        have HBW_38 : Hid (Below w.heap.size w w_38) := HbS.out.trans (HB_38.out.mono HsS.out)
        have Hw_38s : Hid (wS.heap.size ≤ w_38.heap.size) := HB_38.out.size
        clear hR_38 hB_38 hg_38 hb_38
        refine hK.out _ _ ((HMS.out.below HBW_38.out HB_38.out).held) (fun hHeld => ?_)
        clear hK K
        refine norm_ (a' := ?_) ?_ ?_
        rotate_left
        · show Act.put _ (some 9) _ = _
          simp only [Act.put, List.setIfInBounds_toArray, List.set_cons_zero, List.set_cons_succ, Go.Proofs.YtiddjadfkpjpdaaGreatDoorW.PrintLast.i64_w, Go.Proofs.YtiddjadfkpjpdaaGreatDoorW.PrintLast.i32_w]
          rfl
        refine one_ (i := 3) (N := some 12) #[true, true, true, true, true, true, true, false, false, true, false] rfl rfl (by kernel_rfl) (by decide) (fun K hK => ?_)
        refine Kd.R_append_rows_step Kd.string (Rr := Kd.string.K w) (w0 := wS) wS.heap.size (by rfl) (.tmp 9) (.tmp 11) 32 9 (.string ⟨#[]⟩) 16 rfl Tryz.underlying32 info9 rfl (by decide) (by decide) (.slice A9_38 0 c9_38) [] x.f4 A4 x.f4.length c4 (fun _ => True) (fun _ => False) rfl rfl HA_38.out (HX.out.g4.imp_ HBW_38.out (fun _ _ hp => hp)) (fun _ _ h => h) (fun _ h => h.elim) (fun _ _ => trivial) HB_38.out (Hw_38s.out) (by simp; omega) ?_
        intro v_39 w_39 hR_39 hB_39 hg_39 hat_39
        rw [List.nil_append] at hR_39
        obtain ⟨A12_39, c12_39, hv_39⟩ := Kd.R_slice hR_39
        subst hv_39
        have HA_39 := Lib.hid hR_39
        have HL_39 := Lib.hid (Kd.R_over HL_38.out HA_38.out (by simp [Kd.string, Kd.scalar, kS]) hg_39)
        have HG_39 : Hid (w_39.heap[g_37]? = some (.cells #[.int .i64 0, .int .i64 0, .string ⟨#[]⟩, .slice none 0 0, .slice none 0 0] 38 (0, 0))) := (hg_39.block _ (blk_lt HG_38.out) (Kd.R_ne HA_38.out HG_38.out (by decide))).trans HG_38.out
        have HB_39 := Lib.hid hB_39
        have HBW_39 : Hid (Below w.heap.size w w_39) := HbS.out.trans (HB_39.out.mono HsS.out)
        have Hw_39s : Hid (wS.heap.size ≤ w_39.heap.size) := HB_39.out.size
        clear hR_39 hB_39 hg_39 hat_39
        refine hK.out _ _ ((HMS.out.below HBW_39.out HB_39.out).held) (fun hHeld => ?_)
        clear hK K
        refine norm_ (a' := ?_) ?_ ?_
        rotate_left
        · show Act.put _ (some 12) _ = _
          simp only [Act.put, List.setIfInBounds_toArray, List.set_cons_zero, List.set_cons_succ, Go.Proofs.YtiddjadfkpjpdaaGreatDoorW.PrintLast.i64_w, Go.Proofs.YtiddjadfkpjpdaaGreatDoorW.PrintLast.i32_w]
          rfl
        refine one_ (i := 7) (N := some 16) #[true, true, true, true, true, true, true, true, false, true, false] rfl rfl (by kernel_rfl) (by decide) (fun K hK => ?_)
        refine Kd.R_append_rows_step (kS S w) (Rr := (kS S w).K w) (w0 := wS) wS.heap.size (by rfl) (.tmp 13) (.tmp 15) 36 38 (.agg #[(.int .i64 0), (.int .i64 0), (.string ⟨#[]⟩), (.slice none 0 0), (.slice none 0 0)]) 80 rfl Tryz.underlying36 info38 rfl (Nat.succ_pos 4) (by decide) (.slice A13_27 0 c13_27) [] x.f3 A3 x.f3.length c3 (fun _ => True) (fun _ => False) rfl rfl HL_39.out (HX.out.g3.imp_ HBW_39.out (fun _ _ hp => hp)) (fun _ _ h => h) (fun _ h => h.elim) (fun _ _ => trivial) HB_39.out (Hw_39s.out) (by simp; omega) ?_
        intro v_40 w_40 hR_40 hB_40 hg_40 hat_40
        rw [List.nil_append] at hR_40
        obtain ⟨A16_40, c16_40, hv_40⟩ := Kd.R_slice hR_40
        subst hv_40
        have HL_40 := Lib.hid hR_40
        have HNE_40 : Hid (some g_37 ≠ (Value.slice A16_40 x.f3.length c16_40).ownBlock) := by
          show some _ ≠ _
          rcases hat_40 with h | ⟨b, hb1, hb2⟩
          · rw [h]; exact HNE_37.out
          · rw [hb1]; intro e; injection e with e; have := blk_lt HG_39.out; omega
        have HA_40 := Lib.hid (Kd.R_over HA_39.out HL_39.out (by simp [Kd.string, Kd.scalar, kS]) hg_40)
        have HG_40 : Hid (w_40.heap[g_37]? = some (.cells #[.int .i64 0, .int .i64 0, .string ⟨#[]⟩, .slice none 0 0, .slice none 0 0] 38 (0, 0))) := (hg_40.block _ (blk_lt HG_39.out) HNE_37.out).trans HG_39.out
        have HB_40 := Lib.hid hB_40
        have HBW_40 : Hid (Below w.heap.size w w_40) := HbS.out.trans (HB_40.out.mono HsS.out)
        have Hw_40s : Hid (wS.heap.size ≤ w_40.heap.size) := HB_40.out.size
        clear hR_40 hB_40 hg_40 hat_40
        refine hK.out _ _ ((HMS.out.below HBW_40.out HB_40.out).held) (fun hHeld => ?_)
        clear hK K
        refine norm_ (a' := ?_) ?_ ?_
        rotate_left
        · show Act.put _ (some 16) _ = _
          simp only [Act.put, List.setIfInBounds_toArray, List.set_cons_zero, List.set_cons_succ, Go.Proofs.YtiddjadfkpjpdaaGreatDoorW.PrintLast.i64_w, Go.Proofs.YtiddjadfkpjpdaaGreatDoorW.PrintLast.i32_w]
          rfl
        refine pure_ (i := 8) (N := some 17) (v := ?_) (a' := ?_) #[true, true, true, true, true, true, true, true, true, true, false] rfl rfl (by kernel_rfl) (fun _ _ _ h => h) (Or.inl ⟨by rfl, ?_⟩) ?_ ?_
        rotate_left
        · intro w'
          go_simp
          with_reducible rfl
        rotate_left
        · simp only [Act.put, List.setIfInBounds_toArray, List.set_cons_zero, List.set_cons_succ, Go.Proofs.YtiddjadfkpjpdaaGreatDoorW.PrintLast.i64_w, Go.Proofs.YtiddjadfkpjpdaaGreatDoorW.PrintLast.i32_w]
          rfl
        exact hJ (A9_38, c9_38, A12_39, c12_39, A13_27, c13_27, A16_40, c16_40, g_37) w_40 ⟨HB_40.out, HA_40.out, HL_40.out, HG_40.out, HGE_37.out, HNE_40.out⟩
    · refine box_step (by rfl) (N := 7) rfl (cs := #[.int .i64 0, .int .i64 0, .string ⟨#[]⟩, .slice none 0 0, .slice none 0 0]) (t := 38) (by first | (go_simp; done) | (go_simp; rfl)) ?_
      intro g_41 hge_41 w_41 hG_41 hb_41
      have HG_41 := Lib.hid hG_41
      have HGE_41 : Hid (wS.heap.size ≤ g_41) := by have := HwSs.out; show _ ≤ _; omega
      have hg_41 : World.grownBy wS w_41 none := ⟨hb_41.os, hb_41.tape, hb_41.output, hb_41.size, fun q hq _ => hb_41.block q hq⟩
      have hB_41 : Below wS.heap.size wS w_41 := HS0.out.trans (hb_41.mono (HwSs.out))
      have HB_41 := Lib.hid hB_41
      have HBW_41 : Hid (Below w.heap.size w w_41) := HbS.out.trans (HB_41.out.mono HsS.out)
      have Hw_41s : Hid (wS.heap.size ≤ w_41.heap.size) := HB_41.out.size
      clear hG_41 hb_41 hg_41 hB_41
      clear hge_41
      refine hK.out _ _ ((HMS.out.below HBW_41.out HB_41.out).held) (fun hHeld => ?_)
      clear hK K
      refine norm_ (a' := ?_) ?_ ?_
      rotate_left
      · show Act.put _ (some 7) _ = _
        simp only [Act.put, List.setIfInBounds_toArray, List.set_cons_zero, List.set_cons_succ, Go.Proofs.YtiddjadfkpjpdaaGreatDoorW.PrintLast.i64_w, Go.Proofs.YtiddjadfkpjpdaaGreatDoorW.PrintLast.i32_w]
        rfl
      refine two_ (i := 0) (j := 4) (Ni := some 9) (Nj := some 13) #[true, true, true, false, false, true, true, false, false, true, false] #[false, true, true, false, true, true, true, false, false, true, false] rfl rfl rfl rfl (by kernel_rfl) (by decide) (by decide) (fun K hK => ?_) (fun K hK => ?_)
      · refine Kd.R_lit_step Kd.string (w0 := wS) wS.heap.size 9 (by rfl) (N := 9) rfl (xs := []) (inner := []) (ok := fun _ => True) (okp := fun _ => True) (by first | (go_simp; done) | (go_simp; rfl)) (Reps.none _ _) (fun _ h => h) trivial HB_41.out (Hw_41s.out) (by decide) ?_
        intro v_42 w_42 hR_42 hB_42 hg_42 hb_42
        obtain ⟨A9_42, c9_42, hv_42⟩ := Kd.R_slice hR_42
        subst hv_42
        have HA_42 := Lib.hid hR_42
        have HG_42 : Hid (w_42.heap[g_41]? = some (.cells #[.int .i64 0, .int .i64 0, .string ⟨#[]⟩, .slice none 0 0, .slice none 0 0] 38 (0, 0))) := (hg_42.block _ (blk_lt HG_41.out) (by simp)).trans HG_41.out
        have HB_42 := Lib.hid hB_42
        have HBW_42 : Hid (Below w.heap.size w w_42) := HbS.out.trans (HB_42.out.mono HsS.out)
        have Hw_42s : Hid (wS.heap.size ≤ w_42.heap.size) := HB_42.out.size
        clear hR_42 hB_42 hg_42 hb_42
        refine hK.out _ _ ((HMS.out.below HBW_42.out HB_42.out).held) (fun hHeld => ?_)
        clear hK K
        refine norm_ (a' := ?_) ?_ ?_
        rotate_left
        · show Act.put _ (some 9) _ = _
          simp only [Act.put, List.setIfInBounds_toArray, List.set_cons_zero, List.set_cons_succ, Go.Proofs.YtiddjadfkpjpdaaGreatDoorW.PrintLast.i64_w, Go.Proofs.YtiddjadfkpjpdaaGreatDoorW.PrintLast.i32_w]
          rfl
        refine two_ (i := 3) (j := 4) (Ni := some 12) (Nj := some 13) #[true, true, true, true, false, true, true, false, false, true, false] #[true, true, true, false, true, true, true, false, false, true, false] rfl rfl rfl rfl (by kernel_rfl) (by decide) (by decide) (fun K hK => ?_) (fun K hK => ?_)
        · refine Kd.R_append_rows_step Kd.string (Rr := Kd.string.K w) (w0 := wS) wS.heap.size (by rfl) (.tmp 9) (.tmp 11) 32 9 (.string ⟨#[]⟩) 16 rfl Tryz.underlying32 info9 rfl (by decide) (by decide) (.slice A9_42 0 c9_42) [] x.f4 A4 x.f4.length c4 (fun _ => True) (fun _ => False) rfl rfl HA_42.out (HX.out.g4.imp_ HBW_42.out (fun _ _ hp => hp)) (fun _ _ h => h) (fun _ h => h.elim) (fun _ _ => trivial) HB_42.out (Hw_42s.out) (by simp; omega) ?_
          intro v_43 w_43 hR_43 hB_43 hg_43 hat_43
          rw [List.nil_append] at hR_43
          obtain ⟨A12_43, c12_43, hv_43⟩ := Kd.R_slice hR_43
          subst hv_43
          have HA_43 := Lib.hid hR_43
          have HG_43 : Hid (w_43.heap[g_41]? = some (.cells #[.int .i64 0, .int .i64 0, .string ⟨#[]⟩, .slice none 0 0, .slice none 0 0] 38 (0, 0))) := (hg_43.block _ (blk_lt HG_42.out) (Kd.R_ne HA_42.out HG_42.out (by decide))).trans HG_42.out
          have HB_43 := Lib.hid hB_43
          have HBW_43 : Hid (Below w.heap.size w w_43) := HbS.out.trans (HB_43.out.mono HsS.out)
          have Hw_43s : Hid (wS.heap.size ≤ w_43.heap.size) := HB_43.out.size
          clear hR_43 hB_43 hg_43 hat_43
          refine hK.out _ _ ((HMS.out.below HBW_43.out HB_43.out).held) (fun hHeld => ?_)
          clear hK K
          refine norm_ (a' := ?_) ?_ ?_
          rotate_left
          · show Act.put _ (some 12) _ = _
            simp only [Act.put, List.setIfInBounds_toArray, List.set_cons_zero, List.set_cons_succ, Go.Proofs.YtiddjadfkpjpdaaGreatDoorW.PrintLast.i64_w, Go.Proofs.YtiddjadfkpjpdaaGreatDoorW.PrintLast.i32_w]
            rfl
          refine one_ (i := 4) (N := some 13) #[true, true, true, true, true, true, true, false, false, true, false] rfl rfl (by kernel_rfl) (by decide) (fun K hK => ?_)
          refine Kd.R_lit_step (kS S w) (w0 := wS) wS.heap.size 38 (by rfl) (N := 13) rfl (xs := []) (inner := []) (ok := fun _ => True) (okp := fun _ => True) (by first | (go_simp; done) | (go_simp; rfl)) (Reps.none _ _) (fun _ h => h) trivial HB_43.out (Hw_43s.out) (by decide) ?_
          intro v_44 w_44 hR_44 hB_44 hg_44 hb_44
          obtain ⟨A13_44, c13_44, hv_44⟩ := Kd.R_slice hR_44
          subst hv_44
          have HL_44 := Lib.hid hR_44
          have HNE_44 : Hid (some g_41 ≠ (Value.slice A13_44 0 c13_44).ownBlock) := by
            obtain ⟨b, hb1, hb2⟩ := hb_44
            have := blk_lt HG_43.out
            show some _ ≠ _
            simp only [List.length_nil] at hb1
            rw [hb1]; intro e; injection e with e; omega
          have HA_44 := Lib.hid (Kd.R_grown HA_43.out hg_44 (fun _ _ => by simp))
          have HG_44 : Hid (w_44.heap[g_41]? = some (.cells #[.int .i64 0, .int .i64 0, .string ⟨#[]⟩, .slice none 0 0, .slice none 0 0] 38 (0, 0))) := (hg_44.block _ (blk_lt HG_43.out) (by simp)).trans HG_43.out
          have HB_44 := Lib.hid hB_44
          have HBW_44 : Hid (Below w.heap.size w w_44) := HbS.out.trans (HB_44.out.mono HsS.out)
          have Hw_44s : Hid (wS.heap.size ≤ w_44.heap.size) := HB_44.out.size
          clear hR_44 hB_44 hg_44 hb_44
          refine hK.out _ _ ((HMS.out.below HBW_44.out HB_44.out).held) (fun hHeld => ?_)
          clear hK K
          refine norm_ (a' := ?_) ?_ ?_
          rotate_left
          · show Act.put _ (some 13) _ = _
            simp only [Act.put, List.setIfInBounds_toArray, List.set_cons_zero, List.set_cons_succ, Go.Proofs.YtiddjadfkpjpdaaGreatDoorW.PrintLast.i64_w, Go.Proofs.YtiddjadfkpjpdaaGreatDoorW.PrintLast.i32_w]
            rfl
          refine one_ (i := 7) (N := some 16) #[true, true, true, true, true, true, true, true, false, true, false] rfl rfl (by kernel_rfl) (by decide) (fun K hK => ?_)
          refine Kd.R_append_rows_step (kS S w) (Rr := (kS S w).K w) (w0 := wS) wS.heap.size (by rfl) (.tmp 13) (.tmp 15) 36 38 (.agg #[(.int .i64 0), (.int .i64 0), (.string ⟨#[]⟩), (.slice none 0 0), (.slice none 0 0)]) 80 rfl Tryz.underlying36 info38 rfl (Nat.succ_pos 4) (by decide) (.slice A13_44 0 c13_44) [] x.f3 A3 x.f3.length c3 (fun _ => True) (fun _ => False) rfl rfl HL_44.out (HX.out.g3.imp_ HBW_44.out (fun _ _ hp => hp)) (fun _ _ h => h) (fun _ h => h.elim) (fun _ _ => trivial) HB_44.out (Hw_44s.out) (by simp; omega) ?_
          intro v_45 w_45 hR_45 hB_45 hg_45 hat_45
          rw [List.nil_append] at hR_45
          obtain ⟨A16_45, c16_45, hv_45⟩ := Kd.R_slice hR_45
          subst hv_45
          have HL_45 := Lib.hid hR_45
          have HNE_45 : Hid (some g_41 ≠ (Value.slice A16_45 x.f3.length c16_45).ownBlock) := by
            show some _ ≠ _
            rcases hat_45 with h | ⟨b, hb1, hb2⟩
            · rw [h]; exact HNE_44.out
            · rw [hb1]; intro e; injection e with e; have := blk_lt HG_44.out; omega
          have HA_45 := Lib.hid (Kd.R_over HA_44.out HL_44.out (by simp [Kd.string, Kd.scalar, kS]) hg_45)
          have HG_45 : Hid (w_45.heap[g_41]? = some (.cells #[.int .i64 0, .int .i64 0, .string ⟨#[]⟩, .slice none 0 0, .slice none 0 0] 38 (0, 0))) := (hg_45.block _ (blk_lt HG_44.out) HNE_44.out).trans HG_44.out
          have HB_45 := Lib.hid hB_45
          have HBW_45 : Hid (Below w.heap.size w w_45) := HbS.out.trans (HB_45.out.mono HsS.out)
          have Hw_45s : Hid (wS.heap.size ≤ w_45.heap.size) := HB_45.out.size
          clear hR_45 hB_45 hg_45 hat_45
          refine hK.out _ _ ((HMS.out.below HBW_45.out HB_45.out).held) (fun hHeld => ?_)
          clear hK K
          refine norm_ (a' := ?_) ?_ ?_
          rotate_left
          · show Act.put _ (some 16) _ = _
            simp only [Act.put, List.setIfInBounds_toArray, List.set_cons_zero, List.set_cons_succ, Go.Proofs.YtiddjadfkpjpdaaGreatDoorW.PrintLast.i64_w, Go.Proofs.YtiddjadfkpjpdaaGreatDoorW.PrintLast.i32_w]
            rfl
          refine pure_ (i := 8) (N := some 17) (v := ?_) (a' := ?_) #[true, true, true, true, true, true, true, true, true, true, false] rfl rfl (by kernel_rfl) (fun _ _ _ h => h) (Or.inl ⟨by rfl, ?_⟩) ?_ ?_
          rotate_left
          · intro w'
            go_simp
            with_reducible rfl
          rotate_left
          · simp only [Act.put, List.setIfInBounds_toArray, List.set_cons_zero, List.set_cons_succ, Go.Proofs.YtiddjadfkpjpdaaGreatDoorW.PrintLast.i64_w, Go.Proofs.YtiddjadfkpjpdaaGreatDoorW.PrintLast.i32_w]
            rfl
          exact hJ (A9_42, c9_42, A12_43, c12_43, A13_44, c13_44, A16_45, c16_45, g_41) w_45 ⟨HB_45.out, HA_45.out, HL_45.out, HG_45.out, HGE_41.out, HNE_45.out⟩
        · refine Kd.R_lit_step (kS S w) (w0 := wS) wS.heap.size 38 (by rfl) (N := 13) rfl (xs := []) (inner := []) (ok := fun _ => True) (okp := fun _ => True) (by first | (go_simp; done) | (go_simp; rfl)) (Reps.none _ _) (fun _ h => h) trivial HB_42.out (Hw_42s.out) (by decide) ?_
          intro v_46 w_46 hR_46 hB_46 hg_46 hb_46
          obtain ⟨A13_46, c13_46, hv_46⟩ := Kd.R_slice hR_46
          subst hv_46
          have HL_46 := Lib.hid hR_46
          have HNE_46 : Hid (some g_41 ≠ (Value.slice A13_46 0 c13_46).ownBlock) := by
            obtain ⟨b, hb1, hb2⟩ := hb_46
            have := blk_lt HG_42.out
            show some _ ≠ _
            simp only [List.length_nil] at hb1
            rw [hb1]; intro e; injection e with e; omega
          have HA_46 := Lib.hid (Kd.R_grown HA_42.out hg_46 (fun _ _ => by simp))
          have HG_46 : Hid (w_46.heap[g_41]? = some (.cells #[.int .i64 0, .int .i64 0, .string ⟨#[]⟩, .slice none 0 0, .slice none 0 0] 38 (0, 0))) := (hg_46.block _ (blk_lt HG_42.out) (by simp)).trans HG_42.out
          have HB_46 := Lib.hid hB_46
          have HBW_46 : Hid (Below w.heap.size w w_46) := HbS.out.trans (HB_46.out.mono HsS.out)
          have Hw_46s : Hid (wS.heap.size ≤ w_46.heap.size) := HB_46.out.size
          clear hR_46 hB_46 hg_46 hb_46
          refine hK.out _ _ ((HMS.out.below HBW_46.out HB_46.out).held) (fun hHeld => ?_)
          clear hK K
          refine norm_ (a' := ?_) ?_ ?_
          rotate_left
          · show Act.put _ (some 13) _ = _
            simp only [Act.put, List.setIfInBounds_toArray, List.set_cons_zero, List.set_cons_succ, Go.Proofs.YtiddjadfkpjpdaaGreatDoorW.PrintLast.i64_w, Go.Proofs.YtiddjadfkpjpdaaGreatDoorW.PrintLast.i32_w]
            rfl
          refine one_ (i := 3) (N := some 12) #[true, true, true, true, true, true, true, false, false, true, false] rfl rfl (by kernel_rfl) (by decide) (fun K hK => ?_)
          refine Kd.R_append_rows_step Kd.string (Rr := Kd.string.K w) (w0 := wS) wS.heap.size (by rfl) (.tmp 9) (.tmp 11) 32 9 (.string ⟨#[]⟩) 16 rfl Tryz.underlying32 info9 rfl (by decide) (by decide) (.slice A9_42 0 c9_42) [] x.f4 A4 x.f4.length c4 (fun _ => True) (fun _ => False) rfl rfl HA_46.out (HX.out.g4.imp_ HBW_46.out (fun _ _ hp => hp)) (fun _ _ h => h) (fun _ h => h.elim) (fun _ _ => trivial) HB_46.out (Hw_46s.out) (by simp; omega) ?_
          intro v_47 w_47 hR_47 hB_47 hg_47 hat_47
          rw [List.nil_append] at hR_47
          obtain ⟨A12_47, c12_47, hv_47⟩ := Kd.R_slice hR_47
          subst hv_47
          have HA_47 := Lib.hid hR_47
          have HL_47 := Lib.hid (Kd.R_over HL_46.out HA_46.out (by simp [Kd.string, Kd.scalar, kS]) hg_47)
          have HG_47 : Hid (w_47.heap[g_41]? = some (.cells #[.int .i64 0, .int .i64 0, .string ⟨#[]⟩, .slice none 0 0, .slice none 0 0] 38 (0, 0))) := (hg_47.block _ (blk_lt HG_46.out) (Kd.R_ne HA_46.out HG_46.out (by decide))).trans HG_46.out
          have HB_47 := Lib.hid hB_47
          have HBW_47 : Hid (Below w.heap.size w w_47) := HbS.out.trans (HB_47.out.mono HsS.out)
          have Hw_47s : Hid (wS.heap.size ≤ w_47.heap.size) := HB_47.out.size
          clear hR_47 hB_47 hg_47 hat_47
          refine hK.out _ _ ((HMS.out.below HBW_47.out HB_47.out).held) (fun hHeld => ?_)
          clear hK K
          refine norm_ (a' := ?_) ?_ ?_
          rotate_left
          · show Act.put _ (some 12) _ = _
            simp only [Act.put, List.setIfInBounds_toArray, List.set_cons_zero, List.set_cons_succ, Go.Proofs.YtiddjadfkpjpdaaGreatDoorW.PrintLast.i64_w, Go.Proofs.YtiddjadfkpjpdaaGreatDoorW.PrintLast.i32_w]
            rfl
          refine one_ (i := 7) (N := some 16) #[true, true, true, true, true, true, true, true, false, true, false] rfl rfl (by kernel_rfl) (by decide) (fun K hK => ?_)
          refine Kd.R_append_rows_step (kS S w) (Rr := (kS S w).K w) (w0 := wS) wS.heap.size (by rfl) (.tmp 13) (.tmp 15) 36 38 (.agg #[(.int .i64 0), (.int .i64 0), (.string ⟨#[]⟩), (.slice none 0 0), (.slice none 0 0)]) 80 rfl Tryz.underlying36 info38 rfl (Nat.succ_pos 4) (by decide) (.slice A13_46 0 c13_46) [] x.f3 A3 x.f3.length c3 (fun _ => True) (fun _ => False) rfl rfl HL_47.out (HX.out.g3.imp_ HBW_47.out (fun _ _ hp => hp)) (fun _ _ h => h) (fun _ h => h.elim) (fun _ _ => trivial) HB_47.out (Hw_47s.out) (by simp; omega) ?_
          intro v_48 w_48 hR_48 hB_48 hg_48 hat_48
          rw [List.nil_append] at hR_48
          obtain ⟨A16_48, c16_48, hv_48⟩ := Kd.R_slice hR_48
          subst hv_48
          have HL_48 := Lib.hid hR_48
          have HNE_48 : Hid (some g_41 ≠ (Value.slice A16_48 x.f3.length c16_48).ownBlock) := by
            show some _ ≠ _
            rcases hat_48 with h | ⟨b, hb1, hb2⟩
            · rw [h]; exact HNE_46.out
            · rw [hb1]; intro e; injection e with e; have := blk_lt HG_47.out; omega
          have HA_48 := Lib.hid (Kd.R_over HA_47.out HL_47.out (by simp [Kd.string, Kd.scalar, kS]) hg_48)
          have HG_48 : Hid (w_48.heap[g_41]? = some (.cells #[.int .i64 0, .int .i64 0, .string ⟨#[]⟩, .slice none 0 0, .slice none 0 0] 38 (0, 0))) := (hg_48.block _ (blk_lt HG_47.out) HNE_46.out).trans HG_47.out
          have HB_48 := Lib.hid hB_48
          have HBW_48 : Hid (Below w.heap.size w w_48) := HbS.out.trans (HB_48.out.mono HsS.out)
          have Hw_48s : Hid (wS.heap.size ≤ w_48.heap.size) := HB_48.out.size
          clear hR_48 hB_48 hg_48 hat_48
          refine hK.out _ _ ((HMS.out.below HBW_48.out HB_48.out).held) (fun hHeld => ?_)
          clear hK K
          refine norm_ (a' := ?_) ?_ ?_
          rotate_left
          · show Act.put _ (some 16) _ = _
            simp only [Act.put, List.setIfInBounds_toArray, List.set_cons_zero, List.set_cons_succ, Go.Proofs.YtiddjadfkpjpdaaGreatDoorW.PrintLast.i64_w, Go.Proofs.YtiddjadfkpjpdaaGreatDoorW.PrintLast.i32_w]
            rfl
          refine pure_ (i := 8) (N := some 17) (v := ?_) (a' := ?_) #[true, true, true, true, true, true, true, true, true, true, false] rfl rfl (by kernel_rfl) (fun _ _ _ h => h) (Or.inl ⟨by rfl, ?_⟩) ?_ ?_
          rotate_left
          · intro w'
            go_simp
            with_reducible rfl
          rotate_left
          · simp only [Act.put, List.setIfInBounds_toArray, List.set_cons_zero, List.set_cons_succ, Go.Proofs.YtiddjadfkpjpdaaGreatDoorW.PrintLast.i64_w, Go.Proofs.YtiddjadfkpjpdaaGreatDoorW.PrintLast.i32_w]
            rfl
          exact hJ (A9_42, c9_42, A12_47, c12_47, A13_46, c13_46, A16_48, c16_48, g_41) w_48 ⟨HB_48.out, HA_48.out, HL_48.out, HG_48.out, HGE_41.out, HNE_48.out⟩
      · refine Kd.R_lit_step (kS S w) (w0 := wS) wS.heap.size 38 (by rfl) (N := 13) rfl (xs := []) (inner := []) (ok := fun _ => True) (okp := fun _ => True) (by first | (go_simp; done) | (go_simp; rfl)) (Reps.none _ _) (fun _ h => h) trivial HB_41.out (Hw_41s.out) (by decide) ?_
        intro v_49 w_49 hR_49 hB_49 hg_49 hb_49
        obtain ⟨A13_49, c13_49, hv_49⟩ := Kd.R_slice hR_49
        subst hv_49
        have HL_49 := Lib.hid hR_49
        have HNE_49 : Hid (some g_41 ≠ (Value.slice A13_49 0 c13_49).ownBlock) := by
          obtain ⟨b, hb1, hb2⟩ := hb_49
          have := blk_lt HG_41.out
          show some _ ≠ _
          simp only [List.length_nil] at hb1
          rw [hb1]; intro e; injection e with e; omega
        have HG_49 : Hid (w_49.heap[g_41]? = some (.cells #[.int .i64 0, .int .i64 0, .string ⟨#[]⟩, .slice none 0 0, .slice none 0 0] 38 (0, 0))) := (hg_49.block _ (blk_lt HG_41.out) (by simp)).trans HG_41.out
        have HB_49 := Lib.hid hB_49
        have HBW_49 : Hid (Below w.heap.size w w_49) := HbS.out.trans (HB_49.out.mono HsS.out)
        have Hw_49s : Hid (wS.heap.size ≤ w_49.heap.size) := HB_49.out.size
        clear hR_49 hB_49 hg_49 hb_49
        refine hK.out _ _ ((HMS.out.below HBW_49.out HB_49.out).held) (fun hHeld => ?_)
        clear hK K
        refine norm_ (a' := ?_) ?_ ?_
        rotate_left
        · show Act.put _ (some 13) _ = _
          simp only [Act.put, List.setIfInBounds_toArray, List.set_cons_zero, List.set_cons_succ, Go.Proofs.YtiddjadfkpjpdaaGreatDoorW.PrintLast.i64_w, Go.Proofs.YtiddjadfkpjpdaaGreatDoorW.PrintLast.i32_w]
          rfl
        refine one_ (i := 0) (N := some 9) #[true, true, true, false, true, true, true, false, false, true, false] rfl rfl (by kernel_rfl) (by decide) (fun K hK => ?_)
        refine Kd.R_lit_step Kd.string (w0 := wS) wS.heap.size 9 (by rfl) (N := 9) rfl (xs := []) (inner := []) (ok := fun _ => True) (okp := fun _ => True) (by first | (go_simp; done) | (go_simp; rfl)) (Reps.none _ _) (fun _ h => h) trivial HB_49.out (Hw_49s.out) (by decide) ?_
        intro v_50 w_50 hR_50 hB_50 hg_50 hb_50
        obtain ⟨A9_50, c9_50, hv_50⟩ := Kd.R_slice hR_50
        subst hv_50
        have HA_50 := Lib.hid hR_50
        have HL_50 := Lib.hid (Kd.R_grown HL_49.out hg_50 (fun _ _ => by simp))
        have HG_50 : Hid (w_50.heap[g_41]? = some (.cells #[.int .i64 0, .int .i64 0, .string ⟨#[]⟩, .slice none 0 0, .slice none 0 0] 38 (0, 0))) := (hg_50.block _ (blk_lt HG_49.out) (by simp)).trans HG_49.out
        have HB_50 := Lib.hid hB_50
        have HBW_50 : Hid (Below w.heap.size w w_50) := HbS.out.trans (HB_50.out.mono HsS.out)
        have Hw_50s : Hid (wS.heap.size ≤ w_50.heap.size) := HB_50.out.size
        clear hR_50 hB_50 hg_50 hb_50
        refine hK.out _ _ ((HMS.out.below HBW_50.out HB_50.out).held) (fun hHeld => ?_)
        clear hK K
        refine norm_ (a' := ?_) ?_ ?_
        rotate_left
        · show Act.put _ (some 9) _ = _
          simp only [Act.put, List.setIfInBounds_toArray, List.set_cons_zero, List.set_cons_succ, Go.Proofs.YtiddjadfkpjpdaaGreatDoorW.PrintLast.i64_w, Go.Proofs.YtiddjadfkpjpdaaGreatDoorW.PrintLast.i32_w]
          rfl
        refine one_ (i := 3) (N := some 12) #[true, true, true, true, true, true, true, false, false, true, false] rfl rfl (by kernel_rfl) (by decide) (fun K hK => ?_)
        refine Kd.R_append_rows_step Kd.string (Rr := Kd.string.K w) (w0 := wS) wS.heap.size (by rfl) (.tmp 9) (.tmp 11) 32 9 (.string ⟨#[]⟩) 16 rfl Tryz.underlying32 info9 rfl (by decide) (by decide) (.slice A9_50 0 c9_50) [] x.f4 A4 x.f4.length c4 (fun _ => True) (fun _ => False) rfl rfl HA_50.out (HX.out.g4.imp_ HBW_50.out (fun _ _ hp => hp)) (fun _ _ h => h) (fun _ h => h.elim) (fun _ _ => trivial) HB_50.out (Hw_50s.out) (by simp; omega) ?_
        intro v_51 w_51 hR_51 hB_51 hg_51 hat_51
        rw [List.nil_append] at hR_51
        obtain ⟨A12_51, c12_51, hv_51⟩ := Kd.R_slice hR_51
        subst hv_51
        have HA_51 := Lib.hid hR_51
        have HL_51 := Lib.hid (Kd.R_over HL_50.out HA_50.out (by simp [Kd.string, Kd.scalar, kS]) hg_51)
        have HG_51 : Hid (w_51.heap[g_41]? = some (.cells #[.int .i64 0, .int .i64 0, .string ⟨#[]⟩, .slice none 0 0, .slice none 0 0] 38 (0, 0))) := (hg_51.block _ (blk_lt HG_50.out) (Kd.R_ne HA_50.out HG_50.out (by decide))).trans HG_50.out
        have HB_51 := Lib.hid hB_51
        have HBW_51 : Hid (Below w.heap.size w w_51) := HbS.out.trans (HB_51.out.mono HsS.out)
        have Hw_51s : Hid (wS.heap.size ≤ w_51.heap.size) := HB_51.out.size
        clear hR_51 hB_51 hg_51 hat_51
        refine hK.out _ _ ((HMS.out.below HBW_51.out HB_51.out).held) (fun hHeld => ?_)
        clear hK K
        refine norm_ (a' := ?_) ?_ ?_
        rotate_left
        · show Act.put _ (some 12) _ = _
          simp only [Act.put, List.setIfInBounds_toArray, List.set_cons_zero, List.set_cons_succ, Go.Proofs.YtiddjadfkpjpdaaGreatDoorW.PrintLast.i64_w, Go.Proofs.YtiddjadfkpjpdaaGreatDoorW.PrintLast.i32_w]
          rfl
        refine one_ (i := 7) (N := some 16) #[true, true, true, true, true, true, true, true, false, true, false] rfl rfl (by kernel_rfl) (by decide) (fun K hK => ?_)
        refine Kd.R_append_rows_step (kS S w) (Rr := (kS S w).K w) (w0 := wS) wS.heap.size (by rfl) (.tmp 13) (.tmp 15) 36 38 (.agg #[(.int .i64 0), (.int .i64 0), (.string ⟨#[]⟩), (.slice none 0 0), (.slice none 0 0)]) 80 rfl Tryz.underlying36 info38 rfl (Nat.succ_pos 4) (by decide) (.slice A13_49 0 c13_49) [] x.f3 A3 x.f3.length c3 (fun _ => True) (fun _ => False) rfl rfl HL_51.out (HX.out.g3.imp_ HBW_51.out (fun _ _ hp => hp)) (fun _ _ h => h) (fun _ h => h.elim) (fun _ _ => trivial) HB_51.out (Hw_51s.out) (by simp; omega) ?_
        intro v_52 w_52 hR_52 hB_52 hg_52 hat_52
        rw [List.nil_append] at hR_52
        obtain ⟨A16_52, c16_52, hv_52⟩ := Kd.R_slice hR_52
        subst hv_52
        have HL_52 := Lib.hid hR_52
        have HNE_52 : Hid (some g_41 ≠ (Value.slice A16_52 x.f3.length c16_52).ownBlock) := by
          show some _ ≠ _
          rcases hat_52 with h | ⟨b, hb1, hb2⟩
          · rw [h]; exact HNE_49.out
          · rw [hb1]; intro e; injection e with e; have := blk_lt HG_51.out; omega
        have HA_52 := Lib.hid (Kd.R_over HA_51.out HL_51.out (by simp [Kd.string, Kd.scalar, kS]) hg_52)
        have HG_52 : Hid (w_52.heap[g_41]? = some (.cells #[.int .i64 0, .int .i64 0, .string ⟨#[]⟩, .slice none 0 0, .slice none 0 0] 38 (0, 0))) := (hg_52.block _ (blk_lt HG_51.out) HNE_49.out).trans HG_51.out
        have HB_52 := Lib.hid hB_52
        have HBW_52 : Hid (Below w.heap.size w w_52) := HbS.out.trans (HB_52.out.mono HsS.out)
        have Hw_52s : Hid (wS.heap.size ≤ w_52.heap.size) := HB_52.out.size
        clear hR_52 hB_52 hg_52 hat_52
        refine hK.out _ _ ((HMS.out.below HBW_52.out HB_52.out).held) (fun hHeld => ?_)
        clear hK K
        refine norm_ (a' := ?_) ?_ ?_
        rotate_left
        · show Act.put _ (some 16) _ = _
          simp only [Act.put, List.setIfInBounds_toArray, List.set_cons_zero, List.set_cons_succ, Go.Proofs.YtiddjadfkpjpdaaGreatDoorW.PrintLast.i64_w, Go.Proofs.YtiddjadfkpjpdaaGreatDoorW.PrintLast.i32_w]
          rfl
        refine pure_ (i := 8) (N := some 17) (v := ?_) (a' := ?_) #[true, true, true, true, true, true, true, true, true, true, false] rfl rfl (by kernel_rfl) (fun _ _ _ h => h) (Or.inl ⟨by rfl, ?_⟩) ?_ ?_
        rotate_left
        · intro w'
          go_simp
          with_reducible rfl
        rotate_left
        · simp only [Act.put, List.setIfInBounds_toArray, List.set_cons_zero, List.set_cons_succ, Go.Proofs.YtiddjadfkpjpdaaGreatDoorW.PrintLast.i64_w, Go.Proofs.YtiddjadfkpjpdaaGreatDoorW.PrintLast.i32_w]
          rfl
        exact hJ (A9_50, c9_50, A12_51, c12_51, A13_49, c13_49, A16_52, c16_52, g_41) w_52 ⟨HB_52.out, HA_52.out, HL_52.out, HG_52.out, HGE_41.out, HNE_52.out⟩
  rintro ⟨A9, c9, A12, c12, A13, c13, A16, c16, g⟩ w2 hF
  have HF := Lib.hid hF
  clear hF
  have g0 := blk_cell HF.out.G 0
  have g1 := blk_cell HF.out.G 1
  have g2 := blk_cell HF.out.G 2
  have g3 := blk_cell HF.out.G 3
  have g4 := blk_cell HF.out.G 4
  have y0 := blk_frozen HF.out.G 0
  have y1 := blk_frozen HF.out.G 1
  have y2 := blk_frozen HF.out.G 2
  have y3 := blk_frozen HF.out.G 3
  have y4 := blk_frozen HF.out.G 4
  refine norm_ (a' := ?_) ?_ ?_
  rotate_left
  · simp only [putAll]
    simp only [Act.put, List.setIfInBounds_toArray, List.set_cons_zero, List.set_cons_succ, Go.Proofs.YtiddjadfkpjpdaaGreatDoorW.PrintLast.i64_w, Go.Proofs.YtiddjadfkpjpdaaGreatDoorW.PrintLast.i32_w]
    rfl
  refine last_ (i := 10) (N := none) #[true, true, true, true, true, true, true, true, true, true, true] rfl rfl (by kernel_rfl) (by decide) (fun K hK => ?_)
  refine skip_ (w1 := ?_) (by rfl) rfl ?_ ?_
  rotate_left
  · go_simp
    rfl
  refine hK.out _ _ ?_
  clear hK K
  refine done_ (by kernel_rfl) ?_
  obtain ⟨w3, hw3⟩ : ∃ w3, w3 = set5 w2 g (.int .i64 6) (.int .i64 0) (.string ⟨#[]⟩) (.slice A16 x.f3.length c16) (.slice A12 x.f4.length c12) := ⟨_, rfl⟩
  have H3 := Lib.hid (PutD.of HF.out HbS.out HsS.out hw3)
  unfold set5 at hw3
  simp only [Exit.then]
  apply_assumption
  go_wp2_with fail
  rw [← hw3]
  clear hw3 g0 g1 g2 g3 g4 y0 y1 y2 y3 y4 hHeld
  have HNO : Hid (∀ j, (hj : j < x.f4.length) → x.f4[j] ≠ key) := by
    intro j hj he
    have h1 := HKEY.out
    unfold idxK at h1
    rw [if_pos (atK_lt (he ▸ List.getElem_mem hj))] at h1
    omega
  go_loopw [8] (fun i wr => ∃ k : Nat, k ≤ x.f4.length ∧ i = .int .i64 k ∧ wr = w3) (fun i _ => x.f4.length - (intOf i).toNat)
  case atStart => exact ⟨0, Nat.zero_le _, rfl, rfl⟩
  case round =>
    obtain ⟨k, hk, rfl, rfl⟩ := hrel
    have r4 := blk_cell H3.out.G 4
    by_cases hlt : k < x.f4.length
    · obtain ⟨b1, o1, rfl, hb1, hc1⟩ := at_str (Kd.R_reads' H3.out.k).2.2 k hlt
      have e5 := str_ne (HNO.out k hlt)
      go_wp2_with fail
      go_roundw
      case rel => exact ⟨k + 1, by omega, by go_num, trivial⟩
      case measure => simp [intOf]; omega
    · go_wp2_with fail
      obtain ⟨w3d, hw3d⟩ : ∃ w3d, w3d = wr.drew := ⟨_, rfl⟩
      have H3D : Hid (PutD S w wS x A12 c12 A16 c16 g w3d) := by rw [hw3d]; exact H3.out.drew
      have H3B := Lib.hid H3D.out.b
      have H3BW := Lib.hid H3D.out.bw
      have H3K := Lib.hid H3D.out.k
      have H3L := Lib.hid H3D.out.l
      have H3G := Lib.hid H3D.out.G
      have H3NE := Lib.hid H3D.out.ne
      have Hw3ds := Lib.hid H3D.out.sz
      clear r4
      refine start_ (n := 14) (S := fun w' => w'.cell? ⟨g, 3, none⟩ = some (.slice A16 x.f3.length c16) ∧ w'.cell? ⟨g, 4, none⟩ = some (.slice A12 x.f4.length c12) ∧ w'.cell? ⟨w.heap.size + 1, 0, none⟩ = some (.int .i64 y.f0) ∧ w'.cell? ⟨w.heap.size + 1, 1, none⟩ = some (.int .i64 y.f1) ∧ w'.cell? ⟨w.heap.size + 1, 2, none⟩ = some (.string y.f2) ∧ w'.cell? ⟨w.heap.size + 1, 3, none⟩ = some (.slice B3 y.f3.length d3) ∧ w'.cell? ⟨w.heap.size + 1, 4, none⟩ = some (.slice B4 y.f4.length d4)) (ds := [11, 13]) #[false, false, false, false, false, false, false, false, false, false, false, false, false, false] (by kernel_rfl) rfl rfl (put_held H3.out.drew.G (HMS.out.below H3.out.drew.bw H3.out.drew.b).X) (fun hHeld => ?_)
      rw [← hw3d] at hHeld ⊢
      clear hw3d
      refine pure_ (i := 0) (N := some 38) (v := ?_) (a' := ?_) #[true, false, false, false, false, false, false, false, false, false, false, false, false, false] rfl rfl (by kernel_rfl) (fun _ _ _ h => h) (Or.inl ⟨by rfl, ?_⟩) ?_ ?_
      rotate_left
      · intro w'
        go_simp
        with_reducible rfl
      rotate_left
      · simp only [Act.put, List.setIfInBounds_toArray, List.set_cons_zero, List.set_cons_succ, Go.Proofs.YtiddjadfkpjpdaaGreatDoorW.PrintLast.i64_w, Go.Proofs.YtiddjadfkpjpdaaGreatDoorW.PrintLast.i32_w]
        rfl
      refine take_ (i := 1) (N := some 39) (v := ?_) (a' := ?_) #[true, true, false, false, false, false, false, false, false, false, false, false, false, false] rfl rfl (by kernel_rfl) (fun _ _ _ h => h) (Or.inl ⟨by rfl, ?_⟩) hHeld ?_ ?_
      rotate_left
      · rintro w' ⟨s0, s1, s2, s3, s4, s5, s6⟩
        go_simp
        with_reducible rfl
      rotate_left
      · simp only [Act.put, List.setIfInBounds_toArray, List.set_cons_zero, List.set_cons_succ, Go.Proofs.YtiddjadfkpjpdaaGreatDoorW.PrintLast.i64_w, Go.Proofs.YtiddjadfkpjpdaaGreatDoorW.PrintLast.i32_w]
        rfl
      refine pure_ (i := 2) (N := some 40) (v := ?_) (a' := ?_) #[true, true, true, false, false, false, false, false, false, false, false, false, false, false] rfl rfl (by kernel_rfl) (fun _ _ _ h => h) (Or.inl ⟨by rfl, ?_⟩) ?_ ?_
      rotate_left
      · intro w'
        go_simp
        with_reducible rfl
      rotate_left
      · simp only [Act.put, List.setIfInBounds_toArray, List.set_cons_zero, List.set_cons_succ, Go.Proofs.YtiddjadfkpjpdaaGreatDoorW.PrintLast.i64_w, Go.Proofs.YtiddjadfkpjpdaaGreatDoorW.PrintLast.i32_w]
        rfl
      refine pure_ (i := 5) (N := some 43) (v := ?_) (a' := ?_) #[true, true, true, false, false, true, false, false, false, false, false, false, false, false] rfl rfl (by kernel_rfl) (fun _ _ _ h => h) (Or.inl ⟨by rfl, ?_⟩) ?_ ?_
      rotate_left
      · intro w'
        go_simp
        with_reducible rfl
      rotate_left
      · simp only [Act.put, List.setIfInBounds_toArray, List.set_cons_zero, List.set_cons_succ, Go.Proofs.YtiddjadfkpjpdaaGreatDoorW.PrintLast.i64_w, Go.Proofs.YtiddjadfkpjpdaaGreatDoorW.PrintLast.i32_w]
        rfl
      refine take_ (i := 6) (N := some 44) (v := ?_) (a' := ?_) #[true, true, true, false, false, true, true, false, false, false, false, false, false, false] rfl rfl (by kernel_rfl) (fun _ _ _ h => h) (Or.inl ⟨by rfl, ?_⟩) hHeld ?_ ?_
      rotate_left
      · rintro w' ⟨s0, s1, s2, s3, s4, s5, s6⟩
        go_simp
        with_reducible rfl
      rotate_left
      · simp only [Act.put, List.setIfInBounds_toArray, List.set_cons_zero, List.set_cons_succ, Go.Proofs.YtiddjadfkpjpdaaGreatDoorW.PrintLast.i64_w, Go.Proofs.YtiddjadfkpjpdaaGreatDoorW.PrintLast.i32_w]
        rfl
      refine take_ (i := 7) (N := some 45) (v := ?_) (a' := ?_) #[true, true, true, false, false, true, true, true, false, false, false, false, false, false] rfl rfl (by kernel_rfl) (fun _ _ _ h => h) (Or.inl ⟨by rfl, ?_⟩) hHeld ?_ ?_
      rotate_left
      · rintro w' ⟨s0, s1, s2, s3, s4, s5, s6⟩
        go_simp
        with_reducible rfl
      rotate_left
      · simp only [Act.put, List.setIfInBounds_toArray, List.set_cons_zero, List.set_cons_succ, Go.Proofs.YtiddjadfkpjpdaaGreatDoorW.PrintLast.i64_w, Go.Proofs.YtiddjadfkpjpdaaGreatDoorW.PrintLast.i32_w]
        rfl
      refine join_ (σ := Option Addr × Nat × Option Addr × Nat × Option Addr × Nat × Option Addr × Nat) 3 #[true, true, true, true, true, true, true, true, true, true, true, false, false, false] (fun s => [(41, .slice s.1 1 s.2.1), (42, .slice s.2.2.1 (x.f4 ++ [key]).length s.2.2.2.1), (48, .pointer (some ⟨g, 4, none⟩)), (46, .slice s.2.2.2.2.1 1 s.2.2.2.2.2.1), (47, .slice s.2.2.2.2.2.2.1 (x.f3 ++ [y]).length s.2.2.2.2.2.2.2)]) (fun s w' => PutG S w wS x y key (x.f4 ++ [key]) (x.f3 ++ [y]) s.2.2.1 s.2.2.2.1 s.2.2.2.2.2.2.1 s.2.2.2.2.2.2.2 A12 c12 A16 c16 g w') ?_ ?_
      rotate_left
      · intro hJ
        refine two_ (i := 3) (j := 8) (Ni := some 41) (Nj := some 46) #[true, true, true, true, false, true, true, true, false, false, false, false, false, false] #[true, true, true, false, false, true, true, true, true, false, false, false, false, false] rfl rfl rfl rfl (by kernel_rfl) (by decide) (by decide) (fun K hK => ?_) (fun K hK => ?_)
        · refine Kd.R_lit_step Kd.string (w0 := wS) wS.heap.size 9 (by rfl) (N := 41) rfl (xs := [key]) (inner := [.string key]) (ok := fun _ => True) (okp := fun _ => True) (by first | (go_simp; done) | (go_simp; rfl)) ((Reps.none _ _).snoc rfl rfl) (fun _ h => h) trivial H3B.out (Hw3ds.out) (by simp) ?_
          intro v_101 w_101 hR_101 hB_101 hg_101 hb_101
          obtain ⟨A41_101, c41_101, hv_101⟩ := Kd.R_slice hR_101
          subst hv_101
          have HKL_101 := Lib.hid hR_101
          have HK_101 := Lib.hid (Kd.R_grown H3K.out hg_101 (fun _ _ => by simp))
          have HL_101 := Lib.hid (Kd.R_grown H3L.out hg_101 (fun _ _ => by simp))
          have HG_101 := Lib.hid ((hg_101.block _ (blk_lt H3G.out) (by simp)).trans H3G.out)
          have HB_101 := Lib.hid hB_101
          have HBW_101 : Hid (Below w.heap.size w w_101) := HbS.out.trans (HB_101.out.mono HsS.out)
          have Hw_101s : Hid (wS.heap.size ≤ w_101.heap.size) := HB_101.out.size
          clear hR_101 hB_101 hg_101 hb_101
          refine hK.out _ _ (put_held HG_101.out (HMS.out.below HBW_101.out HB_101.out).X) (fun hHeld => ?_)
          clear hK K
          refine norm_ (a' := ?_) ?_ ?_
          rotate_left
          · show Act.put _ (some 41) _ = _
            simp only [Act.put, List.setIfInBounds_toArray, List.set_cons_zero, List.set_cons_succ, Go.Proofs.YtiddjadfkpjpdaaGreatDoorW.PrintLast.i64_w, Go.Proofs.YtiddjadfkpjpdaaGreatDoorW.PrintLast.i32_w]
            rfl
          refine two_ (i := 4) (j := 8) (Ni := some 42) (Nj := some 46) #[true, true, true, true, true, true, true, true, false, false, false, false, false, false] #[true, true, true, true, false, true, true, true, true, false, false, false, false, false] rfl rfl rfl rfl (by kernel_rfl) (by decide) (by decide) (fun K hK => ?_) (fun K hK => ?_)
          · refine Kd.R_append_rows_step Kd.string (Rr := Kd.string.K w_101) (w0 := wS) wS.heap.size (by rfl) (.tmp 39) (.tmp 41) 32 9 (.string ⟨#[]⟩) 16 rfl Tryz.underlying32 info9 rfl (by decide) (by decide) (.slice A12 x.f4.length c12) x.f4 [key] A41_101 1 c41_101 (fun _ => True) (fun _ => False) rfl rfl HK_101.out (Kd.R_reads' HKL_101.out).2.2 (fun _ _ h => h) (fun _ h => h.elim) (fun _ _ => trivial) HB_101.out (Hw_101s.out) (by omega) ?_
            intro v_102 w_102 hR_102 hB_102 hg_102 hat_102
            obtain ⟨A42_102, c42_102, hv_102⟩ := Kd.R_slice hR_102
            subst hv_102
            have HK_102 := Lib.hid hR_102
            have HL_102 := Lib.hid (Kd.R_over HL_101.out HK_101.out (by simp [Kd.string, Kd.scalar, kS]) hg_102)
            have HG_102 := Lib.hid ((hg_102.block _ (blk_lt HG_101.out) (Kd.R_ne HK_101.out HG_101.out (by decide))).trans HG_101.out)
            have HB_102 := Lib.hid hB_102
            have HBW_102 : Hid (Below w.heap.size w w_102) := HbS.out.trans (HB_102.out.mono HsS.out)
            have Hw_102s : Hid (wS.heap.size ≤ w_102.heap.size) := HB_102.out.size
            clear hR_102 hB_102 hg_102 hat_102
            refine hK.out _ _ (put_held HG_102.out (HMS.out.below HBW_102.out HB_102.out).X) (fun hHeld => ?_)
            clear hK K
            refine norm_ (a' := ?_) ?_ ?_
            rotate_left
            · show Act.put _ (some 42) _ = _
              simp only [Act.put, List.setIfInBounds_toArray, List.set_cons_zero, List.set_cons_succ, Go.Proofs.YtiddjadfkpjpdaaGreatDoorW.PrintLast.i64_w, Go.Proofs.YtiddjadfkpjpdaaGreatDoorW.PrintLast.i32_w]
              rfl
            refine pure_ (i := 10) (N := some 48) (v := ?_) (a' := ?_) #[true, true, true, true, true, true, true, true, false, false, true, false, false, false] rfl rfl (by kernel_rfl) (fun _ _ _ h => h) (Or.inl ⟨by rfl, ?_⟩) ?_ ?_
            rotate_left
            · intro w'
              go_simp
              with_reducible rfl
            rotate_left
            · simp only [Act.put, List.setIfInBounds_toArray, List.set_cons_zero, List.set_cons_succ, Go.Proofs.YtiddjadfkpjpdaaGreatDoorW.PrintLast.i64_w, Go.Proofs.YtiddjadfkpjpdaaGreatDoorW.PrintLast.i32_w]
              rfl
            refine one_ (i := 8) (N := some 46) #[true, true, true, true, true, true, true, true, true, false, true, false, false, false] rfl rfl (by kernel_rfl) (by decide) (fun K hK => ?_)
            refine Kd.R_lit_step (kS S w) (w0 := wS) wS.heap.size 38 (by rfl) (N := 46) rfl (xs := [y]) (inner := [.int .i64 y.f0, .int .i64 y.f1, .string y.f2, .slice B3 y.f3.length d3, .slice B4 y.f4.length d4]) (ok := fun _ => True) (okp := fun _ => True) (by first | (go_simp; done) | (go_simp; rfl)) ((Reps.none _ _).snoc HY.out rfl) (fun _ h => h) trivial HB_102.out (Hw_102s.out) (by simp) ?_
            intro v_103 w_103 hR_103 hB_103 hg_103 hb_103
            obtain ⟨A46_103, c46_103, hv_103⟩ := Kd.R_slice hR_103
            subst hv_103
            have HLL_103 := Lib.hid hR_103
            have HK_103 := Lib.hid (Kd.R_grown HK_102.out hg_103 (fun _ _ => by simp))
            have HL_103 := Lib.hid (Kd.R_grown HL_102.out hg_103 (fun _ _ => by simp))
            have HG_103 := Lib.hid ((hg_103.block _ (blk_lt HG_102.out) (by simp)).trans HG_102.out)
            have HB_103 := Lib.hid hB_103
            have HBW_103 : Hid (Below w.heap.size w w_103) := HbS.out.trans (HB_103.out.mono HsS.out)
            have Hw_103s : Hid (wS.heap.size ≤ w_103.heap.size) := HB_103.out.size
            clear hR_103 hB_103 hg_103 hb_103
            refine hK.out _ _ (put_held HG_103.out (HMS.out.below HBW_103.out HB_103.out).X) (fun hHeld => ?_)
            clear hK K
            refine norm_ (a' := ?_) ?_ ?_
            rotate_left
            · show Act.put _ (some 46) _ = _
              simp only [Act.put, List.setIfInBounds_toArray, List.set_cons_zero, List.set_cons_succ, Go.Proofs.YtiddjadfkpjpdaaGreatDoorW.PrintLast.i64_w, Go.Proofs.YtiddjadfkpjpdaaGreatDoorW.PrintLast.i32_w]
              rfl
            refine one_ (i := 9) (N := some 47) #[true, true, true, true, true, true, true, true, true, true, true, false, false, false] rfl rfl (by kernel_rfl) (by decide) (fun K hK => ?_)
            refine Kd.R_append_rows_step (kS S w) (Rr := (kS S w).K w) (w0 := wS) wS.heap.size (by rfl) (.tmp 44) (.tmp 46) 36 38 (.agg #[(.int .i64 0), (.int .i64 0), (.string ⟨#[]⟩), (.slice none 0 0), (.slice none 0 0)]) 80 rfl Tryz.underlying36 info38 rfl (Nat.succ_pos 4) (by decide) (.slice A16 x.f3.length c16) x.f3 [y] A46_103 1 c46_103 (fun _ => True) (fun _ => False) rfl rfl HL_103.out (Kd.R_reads' HLL_103.out).2.2 (fun _ _ h => h) (fun _ h => h.elim) (fun _ _ => trivial) HB_103.out (Hw_103s.out) (by omega) ?_
            intro v_104 w_104 hR_104 hB_104 hg_104 hat_104
            obtain ⟨A47_104, c47_104, hv_104⟩ := Kd.R_slice hR_104
            subst hv_104
            have HL_104 := Lib.hid hR_104
            have HNE_104 : Hid (some g ≠ (Value.slice A47_104 (x.f3 ++ [y]).length c47_104).ownBlock) := by
              show some _ ≠ _
              rcases hat_104 with h | ⟨b, hb1, hb2⟩
              · rw [h]; exact H3NE.out
              · rw [hb1]; intro e; injection e with e; have := blk_lt HG_103.out; omega
            have HK_104 := Lib.hid (Kd.R_over HK_103.out HL_103.out (by simp [Kd.string, Kd.scalar, kS]) hg_104)
            have HG_104 := Lib.hid ((hg_104.block _ (blk_lt HG_103.out) H3NE.out).trans HG_103.out)
            have HB_104 := Lib.hid hB_104
            have HBW_104 : Hid (Below w.heap.size w w_104) := HbS.out.trans (HB_104.out.mono HsS.out)
            have Hw_104s : Hid (wS.heap.size ≤ w_104.heap.size) := HB_104.out.size
            clear hR_104 hB_104 hg_104 hat_104
            refine hK.out _ _ (put_held HG_104.out (HMS.out.below HBW_104.out HB_104.out).X) (fun hHeld => ?_)
            clear hK K
            refine norm_ (a' := ?_) ?_ ?_
            rotate_left
            · show Act.put _ (some 47) _ = _
              simp only [Act.put, List.setIfInBounds_toArray, List.set_cons_zero, List.set_cons_succ, Go.Proofs.YtiddjadfkpjpdaaGreatDoorW.PrintLast.i64_w, Go.Proofs.YtiddjadfkpjpdaaGreatDoorW.PrintLast.i32_w]
              rfl
            exact hJ (A41_101, c41_101, A42_102, c42_102, A46_103, c46_103, A47_104, c47_104) w_104 ⟨HB_104.out, HK_104.out, HL_104.out, HG_104.out, HNE_104.out⟩
          · refine Kd.R_lit_step (kS S w) (w0 := wS) wS.heap.size 38 (by rfl) (N := 46) rfl (xs := [y]) (inner := [.int .i64 y.f0, .int .i64 y.f1, .string y.f2, .slice B3 y.f3.length d3, .slice B4 y.f4.length d4]) (ok := fun _ => True) (okp := fun _ => True) (by first | (go_simp; done) | (go_simp; rfl)) ((Reps.none _ _).snoc HY.out rfl) (fun _ h => h) trivial HB_101.out (Hw_101s.out) (by simp) ?_
            intro v_105 w_105 hR_105 hB_105 hg_105 hb_105
            obtain ⟨A46_105, c46_105, hv_105⟩ := Kd.R_slice hR_105
            subst hv_105
            have HLL_105 := Lib.hid hR_105
            have HK_105 := Lib.hid (Kd.R_grown HK_101.out hg_105 (fun _ _ => by simp))
            have HL_105 := Lib.hid (Kd.R_grown HL_101.out hg_105 (fun _ _ => by simp))
            have HKL_105 := Lib.hid (Kd.R_grown HKL_101.out hg_105 (fun _ _ => by simp))
            have HG_105 := Lib.hid ((hg_105.block _ (blk_lt HG_101.out) (by simp)).trans HG_101.out)
            have HB_105 := Lib.hid hB_105
            have HBW_105 : Hid (Below w.heap.size w w_105) := HbS.out.trans (HB_105.out.mono HsS.out)
            have Hw_105s : Hid (wS.heap.size ≤ w_105.heap.size) := HB_105.out.size
            clear hR_105 hB_105 hg_105 hb_105
            refine hK.out _ _ (put_held HG_105.out (HMS.out.below HBW_105.out HB_105.out).X) (fun hHeld => ?_)
            clear hK K
            refine norm_ (a' := ?_) ?_ ?_
            rotate_left
            · show Act.put _ (some 46) _ = _
              simp only [Act.put, List.setIfInBounds_toArray, List.set_cons_zero, List.set_cons_succ, Go.Proofs.YtiddjadfkpjpdaaGreatDoorW.PrintLast.i64_w, Go.Proofs.YtiddjadfkpjpdaaGreatDoorW.PrintLast.i32_w]
              rfl
            refine one_ (i := 4) (N := some 42) #[true, true, true, true, true, true, true, true, true, false, false, false, false, false] rfl rfl (by kernel_rfl) (by decide) (fun K hK => ?_)
            refine Kd.R_append_rows_step Kd.string (Rr := Kd.string.K w_105) (w0 := wS) wS.heap.size (by rfl) (.tmp 39) (.tmp 41) 32 9 (.string ⟨#[]⟩) 16 rfl Tryz.underlying32 info9 rfl (by decide) (by decide) (.slice A12 x.f4.length c12) x.f4 [key] A41_101 1 c41_101 (fun _ => True) (fun _ => False) rfl rfl HK_105.out (Kd.R_reads' HKL_105.out).2.2 (fun _ _ h => h) (fun _ h => h.elim) (fun _ _ => trivial) HB_105.out (Hw_105s.out) (by omega) ?_
            intro v_106 w_106 hR_106 hB_106 hg_106 hat_106
            obtain ⟨A42_106, c42_106, hv_106⟩ := Kd.R_slice hR_106
            subst hv_106
            have HK_106 := Lib.hid hR_106
            have HL_106 := Lib.hid (Kd.R_over HL_105.out HK_105.out (by simp [Kd.string, Kd.scalar, kS]) hg_106)
            have HLL_106 := Lib.hid (Kd.R_over HLL_105.out HK_105.out (by simp [Kd.string, Kd.scalar, kS]) hg_106)
            have HG_106 := Lib.hid ((hg_106.block _ (blk_lt HG_105.out) (Kd.R_ne HK_105.out HG_105.out (by decide))).trans HG_105.out)
            have HB_106 := Lib.hid hB_106
            have HBW_106 : Hid (Below w.heap.size w w_106) := HbS.out.trans (HB_106.out.mono HsS.out)
            have Hw_106s : Hid (wS.heap.size ≤ w_106.heap.size) := HB_106.out.size
            clear hR_106 hB_106 hg_106 hat_106
            refine hK.out _ _ (put_held HG_106.out (HMS.out.below HBW_106.out HB_106.out).X) (fun hHeld => ?_)
            clear hK K
            refine norm_ (a' := ?_) ?_ ?_
            rotate_left
            · show Act.put _ (some 42) _ = _
              simp only [Act.put, List.setIfInBounds_toArray, List.set_cons_zero, List.set_cons_succ, Go.Proofs.YtiddjadfkpjpdaaGreatDoorW.PrintLast.i64_w, Go.Proofs.YtiddjadfkpjpdaaGreatDoorW.PrintLast.i32_w]
              rfl
            refine pure_ (i := 10) (N := some 48) (v := ?_) (a' := ?_) #[true, true, true, true, true, true, true, true, true, false, true, false, false, false] rfl rfl (by kernel_rfl) (fun _ _ _ h => h) (Or.inl ⟨by rfl, ?_⟩) ?_ ?_
            rotate_left
            · intro w'
              go_simp
              with_reducible rfl
            rotate_left
            · simp only [Act.put, List.setIfInBounds_toArray, List.set_cons_zero, List.set_cons_succ, Go.Proofs.YtiddjadfkpjpdaaGreatDoorW.PrintLast.i64_w, Go.Proofs.YtiddjadfkpjpdaaGreatDoorW.PrintLast.i32_w]
              rfl
            refine one_ (i := 9) (N := some 47) #[true, true, true, true, true, true, true, true, true, true, true, false, false, false] rfl rfl (by kernel_rfl) (by decide) (fun K hK => ?_)
            refine Kd.R_append_rows_step (kS S w) (Rr := (kS S w).K w) (w0 := wS) wS.heap.size (by rfl) (.tmp 44) (.tmp 46) 36 38 (.agg #[(.int .i64 0), (.int .i64 0), (.string ⟨#[]⟩), (.slice none 0 0), (.slice none 0 0)]) 80 rfl Tryz.underlying36 info38 rfl (Nat.succ_pos 4) (by decide) (.slice A16 x.f3.length c16) x.f3 [y] A46_105 1 c46_105 (fun _ => True) (fun _ => False) rfl rfl HL_106.out (Kd.R_reads' HLL_106.out).2.2 (fun _ _ h => h) (fun _ h => h.elim) (fun _ _ => trivial) HB_106.out (Hw_106s.out) (by omega) ?_
            intro v_107 w_107 hR_107 hB_107 hg_107 hat_107
            obtain ⟨A47_107, c47_107, hv_107⟩ := Kd.R_slice hR_107
            subst hv_107
            have HL_107 := Lib.hid hR_107
            have HNE_107 : Hid (some g ≠ (Value.slice A47_107 (x.f3 ++ [y]).length c47_107).ownBlock) := by
              show some _ ≠ _
              rcases hat_107 with h | ⟨b, hb1, hb2⟩
              · rw [h]; exact H3NE.out
              · rw [hb1]; intro e; injection e with e; have := blk_lt HG_106.out; omega
            have HK_107 := Lib.hid (Kd.R_over HK_106.out HL_106.out (by simp [Kd.string, Kd.scalar, kS]) hg_107)
            have HG_107 := Lib.hid ((hg_107.block _ (blk_lt HG_106.out) H3NE.out).trans HG_106.out)
            have HB_107 := Lib.hid hB_107
            have HBW_107 : Hid (Below w.heap.size w w_107) := HbS.out.trans (HB_107.out.mono HsS.out)
            have Hw_107s : Hid (wS.heap.size ≤ w_107.heap.size) := HB_107.out.size
            clear hR_107 hB_107 hg_107 hat_107
            refine hK.out _ _ (put_held HG_107.out (HMS.out.below HBW_107.out HB_107.out).X) (fun hHeld => ?_)
            clear hK K
            refine norm_ (a' := ?_) ?_ ?_
            rotate_left
            · show Act.put _ (some 47) _ = _
              simp only [Act.put, List.setIfInBounds_toArray, List.set_cons_zero, List.set_cons_succ, Go.Proofs.YtiddjadfkpjpdaaGreatDoorW.PrintLast.i64_w, Go.Proofs.YtiddjadfkpjpdaaGreatDoorW.PrintLast.i32_w]
              rfl
            exact hJ (A41_101, c41_101, A42_106, c42_106, A46_105, c46_105, A47_107, c47_107) w_107 ⟨HB_107.out, HK_107.out, HL_107.out, HG_107.out, HNE_107.out⟩
        · refine Kd.R_lit_step (kS S w) (w0 := wS) wS.heap.size 38 (by rfl) (N := 46) rfl (xs := [y]) (inner := [.int .i64 y.f0, .int .i64 y.f1, .string y.f2, .slice B3 y.f3.length d3, .slice B4 y.f4.length d4]) (ok := fun _ => True) (okp := fun _ => True) (by first | (go_simp; done) | (go_simp; rfl)) ((Reps.none _ _).snoc HY.out rfl) (fun _ h => h) trivial H3B.out (Hw3ds.out) (by simp) ?_
          intro v_108 w_108 hR_108 hB_108 hg_108 hb_108
          obtain ⟨A46_108, c46_108, hv_108⟩ := Kd.R_slice hR_108
          subst hv_108
          have HLL_108 := Lib.hid hR_108
          have HK_108 := Lib.hid (Kd.R_grown H3K.out hg_108 (fun _ _ => by simp))
          have HL_108 := Lib.hid (Kd.R_grown H3L.out hg_108 (fun _ _ => by simp))
          have HG_108 := Lib.hid ((hg_108.block _ (blk_lt H3G.out) (by simp)).trans H3G.out)
          have HB_108 := Lib.hid hB_108
          have HBW_108 : Hid (Below w.heap.size w w_108) := HbS.out.trans (HB_108.out.mono HsS.out)
          have Hw_108s : Hid (wS.heap.size ≤ w_108.heap.size) := HB_108.out.size
          clear hR_108 hB_108 hg_108 hb_108
          refine hK.out _ _ (put_held HG_108.out (HMS.out.below HBW_108.out HB_108.out).X) (fun hHeld => ?_)
          clear hK K
          refine norm_ (a' := ?_) ?_ ?_
          rotate_left
          · show Act.put _ (some 46) _ = _
            simp only [Act.put, List.setIfInBounds_toArray, List.set_cons_zero, List.set_cons_succ, Go.Proofs.YtiddjadfkpjpdaaGreatDoorW.PrintLast.i64_w, Go.Proofs.YtiddjadfkpjpdaaGreatDoorW.PrintLast.i32_w]
            rfl
          refine one_ (i := 3) (N := some 41) #[true, true, true, true, false, true, true, true, true, false, false, false, false, false] rfl rfl (by kernel_rfl) (by decide) (fun K hK => ?_)
          refine Kd.R_lit_step Kd.string (w0 := wS) wS.heap.size 9 (by rfl) (N := 41) rfl (xs := [key]) (inner := [.string key]) (ok := fun _ => True) (okp := fun _ => True) (by first | (go_simp; done) | (go_simp; rfl)) ((Reps.none _ _).snoc rfl rfl) (fun _ h => h) trivial HB_108.out (Hw_108s.out) (by simp) ?_
          intro v_109 w_109 hR_109 hB_109 hg_109 hb_109
          obtain ⟨A41_109, c41_109, hv_109⟩ := Kd.R_slice hR_109
          subst hv_109
          have HKL_109 := Lib.hid hR_109
          have HK_109 := Lib.hid (Kd.R_grown HK_108.out hg_109 (fun _ _ => by simp))
          have HL_109 := Lib.hid (Kd.R_grown HL_108.out hg_109 (fun _ _ => by simp))
          have HLL_109 := Lib.hid (Kd.R_grown HLL_108.out hg_109 (fun _ _ => by simp))
          have HG_109 := Lib.hid ((hg_109.block _ (blk_lt HG_108.out) (by simp)).trans HG_108.out)
          have HB_109 := Lib.hid hB_109
          have HBW_109 : Hid (Below w.heap.size w w_109) := HbS.out.trans (HB_109.out.mono HsS.out)
          have Hw_109s : Hid (wS.heap.size ≤ w_109.heap.size) := HB_109.out.size
          clear hR_109 hB_109 hg_109 hb_109
          refine hK.out _ _ (put_held HG_109.out (HMS.out.below HBW_109.out HB_109.out).X) (fun hHeld => ?_)
          clear hK K
          refine norm_ (a' := ?_) ?_ ?_
          rotate_left
          · show Act.put _ (some 41) _ = _
            simp only [Act.put, List.setIfInBounds_toArray, List.set_cons_zero, List.set_cons_succ, Go.Proofs.YtiddjadfkpjpdaaGreatDoorW.PrintLast.i64_w, Go.Proofs.YtiddjadfkpjpdaaGreatDoorW.PrintLast.i32_w]
            rfl
          refine one_ (i := 4) (N := some 42) #[true, true, true, true, true, true, true, true, true, false, false, false, false, false] rfl rfl (by kernel_rfl) (by decide) (fun K hK => ?_)
          refine Kd.R_append_rows_step Kd.string (Rr := Kd.string.K w_109) (w0 := wS) wS.heap.size (by rfl) (.tmp 39) (.tmp 41) 32 9 (.string ⟨#[]⟩) 16 rfl Tryz.underlying32 info9 rfl (by decide) (by decide) (.slice A12 x.f4.length c12) x.f4 [key] A41_109 1 c41_109 (fun _ => True) (fun _ => False) rfl rfl HK_109.out (Kd.R_reads' HKL_109.out).2.2 (fun _ _ h => h) (fun _ h => h.elim) (fun _ _ => trivial) HB_109.out (Hw_109s.out) (by omega) ?_
          intro v_110 w_110 hR_110 hB_110 hg_110 hat_110
          obtain ⟨A42_110, c42_110, hv_110⟩ := Kd.R_slice hR_110
          subst hv_110
          have HK_110 := Lib.hid hR_110
          have HL_110 := Lib.hid (Kd.R_over HL_109.out HK_109.out (by simp [Kd.string, Kd.scalar, kS]) hg_110)
          have HLL_110 := Lib.hid (Kd.R_over HLL_109.out HK_109.out (by simp [Kd.string, Kd.scalar, kS]) hg_110)
          have HG_110 := Lib.hid ((hg_110.block _ (blk_lt HG_109.out) (Kd.R_ne HK_109.out HG_109.out (by decide))).trans HG_109.out)
          have HB_110 := Lib.hid hB_110
          have HBW_110 : Hid (Below w.heap.size w w_110) := HbS.out.trans (HB_110.out.mono HsS.out)
          have Hw_110s : Hid (wS.heap.size ≤ w_110.heap.size) := HB_110.out.size
          clear hR_110 hB_110 hg_110 hat_110
          refine hK.out _ _ (put_held HG_110.out (HMS.out.below HBW_110.out HB_110.out).X) (fun hHeld => ?_)
          clear hK K
          refine norm_ (a' := ?_) ?_ ?_
          rotate_left
          · show Act.put _ (some 42) _ = _
            simp only [Act.put, List.setIfInBounds_toArray, List.set_cons_zero, List.set_cons_succ, Go.Proofs.YtiddjadfkpjpdaaGreatDoorW.PrintLast.i64_w, Go.Proofs.YtiddjadfkpjpdaaGreatDoorW.PrintLast.i32_w]
            rfl
          refine pure_ (i := 10) (N := some 48) (v := ?_) (a' := ?_) #[true, true, true, true, true, true, true, true, true, false, true, false, false, false] rfl rfl (by kernel_rfl) (fun _ _ _ h => h) (Or.inl ⟨by rfl, ?_⟩) ?_ ?_
          rotate_left
          · intro w'
            go_simp
            with_reducible rfl
          rotate_left
          · simp only [Act.put, List.setIfInBounds_toArray, List.set_cons_zero, List.set_cons_succ, Go.Proofs.YtiddjadfkpjpdaaGreatDoorW.PrintLast.i64_w, Go.Proofs.YtiddjadfkpjpdaaGreatDoorW.PrintLast.i32_w]
            rfl
          refine one_ (i := 9) (N := some 47) #[true, true, true, true, true, true, true, true, true, true, true, false, false, false] rfl rfl (by kernel_rfl) (by decide) (fun K hK => ?_)
          refine Kd.R_append_rows_step (kS S w) (Rr := (kS S w).K w) (w0 := wS) wS.heap.size (by rfl) (.tmp 44) (.tmp 46) 36 38 (.agg #[(.int .i64 0), (.int .i64 0), (.string ⟨#[]⟩), (.slice none 0 0), (.slice none 0 0)]) 80 rfl Tryz.underlying36 info38 rfl (Nat.succ_pos 4) (by decide) (.slice A16 x.f3.length c16) x.f3 [y] A46_108 1 c46_108 (fun _ => True) (fun _ => False) rfl rfl HL_110.out (Kd.R_reads' HLL_110.out).2.2 (fun _ _ h => h) (fun _ h => h.elim) (fun _ _ => trivial) HB_110.out (Hw_110s.out) (by omega) ?_
          intro v_111 w_111 hR_111 hB_111 hg_111 hat_111
          obtain ⟨A47_111, c47_111, hv_111⟩ := Kd.R_slice hR_111
          subst hv_111
          have HL_111 := Lib.hid hR_111
          have HNE_111 : Hid (some g ≠ (Value.slice A47_111 (x.f3 ++ [y]).length c47_111).ownBlock) := by
            show some _ ≠ _
            rcases hat_111 with h | ⟨b, hb1, hb2⟩
            · rw [h]; exact H3NE.out
            · rw [hb1]; intro e; injection e with e; have := blk_lt HG_110.out; omega
          have HK_111 := Lib.hid (Kd.R_over HK_110.out HL_110.out (by simp [Kd.string, Kd.scalar, kS]) hg_111)
          have HG_111 := Lib.hid ((hg_111.block _ (blk_lt HG_110.out) H3NE.out).trans HG_110.out)
          have HB_111 := Lib.hid hB_111
          have HBW_111 : Hid (Below w.heap.size w w_111) := HbS.out.trans (HB_111.out.mono HsS.out)
          have Hw_111s : Hid (wS.heap.size ≤ w_111.heap.size) := HB_111.out.size
          clear hR_111 hB_111 hg_111 hat_111
          refine hK.out _ _ (put_held HG_111.out (HMS.out.below HBW_111.out HB_111.out).X) (fun hHeld => ?_)
          clear hK K
          refine norm_ (a' := ?_) ?_ ?_
          rotate_left
          · show Act.put _ (some 47) _ = _
            simp only [Act.put, List.setIfInBounds_toArray, List.set_cons_zero, List.set_cons_succ, Go.Proofs.YtiddjadfkpjpdaaGreatDoorW.PrintLast.i64_w, Go.Proofs.YtiddjadfkpjpdaaGreatDoorW.PrintLast.i32_w]
            rfl
          exact hJ (A41_109, c41_109, A42_110, c42_110, A46_108, c46_108, A47_111, c47_111) w_111 ⟨HB_111.out, HK_111.out, HL_111.out, HG_111.out, HNE_111.out⟩
      rintro ⟨A41, c41, A42, c42, A46, c46, A47, c47⟩ w4 hF4
      have HF4 := Lib.hid hF4
      clear hF4
      refine norm_ (a' := ?_) ?_ ?_
      rotate_left
      · simp only [putAll]
        simp only [Act.put, List.setIfInBounds_toArray, List.set_cons_zero, List.set_cons_succ, Go.Proofs.YtiddjadfkpjpdaaGreatDoorW.PrintLast.i64_w, Go.Proofs.YtiddjadfkpjpdaaGreatDoorW.PrintLast.i32_w]
        rfl
      refine last_ (i := 11) (N := none) #[true, true, true, true, true, true, true, true, true, true, true, true, false, false] rfl rfl (by kernel_rfl) (by decide) (fun K hK => ?_)
      have t3 := blk_cell HF4.out.G 3
      have t4 := blk_cell HF4.out.G 4
      have u3 := blk_frozen HF4.out.G 3
      have u4 := blk_frozen HF4.out.G 4
      refine skip_ (w1 := ?_) (by rfl) rfl ?_ ?_
      rotate_left
      · go_simp
        rfl
      refine hK.out _ _ ?_
      clear hK K
      refine pure_ (i := 12) (N := some 49) (v := ?_) (a' := ?_) #[true, true, true, true, true, true, true, true, true, true, true, true, true, false] rfl rfl (by kernel_rfl) (fun _ _ _ h => h) (Or.inl ⟨by rfl, ?_⟩) ?_ ?_
      rotate_left
      · intro w'
        go_simp
        with_reducible rfl
      rotate_left
      · simp only [Act.put, List.setIfInBounds_toArray, List.set_cons_zero, List.set_cons_succ, Go.Proofs.YtiddjadfkpjpdaaGreatDoorW.PrintLast.i64_w, Go.Proofs.YtiddjadfkpjpdaaGreatDoorW.PrintLast.i32_w]
        rfl
      refine last_ (i := 13) (N := none) #[true, true, true, true, true, true, true, true, true, true, true, true, true, true] rfl rfl (by kernel_rfl) (by decide) (fun K hK => ?_)
      refine skip_ (w1 := ?_) (by rfl) rfl ?_ ?_
      rotate_left
      · go_simp
        rfl
      refine hK.out _ _ ?_
      clear hK K
      refine done_ (by kernel_rfl) ?_
      have hge := H3D.out.ge
      have hss := HsS.out
      have hMs := HMS.out
      have hZlt := blk_lt hMs.Z
      obtain ⟨w9, hw9⟩ : ∃ w9, w9 = (w4.setCell ⟨g, 4, none⟩ (.slice A42 (x.f4.length + 1) c42)).setCell ⟨g, 3, none⟩ (.slice A47 (x.f3.length + 1) c47) := ⟨_, rfl⟩
      have hV9 : w9.heap[g]? = some (.cells #[.int .i64 6, .int .i64 0, .string ⟨#[]⟩, .slice A47 (x.f3.length + 1) c47, .slice A42 (x.f4.length + 1) c42] 38 (0, 0)) := by
        rw [hw9]; exact blk_set (blk_set HF4.out.G 4 _) 3 _
      have hf9 : ∀ q, q ≠ g → w9.heap[q]? = w4.heap[q]? := fun q hq => by
        rw [hw9, Below.heap_setCell _ _ _ _ (by simpa using hq), Below.heap_setCell _ _ _ _ (by simpa using hq)]
      have hBW4 : Below w.heap.size w w4 := HbS.out.trans (HF4.out.b.mono HsS.out)
      have hZ9 : w9.heap[w.heap.size + 1 + 1]? = some (.cells #[.int .i64 0, .int .i64 0, .string ⟨#[]⟩, .slice none 0 0, .slice none 0 0] 38 (0, 0)) := (hf9 _ (by omega)).trans (hMs.below hBW4 HF4.out.b).Z
      have hB9 : Below w.heap.size w w9 := by rw [hw9]; exact (hBW4.setCell (by simp; omega) _).setCell (by simp; omega) _
      have hZ10 := set5_blk hZ9 (.int .i64 6) (.int .i64 0) (.string ⟨#[]⟩) (.slice A47 (x.f3.length + 1) c47) (.slice A42 (x.f4.length + 1) c42)
      have hB10 := set5_below hB9 (w.heap.size + 1 + 1) (by omega) (.int .i64 6) (.int .i64 0) (.string ⟨#[]⟩) (.slice A47 (x.f3.length + 1) c47) (.slice A42 (x.f4.length + 1) c42)
      have hK9 := Kd.R_mono (Kd.R_step (Kd.R_types HF4.out.k HF4.out.G (by simp [Kd.string, Kd.scalar])) (fun q hq _ => hf9 q hq.2)) (ok' := fun _ => True) (fun _ _ => trivial)
      have hL9 := kS_step HF4.out.l (fun q hq => hf9 q (fun he => HF4.out.ne (by rw [← he]; exact hq)))
      have hO9 : OwnS S w9 w.heap.size (setB ⟨6, 0, ⟨#[]⟩, x.f3, x.f4⟩ key y) A47 c47 A42 c42 := ⟨Kd.R_lower (kS_R hL9 (fun k hk => hB9.block k (hS k hk))) HsS.out, Kd.R_lower hK9 HsS.out⟩
      have hZlt2 : ∀ q, wS.heap.size ≤ q → q ≠ w.heap.size + 1 + 1 := fun q hq => by omega
      have hO10 : OwnS S (set5 w9 (w.heap.size + 1 + 1) (.int .i64 6) (.int .i64 0) (.string ⟨#[]⟩) (.slice A47 (x.f3.length + 1) c47) (.slice A42 (x.f4.length + 1) c42)) w.heap.size (setB ⟨6, 0, ⟨#[]⟩, x.f3, x.f4⟩ key y) A47 c47 A42 c42 :=
        ⟨Kd.R_lower (kS_R (kS_step hL9 (fun q hq => set5_far _ _ _ _ _ _ _ q (hZlt2 q (Kd.R_base hL9 q hq.symm)))) (fun k hk => hB10.block k (hS k hk))) HsS.out,
         Kd.R_lower (Kd.R_mono (Kd.R_step (Kd.R_bound hK9) (fun q hq _ => set5_far _ _ _ _ _ _ _ q (hZlt2 q hq.2.1))) (fun _ _ => trivial)) HsS.out⟩
      have HVC := Lib.hid hO10
      have HZ10 := Lib.hid hZ10
      have HB10 := Lib.hid hB10
      have v0 := blk_cell hV9 0
      have v1 := blk_cell hV9 1
      have v2 := blk_cell hV9 2
      have v3 := blk_cell hV9 3
      have v4 := blk_cell hV9 4
      have z0 := blk_cell hZ9 0
      have z1 := blk_cell hZ9 1
      have z2 := blk_cell hZ9 2
      have z3 := blk_cell hZ9 3
      have z4 := blk_cell hZ9 4
      have y0 := blk_frozen hZ9 0
      have y1 := blk_frozen hZ9 1
      have y2 := blk_frozen hZ9 2
      have y3 := blk_frozen hZ9 3
      have y4 := blk_frozen hZ9 4
      rw [← hw9]
      clear hV9 hf9 hZ9 hB9 hge hss hMs hZlt hZ10 hB10 hBW4 hK9 hL9 hO9 hZlt2 hO10 hHeld t3 t4 u3 u4
      clear hw9
      simp only [Exit.then]
      apply_assumption
      go_wp2_with fail
      refine bodyPost_ret (results_cell_row rfl _ _ (w.heap.size + 1 + 1) 38 _ (0, 0) _ rfl HZ10.out Tryz.underlying38 rfl (by kernel_rfl)) rfl ?_
      exact ⟨A47, c47, A42, c42, by rw [show (setB ⟨6, 0, ⟨#[]⟩, x.f3, x.f4⟩ key y).f3.length = x.f3.length + 1 from by simp [setB], show (setB ⟨6, 0, ⟨#[]⟩, x.f3, x.f4⟩ key y).f4.length = x.f4.length + 1 from by simp [setB]]; rfl, HVC.out, HB10.out⟩
end Go.Proofs.YtiddjadfkpjpdaaGreatDoor.Q
