/- json.unlike: are keys unlike? They are sorted, and equal neighbours are taken together. -/
import Derived.Test.YtiddjadfkpjpdaaGreatDoorHShelf
import Derived.Test.YtiddjadfkpjpdaaGreatDoorHBase
import Derived.Shelf.SlIter.Sorted
import Derived.Shelf.SlGeneric
import Derived.Lib.Hide
namespace Go.Proofs
open Go.Shelf
def Tryz.sortedA_ren : Go.Shelf.Ren := ⟨fun | 6 => 129 | 8 => 155 | 9 => 156 | 11 => 178 | 13 => 180 | 12 => 179 | 23 => 208 | 24 => 182 | 14 => 199 | 15 => 200 | 16 => 201 | 17 => 202 | 18 => 203 | 19 => 204 | 20 => 205 | 21 => 206 | 22 => 207 | 25 => 214 | 26 => 215 | 27 => 216 | 28 => 217 | 29 => 218 | 30 => 219 | 31 => 220 | n => n, fun | 26 => 9 | 28 => 143 | 24 => 32 | 0 => 0 | 3 => 3 | 37 => 107 | 48 => 106 | 50 => 117 | 4 => 4 | 40 => 206 | 39 => 205 | 45 => 210 | 5 => 5 | 9 => 9 | 51 => 222 | 55 => 226 | 57 => 229 | 58 => 230 | 33 => 43 | n => n, fun | n => n⟩
theorem Tryz.sortedA : Go.Proofs.SlLaysZ.n6 Tryz.prog Tryz.sortedA_ren := {
  mixed := by kernel_rfl
  f6 := ⟨Tryz.f129.name, by decide, Tryz.func129.trans (congrArg some (by kernel_rfl))⟩
  f8 := ⟨Tryz.f155.name, by decide, Tryz.func155.trans (congrArg some (by kernel_rfl))⟩
  f11 := ⟨Tryz.f178.name, by decide, Tryz.func178.trans (congrArg some (by kernel_rfl))⟩
  t0 := Tryz.underlying0
  a0 := Tryz.isAgg0
  z0 := Tryz.sizeOf0
  v0 := Tryz.zeroValue0
  t24 := Tryz.underlying32
  a24 := Tryz.isAgg32
  z24 := Tryz.sizeOf32
  v24 := Tryz.zeroValue32
  t26 := Tryz.underlying9
  a26 := Tryz.isAgg9
  z26 := Tryz.sizeOf9
  v26 := Tryz.zeroValue9
  t28 := Tryz.underlying143
  a28 := Tryz.isAgg143
  z28 := Tryz.sizeOf143
  v28 := Tryz.zeroValue143
  i26 := by kernel_rfl }
end Go.Proofs
namespace Go.Proofs.YtiddjadfkpjpdaaGreatDoor.Q
open Go.RowKit Go.Proofs.YtiddjadfkpjpdaaGreatDoorW.PrintWords Go.Maps Go.Sort
/-- A text's bytes. -/
def byt (s : ByteArray) : List UInt8 := s.data.toList
theorem encStr_byt (s : ByteArray) : encStr (byt s) = .string s := rfl
set_option maxRecDepth 100000 in
set_option maxHeartbeats 1000000 in
/-- slices.Values' iterator: the elements come in their order. -/
theorem values1 (n : Nat) (hn : 1 ≤ n) (l b : Nat) (A : Option Addr) (c : Nat) (ks : List ByteArray) (w0 : World) (hbox : w0.cell? ⟨b, 0, none⟩ = some (.slice A ks.length c)) (hb : b < w0.heap.size) (hC : Kd.string.C w0 A ks.length ks)
    (hm : ks.length ≤ 1099511627776) (J : List (List UInt8) → World → Prop) (hJB : ∀ s W, J s W → Below w0.heap.size w0 W)
    (hY : ∀ pre x W, J pre W → pre.length < ks.length → YieldAt Fence.wide (n - 1) Tryz.prog l #[encStr x] W fun e W' => e = .returned (.bool true) ∧ J (pre ++ [x]) W' ∧ KeepsWalks W W') (W : World) (h0 : J [] W) :
    CallsIn Fence.wide n Tryz.prog 157 #[.func (.yield l) #[] #[], .pointer (some ⟨b, 0, none⟩)] W fun e W' => (∃ v, e = .returned v) ∧ J (ks.map byt) W' := by
  have hbW := hJB _ _ h0
  have hcell : W.cell? ⟨b, 0, none⟩ = some (.slice A ks.length c) := (hbW.cell (p := ⟨b, 0, none⟩) hb).trans hbox
  have HY := Lib.hid hY
  have HJB := Lib.hid hJB
  clear hY hJB
  refine callsIn_of_wp Tryz.func157 rfl trivial ?_ rfl
  simp only [Tryz.ntmps157, List.size_toArray, List.length_cons, List.length_nil, Nat.reduceAdd, Nat.reduceSub, Array.replicate_succ, Array.replicate_zero, List.push_toArray, List.append_toArray, List.nil_append, List.cons_append]
  gi_wp2_with gi_in
  gi_loopw [7] (fun i wr => ∃ k : Nat, k ≤ ks.length ∧ i = .int .i64 k ∧ J ((ks.take k).map byt) wr) (fun i _ => ks.length - (intOf i).toNat)
  case atStart => exact ⟨0, Nat.zero_le _, rfl, by simpa using h0⟩
  case round =>
    obtain ⟨k, hk, rfl, hJ⟩ := hrel
    have hbw := HJB.out _ _ hJ
    by_cases hlt : k < ks.length
    · obtain ⟨bk, o, rfl, hbk, hc0⟩ := at_str (Kd.C_below hC hbw) k hlt
      obtain ⟨fn, tmps, assign, body, hy, hR⟩ := HY.out ((ks.take k).map byt) (byt ks[k]) _ hJ (by simp; omega)
      rw [encStr_byt] at hy
      gi_wp2
      refine hR.mono ?_
      rintro e W3 ⟨rfl, hJ3, hk3⟩
      gi_wp2
      go_roundw
      case rel => exact ⟨k + 1, by omega, by go_num, by rw [List.take_succ_eq_append_getElem hlt, List.map_append]; exact hJ3⟩
      case measure => simp [intOf]; omega
    · rw [List.take_of_length_le (by omega)] at hJ
      gi_wp2
      go_end0
      exact ⟨⟨_, rfl⟩, hJ⟩
set_option maxRecDepth 100000 in
set_option maxHeartbeats 2000000 in
/-- slices.AppendSeq(nil, slices.Values(ks)): a new row that holds the elements. -/
theorem appendSeq_values (b : Nat) (A : Option Addr) (c : Nat) (ks : List ByteArray) (w : World) (hbox : w.cell? ⟨b, 0, none⟩ = some (.slice A ks.length c)) (hb : b < w.heap.size) (hC : Kd.string.C w A ks.length ks)
    (hm : ks.length ≤ 1099511627776) :
    CallsIn Fence.wide 3 Tryz.prog 178 #[.slice none 0 0, .func (.func 157) #[] #[.pointer (some ⟨b, 0, none⟩)]] w fun e w' => ∃ v : Value, e = .returned v ∧ w'.ownsRow w.heap.size 9 1 v (ks.map byt).length ((ks.map byt).map encStr) ∧ (v = .slice none 0 0 ↔ ks.map byt = []) ∧ Below w.heap.size w w' := by
  have L : SlLaysZ.n11 Tryz.prog Tryz.sortedA_ren := { Tryz.sortedA with }
  obtain ⟨_, _, FG⟩ := L.f11
  have e157 : ∀ args w, (callFunc 157 args).run Tryz.prog w = .ok (.enter 157 args) w := enters_of Tryz.func157 (by kernel_rfl) rfl
  refine callsIn_of_wp_marks Tryz.func178 rfl trivial ?_ rfl
  simp only [Tryz.ntmps178, List.size_toArray, List.length_cons, List.length_nil, Nat.reduceAdd, Nat.reduceSub, Array.replicate_succ, Array.replicate_zero, List.push_toArray, List.append_toArray, List.nil_append, List.cons_append]
  gi_wp2
  refine wpIn_rangeFunc ?_
  intro fn hfn
  obtain ⟨W0, hW0⟩ : ∃ W0, w.alloc (.cells #[.slice none 0 0] 32) = W0 := ⟨_, rfl⟩
  have hs0 : W0.heap.size = w.heap.size + 1 := by rw [← hW0]; simp
  have hv0 : W0.heap[w.heap.size]? = some (.cells #[.slice none 0 0] 32 (0, 0)) := by rw [← hW0]; exact World.alloc_heap_new w _
  have hb0 : Below w.heap.size w W0 := by rw [← hW0]; exact (Below.refl _ w).alloc (Nat.le_refl _) _
  rw [hW0]
  obtain ⟨sv, hsv⟩ : ∃ sv, sv = Value.func (Fn.func 157) #[] #[Value.pointer (some { block := b, off := 0 })] := ⟨_, rfl⟩
  obtain ⟨W1, hW1⟩ : ∃ W1, (W0.alloc (.deferred (some []))).alloc (.loop (AnyZ.apRec Tryz.sortedA_ren fn sv w.heap.size W0.heap.size .ready none)) = W1 := ⟨_, rfl⟩
  have hold : ∀ k, k < W0.heap.size → W1.heap[k]? = W0.heap[k]? := fun k hk => by
    rw [← hW1]; exact (Below.heap_alloc _ _ k (by simp; omega)).trans (Below.heap_alloc _ _ k hk)
  have hb1 : Below w.heap.size w W1 := by rw [← hW1]; exact (hb0.alloc hb0.size _).alloc (by have := hb0.size; simp; omega) _
  have hs1 : W1.heap.size = W0.heap.size + 2 := by rw [← hW1]; simp
  have hM : AnyZ.ApAt Tryz.sortedA_ren w fn sv w.heap.size (W0.heap.size + 1) W0.heap.size [] W1 :=
    ⟨⟨_, (hold w.heap.size (by omega)).trans hv0, ⟨rfl, .inl ⟨rfl, rfl⟩⟩, by simp⟩,
     by rw [← hW1]; have := World.alloc_heap_new (W0.alloc (.deferred (some []))) (.loop (AnyZ.apRec Tryz.sortedA_ren fn sv w.heap.size W0.heap.size .ready none)); rwa [World.size_alloc] at this,
     by rw [← hW1]; exact (Below.heap_alloc _ _ _ (by simp)).trans (World.alloc_heap_new W0 _), hb1⟩
  rw [← hsv]
  refine ⟨W0.heap.size + 1, [{ target := .collected W0.heap.size, args := #[] }], W1, { target := .fn (.func 157) #[.pointer (some { block := b, off := 0 })], args := #[.func (.yield (W0.heap.size + 1)) #[] #[]] }, W1, 157,
    #[.func (.yield (W0.heap.size + 1)) #[] #[], .pointer (some { block := b, off := 0 })], W1, ?_, ?_, ?_, ?_, fun _ => by omega, ?_⟩
  · rw [← hW1]; exact run_enterLoop_outer _ _ _ _ _
  · simp [resolve, go_sem, hsv]
  · intro f' hf'; trivial
  · simp [invoke, go_sem, e157]
  · refine (values1 2 (by omega) (W0.heap.size + 1) b A c ks w hbox hb hC hm (AnyZ.ApAt Tryz.sortedA_ren w fn sv w.heap.size (W0.heap.size + 1) W0.heap.size) (fun s W h => h.below)
      (fun pre x W hJ hl => AnyZ.apYield L Fence.wide (2 - 1) w fn hfn sv w.heap.size (W0.heap.size + 1) W0.heap.size (by omega) (by omega) (by omega) (Nat.le_refl _) (by omega) ks.length (by unfold maxLen; omega) (by omega) pre x W hJ hl) W1 hM).mono ?_
    rintro e W2 ⟨⟨v0, rfl⟩, h2⟩
    obtain ⟨v, hv, hrow, hnil⟩ := h2.box
    have hend := run_endLoop (P := Tryz.prog) h2.L (by simp [AnyZ.apRec])
    obtain ⟨W3, hW3⟩ : ∃ W3, W2.putObj (W0.heap.size + 1) (.loop { AnyZ.apRec Tryz.sortedA_ren fn sv w.heap.size W0.heap.size .ready none with state := .exhausted }) = W3 := ⟨_, rfl⟩
    rw [hW3] at hend
    have hg3 : W2.grownBy W3 (some (W0.heap.size + 1)) := by rw [← hW3]; exact grownBy_putObj_a _ _ _
    have hv3 : W3.heap[w.heap.size]? = some (.cells #[v] 32 (0, 0)) := by rw [← hW3]; exact (World.putObj_heap_other (by omega)).trans hv
    have hK3 : W3.heap[W0.heap.size]? = some (.deferred (some [])) := by rw [← hW3]; exact (World.putObj_heap_other (by omega)).trans h2.K
    have hrow3 := hrow.kept hg3 (ownsRow_ne_a hrow h2.L (fun cur e => by cases e))
    have hb3 : Below w.heap.size w W3 := h2.below.grown hg3 h2.below.size (fun k e => by cases e; omega)
    obtain ⟨hc3, hf3⟩ := cell_of_box_a hv3
    clear hW3
    refine ⟨none, W3, hend, ?_⟩
    gi_wp2
    rw [← hs0]
    refine ⟨by simp, .inl ⟨_, _, rfl, run_takeDeferred hK3, ?_⟩⟩
    exact ⟨_, results_tmp rfl _ _ _, v, rfl, hrow3.kept (grownBy_putObj_a _ _ _) (ownsRow_ne_a hrow3 hK3 (fun cur e => by cases e)), hnil, hb3.grown (grownBy_putObj_a _ _ _) hb3.size (fun k e => by cases e; omega)⟩
set_option maxRecDepth 100000 in
set_option maxHeartbeats 2000000 in
theorem collect_values (b : Nat) (A : Option Addr) (c : Nat) (ks : List ByteArray) (w : World) (hbox : w.cell? ⟨b, 0, none⟩ = some (.slice A ks.length c)) (hb : b < w.heap.size) (hC : Kd.string.C w A ks.length ks)
    (hm : ks.length ≤ 1099511627776) :
    Calls Tryz.prog 155 #[.func (.func 157) #[] #[.pointer (some ⟨b, 0, none⟩)]] w fun e w' => ∃ v : Value, e = .returned v ∧ w'.ownsRow w.heap.size 9 1 v (ks.map byt).length ((ks.map byt).map encStr) ∧ (v = .slice none 0 0 ↔ ks.map byt = []) ∧ Below w.heap.size w w' := by
  have h1 := Lib.hid ((callsIn_wide (n := 3)).1 (appendSeq_values b A c ks w hbox hb hC hm))
  clear hbox hC
  go_enter Tryz.func155, Tryz.ntmps155
  go_wp2_with fail
  refine h1.out.mono ?_
  rintro e w2 ⟨v, rfl, hr, hn, hbe⟩
  go_wp2_with fail
  go_ret
  exact ⟨v, rfl, hr, hn, hbe⟩
set_option maxRecDepth 100000 in
set_option maxHeartbeats 2000000 in
theorem sorted_of (f : Value) (ss : List (List UInt8)) (w : World) (hlen : ss.length ≤ 1099511627776)
    (h : Calls Tryz.prog 155 #[f] w fun e w' => ∃ v : Value, e = .returned v ∧ w'.ownsRow w.heap.size 9 1 v ss.length (ss.map encStr) ∧ (v = .slice none 0 0 ↔ ss = []) ∧ Below w.heap.size w w') :
    Calls Tryz.prog 129 #[f] w fun e w' => ∃ v : Value, e = .returned v ∧ w'.ownsRow w.heap.size 9 1 v ss.length ((ss.mergeSort (fun x y => decide (x ≤ y))).map encStr) ∧ Below w.heap.size w w' := by
  have h1 := Lib.hid h
  clear h
  go_enter Tryz.func129, Tryz.ntmps129
  go_wp2_with fail
  refine h1.out.mono ?_
  rintro e W ⟨v, rfl, hrow, hnil, hbe⟩
  clear h1 hnil
  rcases hrow.2 with ⟨rfl, hz⟩ | ⟨gb, cap, cur, rfl, hbase, hgb, r1, r2, r3, r4⟩
  · have hss : ss = [] := List.eq_nil_of_length_eq_zero hz
    subst hss
    go_wp2_with fail
    refine (Tryz.slices_Sort_string_none none 0 _).mono ?_
    rintro e w' ⟨rfl, rfl⟩
    go_wp2_with fail
    go_ret
    exact ⟨_, rfl, by simpa using hrow, hbe⟩
  · have hH : Holds encStr W gb 0 ss.toArray := holds_of_block hgb (by simpa using r4)
    have hgl : gb < W.heap.size := (Array.getElem?_eq_some_iff.1 hgb).1
    have cS := Lib.hid (Tryz.slices_Sort_string gb 0 cap ss W hH hgl (by omega))
    clear hH
    go_wp2_with fail
    refine cS.out.mono ?_
    rintro e w' ⟨rfl, nn, os, rfl⟩
    go_wp2_with fail
    go_ret
    exact ⟨_, rfl, ownsRow_sorted (by simp) hbase hgb r1 r2 r3, hbe.grown (grownBy_sorted _) hbe.size (fun j hj => by cases hj; exact hbase)⟩
/-- As many stay, as there are: no text stands twice. -/
def unlikeL (ss : List (List UInt8)) : Bool := ((Lib.compact (ss.mergeSort (fun x y => decide (x ≤ y)))).length : Int) == (ss.length : Int)
theorem unlikeL_nil : unlikeL [] = true := by unfold unlikeL; simp [Lib.compact, Lib.compactUpTo]
theorem grow_none (w : World) : grow w #[] = w := by cases w; simp [grow]
theorem values_calls (A : Option Addr) (n c : Nat) (w : World) :
    Calls Tryz.prog 130 #[.slice A n c] w fun e w' => e = .returned (.func (.func 157) #[] #[.pointer (some ⟨w.heap.size, 0, none⟩)]) ∧ w' = w.alloc (.cells #[.slice A n c] 32) := by
  go_enter Tryz.func130, Tryz.ntmps130
  go_wp2
  go_ret
  exact ⟨rfl, rfl⟩
set_option maxRecDepth 100000 in
set_option maxHeartbeats 2000000 in
theorem unlike_calls (A : Option Addr) (c : Nat) (ks : List ByteArray) (w : World) (hl : ks.length ≤ c) (hC : Kd.string.C w A ks.length ks) (hm : ks.length ≤ 1099511627776) :
    Calls Tryz.prog 104 #[.slice A ks.length c] w fun e w' => e = .returned (.bool (unlikeL (ks.map byt))) ∧ Below w.heap.size w w' := by
  obtain ⟨w1, hw1⟩ : ∃ w1, w.alloc (.cells #[.slice A ks.length c] 32) = w1 := ⟨_, rfl⟩
  have hb1 : Below w.heap.size w w1 := by rw [← hw1]; exact (Below.refl _ w).alloc (Nat.le_refl _) _
  have hbox : w1.cell? ⟨w.heap.size, 0, none⟩ = some (.slice A ks.length c) := by rw [← hw1]; simp
  have h1 := Lib.hid (sorted_of _ (ks.map byt) w1 (by simpa using hm) (collect_values w.heap.size A c ks w1 hbox (by rw [← hw1]; simp) (Kd.C_below hC hb1) hm))
  have HW := Lib.hid hw1
  have HL : Hid ((ks.map byt).length = ks.length) := by show _ = _; simp
  clear hbox hC hw1
  go_enter Tryz.func104, Tryz.ntmps104
  go_wp2_with fail
  refine (values_calls _ _ _ _).mono ?_
  rintro e w' ⟨rfl, hw⟩
  rw [HW.out] at hw
  subst hw
  clear HW
  go_wp2_with fail
  refine h1.out.mono ?_
  rintro e w2 ⟨v, rfl, hrow, hb2⟩
  have hb : Below w.heap.size w w2 := hb1.trans (hb2.mono hb1.size)
  rcases hrow.2 with ⟨rfl, hz⟩ | ⟨gb, cap, cur, rfl, hbase, hgb, r1, r2, r3, r4⟩
  · go_wp2_with fail
    refine (Tryz.slices_Compact_string_empty none 0 _).mono ?_
    rintro e w' ⟨rfl, rfl⟩
    go_wp2_with fail
    go_ret
    have h0 : ks = [] := List.eq_nil_of_length_eq_zero (by rw [← HL.out]; exact hz)
    subst h0
    exact ⟨by rw [show unlikeL (List.map byt []) = true from unlikeL_nil]; rfl, hb⟩
  · have hH : Holds encStr w2 gb 0 ((ks.map byt).mergeSort (fun x y => decide (x ≤ y))).toArray := holds_of_block hgb (by simpa using r4)
    have cS := Lib.hid (Tryz.slices_Compact_string gb 0 cap ((ks.map byt).mergeSort (fun x y => decide (x ≤ y))) w2 hH (by simp; omega) (by simpa using r1))
    have HL2 : Hid (((ks.map byt).mergeSort (fun x y => decide (x ≤ y))).length = (ks.map byt).length) := by show _ = _; simp
    rw [HL2.out, HL.out] at cS
    clear hH
    go_wp2_with fail
    refine cS.out.mono ?_
    rintro e w' ⟨rfl, q, rfl⟩
    go_wp2_with fail
    go_ret
    refine ⟨?_, ?_⟩
    · show Ending.returned (.bool _) = _
      unfold unlikeL
      rw [HL.out]
    · have hg : w2.grownBy (putRow encStr (Sort.ahead w2 q) gb 0 (Lib.compact ((ks.map byt).mergeSort (fun x y => decide (x ≤ y))) ++ List.replicate (ks.length - (Lib.compact ((ks.map byt).mergeSort (fun x y => decide (x ≤ y)))).length) []).toArray) (some gb) := by
        have := grownBy_sorted (w := w2) (os := #[]) (g := gb) (n := q) (Lib.compact ((ks.map byt).mergeSort (fun x y => decide (x ≤ y))) ++ List.replicate (ks.length - (Lib.compact ((ks.map byt).mergeSort (fun x y => decide (x ≤ y)))).length) []).toArray
        rw [grow_none] at this
        exact this
      exact hb.grown hg hb.size (fun j hj => by cases hj; exact Nat.le_trans hb1.size hbase)
end Go.Proofs.YtiddjadfkpjpdaaGreatDoor.Q
