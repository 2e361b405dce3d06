/- json.render: the text of a value; the plain function 'renderL' tells it. -/
import Derived.Test.YtiddjadfkpjpdaaGreatDoorHQuote
import Derived.Test.YtiddjadfkpjpdaaGreatDoorHFits
import Derived.Shelf.Unicode.PredsPay
import Derived.Lib.ItoaLen
namespace Go.Proofs.YtiddjadfkpjpdaaGreatDoor.Q
open Go.RowKit Go.Proofs.YtiddjadfkpjpdaaGreatDoorW.PrintWords
/-- What the package-level variables hold that the texts of numbers lean on. -/
structure Env (w : World) : Prop where
  pow : Lib.TabIs Tryz.prog w "internal/strconv.uint64pow10" .u64 Lib.pow10Tab
  syn : ∃ te pe, w.cell? ⟨4, 0, none⟩ = some (.iface te pe)
  rng : ∃ te pe, w.cell? ⟨5, 0, none⟩ = some (.iface te pe)
theorem Env.below {w w' : World} (h : Env w) (hb : Below w.heap.size w w') : Env w' := by
  obtain ⟨te, pe, hs⟩ := h.syn
  obtain ⟨tr, pr, hr⟩ := h.rng
  exact ⟨TabIs_below (g := Tryz.laysM173_ren.g 17) (by kernel_rfl) h.pow hb, ⟨te, pe, (hb.cell (World.block_lt_of_cell? w _ hs)).trans hs⟩, ⟨tr, pr, (hb.cell (World.block_lt_of_cell? w _ hr)).trans hr⟩⟩
theorem fmt_calls (n : Int) (w : World) (h0 : -9223372036854775808 ≤ n) (h1 : n ≤ 9223372036854775807) (hE : Env w) :
    Calls Tryz.prog 108 #[.int .i64 n, .int .i64 10] w fun e w' => e = .returned (.string ⟨(Lib.itoa n).toArray⟩) ∧ Below w.heap.size w w' := by
  refine (Tryz.strconv_FormatInt_10 n h0 h1 w hE.pow).mono ?_
  rintro e w' ⟨rfl, k, os, rfl⟩
  refine ⟨rfl, ⟨rfl, rfl, rfl, by simp [Sort.grow], fun i hi => by show (w.heap ++ os)[i]? = _; rw [Array.getElem?_append_left hi]⟩⟩
def nullT : List UInt8 := [110, 117, 108, 108]
def trueT : List UInt8 := [116, 114, 117, 101]
def falseT : List UInt8 := [102, 97, 108, 115, 101]
/-- An object's fields. -/
def pairsL (ks : List ByteArray) (rs : List (List UInt8)) : List (List UInt8) := List.zipWith (fun k r => quoteL (byt k) ++ 58 :: r) ks rs
mutual
/-- A value, as it stands. -/
def renderL : S38 → List UInt8
  | ⟨k, n, t, l, ks⟩ =>
    if k = 1 then nullT else if k = 2 then (if n = 1 then trueT else falseT) else if k = 3 then Lib.itoa n else if k = 4 then quoteL (byt t)
    else if k = 5 then 91 :: (Lib.join (rendersL l) [44] ++ [93]) else 123 :: (Lib.join (pairsL ks (rendersL l)) [44] ++ [125])
def rendersL : List S38 → List (List UInt8)
  | [] => []
  | x :: l => renderL x :: rendersL l
end
theorem rendersL_map (l : List S38) : rendersL l = l.map renderL := by
  induction l with
  | nil => simp [rendersL]
  | cons x l ih => simp [rendersL, ih]
theorem join_len (xs : List (List UInt8)) : (Lib.join xs [44]).length ≤ (xs.map (fun x => 1 + x.length)).sum := by
  unfold Lib.join
  induction xs with
  | nil => simp
  | cons x xs ih =>
    cases xs with
    | nil => simp
    | cons y ys =>
      rw [List.intercalate_cons_cons]
      simp only [List.length_append, List.map_cons, List.sum_cons, List.length_cons, List.length_nil] at ih ⊢
      omega
theorem itoa_len (n : Int) (h0 : -9223372036854775808 ≤ n) (h1 : n ≤ 9223372036854775807) : (Lib.itoa n).length ≤ 21 := Lib.itoa_length_le n h0 h1
theorem quoteL_len (l : List UInt8) : (quoteL l).length ≤ 6 * l.length + 2 := by
  unfold quoteL
  have := flat_len l
  simp only [List.length_cons, List.length_append, List.length_nil]
  omega
theorem fits_open {d : Nat} {x : S38} (h : fitsB d x = true) : ∃ e, d = e + 1 ∧ headB x = true ∧ ∀ y ∈ x.f3, fitsB e y = true := by
  cases d with
  | zero => cases h
  | succ e =>
    refine ⟨e, rfl, ?_⟩
    simp only [fitsB, Bool.and_eq_true, Bool.not_eq_true', List.any_eq_false, Bool.not_eq_true', Bool.not_eq_false] at h
    exact ⟨h.1, fun y hy => by have := h.2 y hy; simpa using this⟩
structure HeadP (x : S38) : Prop where
  k1 : 1 ≤ x.f0
  k6 : x.f0 ≤ 6
  bare : bareP x.f0 x.f1 x.f2 x.f3.length
  obj : x.f0 = 6 → x.f4.length = x.f3.length ∧ unlikeL (x.f4.map byt) = true
  nob : x.f0 ≠ 6 → x.f4.length = 0
theorem head_open {x : S38} (h : headB x = true) : HeadP x := by
  unfold headB at h
  simp only [Bool.and_eq_true, decide_eq_true_eq] at h
  obtain ⟨⟨⟨h1, h2⟩, h3⟩, h4⟩ := h
  refine ⟨h1, h2, by simpa [bareB] using h3, fun h6 => ?_, fun h6 => ?_⟩
  · rw [if_pos h6] at h4; simpa using h4
  · rw [if_neg h6] at h4; simpa using h4
theorem HeadP.num {x : S38} (h : HeadP x) : -9007199254740992 ≤ x.f1 ∧ x.f1 ≤ 9007199254740992 := by
  have := h.bare.1; omega
theorem byt_len (s : ByteArray) : (byt s).length = s.size := by unfold byt; rw [Array.length_toList]; rfl
theorem renders_sum (l : List S38) (h : ∀ y ∈ l, (renderL y).length + 1 ≤ 24 * y.wt) : ((l.map renderL).map (fun x => 1 + x.length)).sum ≤ 24 * wtsL l := by
  induction l with
  | nil => simp
  | cons x l ih =>
    have h1 := h x List.mem_cons_self
    have h2 := ih (fun y hy => h y (List.mem_cons_of_mem _ hy))
    simp only [List.map_cons, List.sum_cons, wtsL]
    omega
theorem pairs_sum (ks : List ByteArray) (l : List S38) (h : ∀ y ∈ l, (renderL y).length + 1 ≤ 24 * y.wt) : ((pairsL ks (l.map renderL)).map (fun x => 1 + x.length)).sum ≤ 24 * wtsL l + 6 * (ks.map (fun s => 1 + s.size)).sum := by
  induction l generalizing ks with
  | nil => simp [pairsL]
  | cons x l ih =>
    cases ks with
    | nil => simp [pairsL]
    | cons k ks =>
      have h1 := h x List.mem_cons_self
      have h2 := ih ks (fun y hy => h y (List.mem_cons_of_mem _ hy))
      have h3 := quoteL_len (byt k)
      rw [byt_len] at h3
      simp only [pairsL, List.map_cons, List.zipWith_cons_cons, List.sum_cons, wtsL, List.length_append, List.length_cons] at h2 ⊢
      omega
theorem render_len (d : Nat) : ∀ x, fitsB d x = true → (renderL x).length + 1 ≤ 24 * x.wt := by
  induction d with
  | zero => intro x h; cases h
  | succ d ih =>
    intro x h
    obtain ⟨e, he, hh, hl⟩ := fits_open h
    obtain rfl : d = e := by omega
    have hp := head_open hh
    have hn := hp.num
    have hs := renders_sum x.f3 (fun y hy => ih y (hl y hy))
    have hps := pairs_sum x.f4 x.f3 (fun y hy => ih y (hl y hy))
    have h1 := itoa_len x.f1 (by omega) (by omega)
    have h2 := quoteL_len (byt x.f2)
    rw [byt_len] at h2
    obtain ⟨k, n, t, l, ks⟩ := x
    simp only [S38.wt, renderL] at *
    rw [rendersL_map]
    have j1 := join_len (l.map renderL)
    have j2 := join_len (pairsL ks (l.map renderL))
    repeat' split
    all_goals try simp only [nullT, trueT, falseT, List.length_cons, List.length_nil, List.length_append]
    all_goals omega
theorem cat3 (a b : UInt8) (l : List UInt8) : (⟨#[a]⟩ : ByteArray) ++ ⟨l.toArray⟩ ++ ⟨#[b]⟩ = ⟨(a :: (l ++ [b])).toArray⟩ := by
  apply ByteArray.ext; simp [ByteArray.data_append]
theorem cell_one_new' (w : World) (x y : Value) (t : TypeId) (h : x = y) : ∀ j u, [y][j]? = some u → (w.alloc (.cells #[x] t)).cell? ((⟨w.heap.size, 0, none⟩ : Addr).add j) = some u := by subst h; exact cell_one_new w x t
theorem wt_key (x : S38) (i : Nat) (hi : i < x.f4.length) : x.f4[i].size < x.wt := by
  have key : ∀ (ks : List ByteArray) (i : Nat) (hi : i < ks.length), ks[i].size ≤ (ks.map (fun s => 1 + s.size)).sum := by
    intro ks
    induction ks with
    | nil => intro i hi; simp at hi
    | cons y ks ih =>
      intro i hi
      cases i with
      | zero => simp only [List.getElem_cons_zero, List.map_cons, List.sum_cons]; omega
      | succ i => simp only [List.getElem_cons_succ, List.map_cons, List.sum_cons]; have := ih i (by simpa using hi); omega
  cases x with | mk k n t l ks => simp only [S38.wt]; have := key ks i hi; omega
/-- One part: an element's text; before it, in an object, its key's. -/
def partB (x : S38) (i : Nat) : List UInt8 := if x.f0 = 6 then quoteL (byt (x.f4.getD i ByteArray.empty)) ++ 58 :: renderL (x.f3.getD i z38) else renderL (x.f3.getD i z38)
def partsB (x : S38) (k : Nat) : List ByteArray := (List.range k).map fun i => ⟨(partB x i).toArray⟩
theorem joinTail_ge (r : List (List UInt8)) : r.length ≤ (Lib.joinTail [44] r).length := by
  unfold Lib.joinTail
  induction r with
  | nil => simp
  | cons a r ih => simp only [List.map_cons, List.flatten_cons, List.length_append, List.length_cons]; omega
theorem join_ge (xs : List (List UInt8)) : xs.length ≤ (Lib.join xs [44]).length + 1 := by
  cases xs with
  | nil => simp
  | cons a r => rw [Lib.join_cons]; have := joinTail_ge r; simp only [List.length_cons, List.length_append]; omega
theorem join_own {W : World} {base n : Nat} {v : Value} {xs : List ByteArray} (h : W.ownsRow base 9 1 v n (xs.map Value.string)) (hlen : (Lib.join (xs.map byt) [44]).length ≤ 140737488355327) :
    Calls Tryz.prog 110 #[v, .string ⟨#[44]⟩] W fun e w' => e = .returned (.string ⟨(Lib.join (xs.map byt) [44]).toArray⟩) ∧ Below W.heap.size W w' := by
  obtain ⟨hl, ⟨rfl, hn⟩ | ⟨g, cap, cur, rfl, hbg, hg, hnc, hcm, hcs, ht⟩⟩ := h
  · have hx : xs = [] := by simp at hl; exact List.eq_nil_of_length_eq_zero (by omega)
    subst hx
    refine (Tryz.strings_Join_none none 0 _ W).mono ?_
    rintro e w' ⟨rfl, rfl⟩
    exact ⟨rfl, Below.refl _ _⟩
  · have hn : n = xs.length := by simp at hl; omega
    subst hn
    rw [Nat.mul_one] at ht hcs
    have hgs : g < W.heap.size := by
      rcases Nat.lt_or_ge g W.heap.size with hh | hh
      · exact hh
      · rw [Array.getElem?_eq_none hh] at hg; cases hg
    refine Tryz.strings_Join g 0 cap xs ⟨#[44]⟩ W ?_ hgs ?_ hnc (Nat.le_trans hlen (by omega))
    · intro j x hj
      have hjl : j < xs.length := by
        rcases Nat.lt_or_ge j xs.length with hh | hh
        · exact hh
        · rw [List.getElem?_eq_none hh] at hj; cases hj
      have hc : cur[j]? = some (.string x) := by
        have := congrArg (fun l => l[j]?) ht
        simp only [List.getElem?_map, hj] at this
        rw [List.getElem?_take_of_lt hjl] at this
        simpa using this
      rw [Nat.zero_add]
      simp [World.cell?, hg, hc]
    · have hj := join_ge (xs.map byt); have hb : (xs.map byt) = xs.map (·.data.toList) := rfl; rw [List.length_map] at hj; omega
theorem parts_eq (x : S38) (h : x.f0 = 6 → x.f4.length = x.f3.length) : (partsB x x.f3.length).map byt = if x.f0 = 6 then pairsL x.f4 (rendersL x.f3) else rendersL x.f3 := by
  rw [rendersL_map]
  apply List.ext_getElem
  · split
    · rename_i h6; simp [partsB, pairsL, h h6]
    · simp [partsB]
  · intro i h1 h2
    have hi : i < x.f3.length := by simpa [partsB] using h1
    split
    · rename_i h6
      have hi4 : i < x.f4.length := by rw [h h6]; exact hi
      simp [partsB, partB, pairsL, h6, byt, List.getD_eq_getElem?_getD, List.getElem?_eq_getElem hi, List.getElem?_eq_getElem hi4]
    · rename_i h6
      simp [partsB, partB, h6, byt, List.getD_eq_getElem?_getD, List.getElem?_eq_getElem hi]
theorem partsB_succ (x : S38) (k : Nat) : partsB x (k + 1) = partsB x k ++ [⟨(partB x k).toArray⟩] := by unfold partsB; rw [List.range_succ, List.map_append]; rfl
set_option maxHeartbeats 8000000 in
set_option maxRecDepth 100000 in
theorem render_any (d : Nat) : ∀ (x : S38) (A3 : Option Addr) (c3 : Nat) (A4 : Option Addr) (c4 : Nat) (w : World), fitsB d x = true → VC w x A3 c3 A4 c4 → x.wt ≤ 1073741824 → Env w →
    Calls Tryz.prog 67 #[.agg #[.int .i64 x.f0, .int .i64 x.f1, .string x.f2, .slice A3 x.f3.length c3, .slice A4 x.f4.length c4]] w fun e w' => e = .returned (.string ⟨(renderL x).toArray⟩) ∧ Below w.heap.size w w' := by
  induction d with
  | zero => intro x A3 c3 A4 c4 w h; cases h
  | succ d ih =>
    intro x A3 c3 A4 c4 w hf hv hw hE
    obtain ⟨e, he, hh, hl⟩ := fits_open hf
    obtain rfl : d = e := by omega
    have hp := head_open hh
    have hn := hp.num
    have HLN := Lib.hid (render_len _ x hf)
    have hk61 := hp.k1
    have hk66 := hp.k6
    have IH := Lib.hid ih
    have HL := Lib.hid hl
    clear ih hl he hh
    by_cases k1 : x.f0 = 1
    · have hr : Hid (renderL x = nullT) := by show _ = _; obtain ⟨k, n, t, l, ks⟩ := x; simp only at k1; simp only [renderL]; rw [if_pos k1]
      have b1 : (x.f0 == 1) = true := by simp [k1]
      clear k1
      go_enter Tryz.func67, Tryz.ntmps67
      go_wp2_with fail
      go_ret
      exact ⟨by rw [hr.out]; rfl, (Below.refl _ w).alloc (Nat.le_refl _) _⟩
    · have b1 : (x.f0 == 1) = false := by simp [k1]
      have hbx := (Below.refl w.heap.size w).alloc (Nat.le_refl _) (Obj.cells #[Value.int IntKind.i64 x.f0, Value.int IntKind.i64 x.f1, Value.string x.f2, Value.slice A3 x.f3.length c3, Value.slice A4 x.f4.length c4] 38)
      by_cases k2 : x.f0 = 2
      · have b2 : (x.f0 == 2) = true := by simp [k2]
        by_cases hn1 : x.f1 = 1
        · have hr : Hid (renderL x = trueT) := by show _ = _; obtain ⟨k, n, t, l, ks⟩ := x; simp only at k1 k2 hn1; simp only [renderL]; rw [if_neg k1, if_pos k2, if_pos hn1]
          have q1 : (x.f1 == 1) = true := by simp [hn1]
          clear k2 hn1
          go_enter Tryz.func67, Tryz.ntmps67
          go_wp2
          go_ret
          exact ⟨by rw [hr.out]; rfl, hbx⟩
        · have hr : Hid (renderL x = falseT) := by show _ = _; obtain ⟨k, n, t, l, ks⟩ := x; simp only at k1 k2 hn1; simp only [renderL]; rw [if_neg k1, if_pos k2, if_neg hn1]
          have q1 : (x.f1 == 1) = false := by simp [hn1]
          clear k2
          go_enter Tryz.func67, Tryz.ntmps67
          go_wp2
          go_ret
          exact ⟨by rw [hr.out]; rfl, hbx⟩
      · have b2 : (x.f0 == 2) = false := by simp [k2]
        by_cases k3 : x.f0 = 3
        · have hr : Hid (renderL x = Lib.itoa x.f1) := by show _ = _; obtain ⟨k, n, t, l, ks⟩ := x; simp only at k1 k2 k3; simp only [renderL]; rw [if_neg k1, if_neg k2, if_pos k3]
          have b3 : (x.f0 == 3) = true := by simp [k3]
          clear k3
          go_enter Tryz.func67, Tryz.ntmps67
          go_wp2_with fail
          refine (fmt_calls _ _ (by omega) (by omega) (hE.below hbx)).mono ?_
          rintro e w2 ⟨rfl, c2⟩
          go_wp2_with fail
          go_ret
          exact ⟨by rw [hr.out]; rfl, hbx.trans (c2.mono (by simp))⟩
        · have b3 : (x.f0 == 3) = false := by simp [k3]
          by_cases k4 : x.f0 = 4
          · have hr : Hid (renderL x = quoteL (byt x.f2)) := by show _ = _; obtain ⟨k, n, t, l, ks⟩ := x; simp only at k1 k2 k3 k4; simp only [renderL]; rw [if_neg k1, if_neg k2, if_neg k3, if_pos k4]
            have b4 : (x.f0 == 4) = true := by simp [k4]
            have hsz := wt_f2 x
            clear k4
            go_enter Tryz.func67, Tryz.ntmps67
            go_wp2_with fail
            refine (quote_calls _ _ (by omega)).mono ?_
            rintro e w2 ⟨rfl, c2⟩
            go_wp2_with fail
            go_ret
            exact ⟨by rw [hr.out]; rfl, hbx.trans (c2.mono (by simp))⟩
          · have b4 : (x.f0 == 4) = false := by simp [k4]
            obtain ⟨W1, hW1⟩ : ∃ W1, w.alloc (Obj.cells #[Value.int IntKind.i64 x.f0, Value.int IntKind.i64 x.f1, Value.string x.f2, Value.slice A3 x.f3.length c3, Value.slice A4 x.f4.length c4] 38) = W1 := ⟨_, rfl⟩
            rw [hW1] at hbx
            have hs1 : W1.heap.size = w.heap.size + 1 := by rw [← hW1]; simp
            have e0 : W1.cell? ⟨w.heap.size, 0, none⟩ = some (.int .i64 x.f0) := by rw [← hW1]; simp
            have e4 : W1.cell? ⟨w.heap.size, 4, none⟩ = some (.slice A4 x.f4.length c4) := by rw [← hW1]; simp
            have e3 : W1.cell? ⟨w.heap.size, 3, none⟩ = some (.slice A3 x.f3.length c3) := by rw [← hW1]; simp
            have hv1 := hv.below hbx
            have hE1 := hE.below hbx
            have hl3 := wt_len3 x
            have hl4 := wt_len4 x
            have HW1 := Lib.hid hW1
            have HS1 := Lib.hid hs1
            clear hW1 hs1
            go_enter Tryz.func67, Tryz.ntmps67
            go_wp2_with fail
            rw [HW1.out]
            go_loopw [3, 30] (fun v i wr => ∃ k : Nat, k ≤ x.f3.length ∧ i = .int .i64 k ∧ wr.ownsRow W1.heap.size 9 1 v k ((partsB x k).map Value.string) ∧ Below W1.heap.size W1 wr) (fun _ i _ => x.f3.length - (intOf i).toNat)
            case atStart => exact ⟨0, Nat.zero_le _, rfl, ⟨rfl, .inl ⟨rfl, rfl⟩⟩, Below.refl _ _⟩
            case round =>
              obtain ⟨k, hk, rfl, hown, hbw⟩ := hrel
              have hs1 := HS1.out
              have hsw := hbw.size
              have f0 : wr.cell? ⟨w.heap.size, 0, none⟩ = some (.int .i64 x.f0) := (hbw.cell (p := ⟨w.heap.size, 0, none⟩) (by show w.heap.size < _; omega)).trans e0
              have f4 : wr.cell? ⟨w.heap.size, 4, none⟩ = some (.slice A4 x.f4.length c4) := (hbw.cell (p := ⟨w.heap.size, 4, none⟩) (by show w.heap.size < _; omega)).trans e4
              clear hs1
              by_cases hlt : k < x.f3.length
              · have hvr := hv1.below hbw
                obtain ⟨bb, oo, A3', c3', A4', c4', hA, hbb, q0, q1, q2, q3, q4, hvi⟩ := at_val hvr.g3 k hlt
                subst hA
                have hwi := wt_elem x k hlt
                have hfi := HL.out x.f3[k] (List.getElem_mem hlt)
                have hri := render_len _ _ hfi
                have HHP := Lib.hid hp
                obtain ⟨i0, hi9, hz0, hz1, hz2⟩ := info_parts (P := Tryz.prog) (e := 9) (z := .string ⟨#[]⟩) (size := 1) (bytes := 16) (by kernel_rfl)
                clear hp
                go_wp2_with fail
                refine (IH.out _ _ _ _ _ _ hfi (hvi.below (ba _ _)) (by omega) ((hE1.below hbw).below (ba _ _))).mono ?_
                rintro e w2 ⟨rfl, b2⟩
                obtain ⟨W2, hW2⟩ : ∃ W2, W2 = w2 := ⟨_, rfl⟩
                have b2' : Below wr.heap.size wr w2 := (ba _ _).trans (b2.mono (by simp))
                have hs2 := b2'.size
                have g0 : w2.cell? ⟨w.heap.size, 0, none⟩ = some (.int .i64 x.f0) := (b2'.cell (p := ⟨w.heap.size, 0, none⟩) (by show w.heap.size < _; have := HS1.out; omega)).trans f0
                have g4 : w2.cell? ⟨w.heap.size, 4, none⟩ = some (.slice A4 x.f4.length c4) := (b2'.cell (p := ⟨w.heap.size, 4, none⟩) (by show w.heap.size < _; have := HS1.out; omega)).trans f4
                have hown2 := pw_own_below hown b2'
                by_cases k6 : x.f0 = 6
                · have b6 : (x.f0 == 6) = true := by simp [k6]
                  have hlk : k < x.f4.length := by rw [(HHP.out.obj k6).1]; exact hlt
                  obtain ⟨kb, ko, rfl, hkb, hck⟩ := at_str (Kd.C_below hvr.g4 b2') k hlk
                  have HK : Hid (x.f4[k].size < x.wt) := wt_key x k hlk
                  have hpk : Hid (Value.string ((⟨(quoteL x.f4[k].data.toList).toArray⟩ : ByteArray) ++ ⟨#[58]⟩ ++ ⟨(renderL x.f3[k]).toArray⟩) = .string ⟨(partB x k).toArray⟩) := by show _ = _; unfold partB; rw [if_pos k6]; simp only [List.getD_eq_getElem?_getD, List.getElem?_eq_getElem hlt, List.getElem?_eq_getElem hlk, Option.getD_some]; congr 1; apply ByteArray.ext; simp [ByteArray.data_append, byt]
                  have hql : (quoteL x.f4[k].data.toList).length ≤ 1099511627776 := by have := quoteL_len (byt x.f4[k]); rw [byt_len] at this; unfold byt at this; have := HK.out; omega
                  clear k6
                  go_wp2_with fail
                  refine (quote_calls _ _ (by have := HK.out; omega)).mono ?_
                  rintro e w3 ⟨rfl, b3⟩
                  go_wp2_with (at_builtin; refine wpList_append_own _ rfl _ _ 32 rfl W1.heap.size 9 i0 (.string ⟨#[]⟩) 1 16 Tryz.underlying32 hi9 hz0 hz1 hz2 rfl (by decide) _ k ((partsB x k).map Value.string) rfl (pw_own_below (pw_own_below hown2 b3) (ba _ _)) ⟨w3.heap.size, 0, none⟩ 1 1 [.string ⟨(partB x k).toArray⟩] (by rfl) rfl (cell_one_new' _ _ _ _ hpk.out) (by simp [Value.oneCell']) (by unfold maxLen; omega) (by omega) (by have := b3.size; have := hbw.size; simp; omega) ?_)
                  intro v' w4 hown' hgrow hnil
                  go_wp2_with fail
                  go_roundw
                  case rel => exact ⟨k + 1, by omega, by go_num, by rw [partsB_succ, List.map_append]; exact hown', (hbw.trans (((b2'.trans (b3.mono b2'.size)).trans ((ba _ _).mono (by have := b3.size; omega))).mono hbw.size)).grown hgrow (by have := hbw.size; have := b3.size; simp; omega) (fun q hq => own_base hown q hq)⟩
                  case measure => simp [intOf]; omega
                · have b6 : (x.f0 == 6) = false := by simp [k6]
                  have hpk : Hid (Value.string ⟨(renderL x.f3[k]).toArray⟩ = .string ⟨(partB x k).toArray⟩) := by show _ = _; unfold partB; rw [if_neg k6, List.getD_eq_getElem?_getD, List.getElem?_eq_getElem hlt]; rfl
                  go_wp2_with (at_builtin; refine wpList_append_own _ rfl _ _ 32 rfl W1.heap.size 9 i0 (.string ⟨#[]⟩) 1 16 Tryz.underlying32 hi9 hz0 hz1 hz2 rfl (by decide) _ k ((partsB x k).map Value.string) rfl (pw_own_below hown2 (ba _ _)) ⟨w2.heap.size, 0, none⟩ 1 1 [.string ⟨(partB x k).toArray⟩] (by rfl) rfl (cell_one_new' _ _ _ _ hpk.out) (by simp [Value.oneCell']) (by unfold maxLen; omega) (by omega) (by have := hbw.size; simp; omega) ?_)
                  intro v' w4 hown' hgrow hnil
                  go_wp2_with fail
                  go_roundw
                  case rel => exact ⟨k + 1, by omega, by go_num, by rw [partsB_succ, List.map_append]; exact hown', (hbw.trans ((b2'.trans ((ba _ _).mono b2'.size)).mono hbw.size)).grown hgrow (by have := hbw.size; simp; omega) (fun q hq => own_base hown q hq)⟩
                  case measure => simp [intOf]; omega
              · obtain rfl : k = x.f3.length := by omega
                by_cases k5 : x.f0 = 5
                · have b5 : (x.f0 == 5) = true := by simp [k5]
                  have hr : Hid (renderL x = 91 :: (Lib.join ((partsB x x.f3.length).map byt) [44] ++ [93])) := by show _ = _; rw [parts_eq x (fun h => absurd h (by omega)), if_neg (by omega)]; obtain ⟨k, n, t, l, ks⟩ := x; simp only at k1 k2 k3 k4 k5; simp only [renderL]; rw [if_neg k1, if_neg k2, if_neg k3, if_neg k4, if_pos k5]
                  clear k5
                  have hjl : (Lib.join ((partsB x x.f3.length).map byt) [44]).length ≤ 1099511627776 := by have := congrArg List.length hr.out; simp only [List.length_cons, List.length_append] at this; have := HLN.out; omega
                  go_wp2_with fail
                  refine (join_own hown (by omega)).mono ?_
                  rintro e w2 ⟨rfl, b2⟩
                  go_wp2_with fail
                  go_ret
                  exact ⟨by rw [hr.out, cat3]; rfl, hbx.trans ((hbw.trans (b2.mono hbw.size)).mono hbx.size)⟩
                · have b5 : (x.f0 == 5) = false := by simp [k5]
                  have hr : Hid (renderL x = 123 :: (Lib.join ((partsB x x.f3.length).map byt) [44] ++ [125])) := by show _ = _; rw [parts_eq x (fun h => (hp.obj h).1), if_pos (by omega)]; obtain ⟨k, n, t, l, ks⟩ := x; simp only at k1 k2 k3 k4 k5; simp only [renderL]; rw [if_neg k1, if_neg k2, if_neg k3, if_neg k4, if_neg k5]
                  clear k5
                  have hjl : (Lib.join ((partsB x x.f3.length).map byt) [44]).length ≤ 1099511627776 := by have := congrArg List.length hr.out; simp only [List.length_cons, List.length_append] at this; have := HLN.out; omega
                  go_wp2_with fail
                  refine (join_own hown (by omega)).mono ?_
                  rintro e w2 ⟨rfl, b2⟩
                  go_wp2_with fail
                  go_ret
                  exact ⟨by rw [hr.out, cat3]; rfl, hbx.trans ((hbw.trans (b2.mono hbw.size)).mono hbx.size)⟩
end Go.Proofs.YtiddjadfkpjpdaaGreatDoor.Q
