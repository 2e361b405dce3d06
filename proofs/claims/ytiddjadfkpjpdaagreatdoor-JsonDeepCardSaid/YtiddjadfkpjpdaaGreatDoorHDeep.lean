/- The law JsonDeep, walked. -/
import Derived.Test.YtiddjadfkpjpdaaGreatDoorHOwn
set_option linter.unusedVariables false
set_option linter.unusedSimpArgs false
namespace Go.Proofs.YtiddjadfkpjpdaaGreatDoor.Q
open Go.RowKit Go.Proofs.YtiddjadfkpjpdaaGreatDoorW.PrintWords Go.Proofs.YtiddjadfkpjpdaaGreatDoorW.PrintLast
/-- Lists in lists. -/
def nst : Nat → S38
  | 0 => ⟨5, 0, ⟨#[]⟩, [], []⟩
  | n + 1 => ⟨5, 0, ⟨#[]⟩, [nst n], []⟩
def brk : Nat → List UInt8
  | 0 => []
  | n + 1 => 91 :: (brk n ++ [93])
theorem nst_f (n : Nat) : (nst n).f0 = 5 ∧ (nst n).f1 = 0 ∧ (nst n).f2 = ⟨#[]⟩ ∧ (nst n).f4 = [] := by cases n <;> exact ⟨rfl, rfl, rfl, rfl⟩
theorem brk_len (n : Nat) : (brk n).length = 2 * n := by
  induction n with
  | zero => rfl
  | succ n ih => simp [brk, ih]; omega
theorem nst_text (n : Nat) : renderL (nst n) = brk (n + 1) := by
  induction n with
  | zero => rfl
  | succ n ih =>
    show 91 :: (Lib.join (rendersL [nst n]) [44] ++ [93]) = _
    rw [rendersL_map]
    simp only [List.map_cons, List.map_nil, Lib.join_one, ih]
    rfl
theorem nst_fits0 (n d : Nat) : fitsB (n + d + 1) (nst n) = true := by
  induction n with
  | zero => 
    rw [Nat.zero_add]
    exact (fitsB_open d _).2 ⟨by decide +kernel, fun y hy => by cases hy⟩
  | succ n ih =>
    rw [show n + 1 + d + 1 = (n + d + 1) + 1 from by omega]
    refine (fitsB_open _ _).2 ⟨by show headB ⟨5, 0, ⟨#[]⟩, [nst n], []⟩ = true; simp [headB, bareB, bareP], fun y hy => ?_⟩
    have : y = nst n := by simpa [nst] using hy
    rw [this]; exact ih
theorem nst_fits8 : ∀ n : Fin 12, fitsB 8 (nst n) = decide (n.val + 1 ≤ 8) := by decide +kernel
def nulls (m : Nat) : S38 := ⟨5, 0, ⟨#[]⟩, List.replicate m ⟨1, 0, ⟨#[]⟩, [], []⟩, []⟩
theorem nulls_fits : ∀ m : Fin 80, fitsB 8 (nulls m) = decide (m.val ≤ 64) := by decide +kernel
theorem nst_wt (n : Nat) : (nst n).wt = n + 1 := by
  have hz : (⟨#[]⟩ : ByteArray).size = 0 := rfl
  induction n with
  | zero => simp [nst, S38.wt, wtsL, hz]
  | succ n ih => simp [nst, S38.wt, wtsL, hz, ih]; omega
theorem wts_rep (m : Nat) : wtsL (List.replicate m (⟨1, 0, ⟨#[]⟩, [], []⟩ : S38)) = m := by
  have hz : (⟨#[]⟩ : ByteArray).size = 0 := rfl
  induction m with
  | zero => rfl
  | succ m ih => simp [List.replicate_succ, wtsL, S38.wt, hz, ih]; omega
theorem nulls_wt (m : Nat) : (nulls m).wt = m + 1 := by
  have hz : (⟨#[]⟩ : ByteArray).size = 0 := rfl
  simp [nulls, S38.wt, hz, wts_rep]; omega
/-- A row of one value, of the call's own. -/
theorem r_one {w : World} {base g : Nat} {ok : Nat → Prop} {x : S38} {u0 u1 u2 u3 u4 : Value} (hg : base ≤ g) (hok : ok g) (h : w.heap[g]? = some (.cells #[u0, u1, u2, u3, u4] 38 (0, 0))) (hM : k38.M w base (fun k => ok k ∧ k ≠ g) x [u0, u1, u2, u3, u4]) : k38.R 38 w base ok (.slice (some ⟨g, 0, none⟩) 1 1) [x] := by
  refine ⟨fun k hk => ?_, [u0, u1, u2, u3, u4], ⟨rfl, .inr ⟨g, 1, _, rfl, hg, h, Nat.le_refl 1, by unfold maxLen; omega, rfl, rfl⟩⟩, rfl, ?_⟩
  · have : g = k := by simpa [Value.ownBlock] using hk
    subst this; exact hok
  · intro i p hp
    cases i with
    | succ i => simp at hp
    | zero =>
      obtain rfl : x = p := by simpa using hp
      refine k38.M_mono (fun k hk => ⟨hk.1, fun e => hk.2 (by simpa [Value.ownBlock] using e)⟩) hM
theorem nst_M {w : World} {base : Nat} {ok : Nat → Prop} {v3 : Value} (i : Nat) (h : k38.R 38 w base ok v3 (nst i).f3) : k38.M w base ok (nst i) [.int .i64 5, .int .i64 0, .string ⟨#[]⟩, v3, .slice none 0 0] := by
  have hf := nst_f i
  have h4 : Kd.string.R 9 w base ok (.slice none 0 0) (nst i).f4 := by rw [hf.2.2.2]; exact Kd.R_nil _ _ _ _ _
  have := k38_mkM w base ok (nst i) h h4
  rw [hf.1, hf.2.1, hf.2.2.1] at this
  exact this
/-- Where the nested lists lie. -/
structure DeepI (b : Nat) (i : Nat) (A : Option Addr) (c : Nat) (w : World) : Prop where
  h : w.heap[b]? = some (.cells #[.int .i64 5, .int .i64 0, .string ⟨#[]⟩, .slice A (nst i).f3.length c, .slice none 0 0] 38 (0, 0))
  r : k38.R 38 w (b + 1) (fun _ => True) (.slice A (nst i).f3.length c) (nst i).f3
theorem DeepI.vc {b i : Nat} {A : Option Addr} {c : Nat} {w : World} (h : DeepI b i A c w) : VC w (nst i) A c none 0 := by
  obtain ⟨_, a, d⟩ := Kd.R_reads' h.r
  refine ⟨a, d, by rw [(nst_f i).2.2.2]; exact Nat.le_refl _, ?_⟩
  rw [(nst_f i).2.2.2]
  exact c_nil _ _ _
theorem DeepI.below {b i : Nat} {A : Option Addr} {c : Nat} {w w' : World} (h : DeepI b i A c w) (hb : Below w.heap.size w w') : DeepI b i A c w' :=
  ⟨(hb.block _ (blk_lt h.h)).trans h.h, Kd.R_below h.r hb⟩
theorem DeepI.next {b i : Nat} {A : Option Addr} {c : Nat} {w : World} (h : DeepI b i A c w) :
    DeepI b (i + 1) (some ⟨w.heap.size, 0, none⟩) 1 ((set5 w b (.int .i64 5) (.int .i64 0) (.string ⟨#[]⟩) (.slice (some ⟨w.heap.size, 0, none⟩) 1 1) (.slice none 0 0)).alloc (.cells #[.int .i64 5, .int .i64 0, .string ⟨#[]⟩, .slice A (nst i).f3.length c, .slice none 0 0] 38)) := by
  have hlt := blk_lt h.h
  have hsz : (set5 w b (.int .i64 5) (.int .i64 0) (.string ⟨#[]⟩) (.slice (some ⟨w.heap.size, 0, none⟩) 1 1) (.slice none 0 0)).heap.size = w.heap.size := by simp [set5, World.setCell]
  refine ⟨blk_alloc (set5_blk h.h _ _ _ _ _) _, ?_⟩
  refine r_one (x := nst i) (by omega) trivial (by have := World.alloc_heap_new (set5 w b (.int .i64 5) (.int .i64 0) (.string ⟨#[]⟩) (.slice (some ⟨w.heap.size, 0, none⟩) 1 1) (.slice none 0 0)) (.cells #[.int .i64 5, .int .i64 0, .string ⟨#[]⟩, .slice A (nst i).f3.length c, .slice none 0 0] 38); rwa [hsz] at this) ?_
  refine nst_M i ?_
  refine Kd.R_mono (Kd.R_step (Kd.R_bound h.r) (fun q hq hl => ?_)) (fun q hq => ⟨trivial, ?_⟩)
  · have h1 := hq.2.1
    rw [Below.heap_alloc _ _ _ (by omega)]
    exact set5_far _ _ _ _ _ _ _ q (by omega)
  · have := hq.2.2.1; omega
def nul : S38 := ⟨1, 0, ⟨#[]⟩, [], []⟩
def nulZ (M j : Nat) : List S38 := List.replicate j nul ++ List.replicate (M - j) z38
theorem nulZ_len (M j : Nat) (h : j ≤ M) : (nulZ M j).length = M := by simp [nulZ]; omega
theorem nulZ_get (M j : Nat) (h : j < M) : (nulZ M j).getD j z38 = z38 := by
  unfold nulZ
  rw [List.getD_eq_getElem?_getD, List.getElem?_append_right (by simp), List.length_replicate, Nat.sub_self]
  obtain ⟨q, hq⟩ : ∃ q, M - j = q + 1 := ⟨M - j - 1, by omega⟩
  rw [hq]
  rfl
theorem nulZ_set (M j : Nat) (h : j < M) : (nulZ M j).set j nul = nulZ M (j + 1) := by
  unfold nulZ
  rw [List.set_append_right _ _ (by simp), List.length_replicate, Nat.sub_self]
  obtain ⟨q, hq⟩ : ∃ q, M - j = q + 1 := ⟨M - j - 1, by omega⟩
  rw [hq, show M - (j + 1) = q from by omega, List.replicate_succ, List.set_cons_zero, List.replicate_succ', List.append_assoc]
  rfl
theorem nul_M {w : World} {base : Nat} {ok : Nat → Prop} {c : List Value} (h : k38.M w base ok z38 c) : c.take 1 = [.int .i64 0] ∧ k38.M w base ok nul (c.take 0 ++ [.int .i64 1] ++ c.drop (0 + [Value.int .i64 1].length)) := by
  obtain ⟨v3, v4, rfl, h3, h4⟩ := k38_openM h
  exact ⟨rfl, k38_mkM w base ok nul h3 h4⟩
/-- A row of one's own: an element that is nothing yet is null now. -/
theorem nul_step {w : World} {base B M j : Nat} {AM : Option Addr} {cM : Nat} (h : k38.R 38 w base (fun q => q < B) (.slice AM M cM) (nulZ M j)) (hj : j < M) :
    ∃ g, AM = some ⟨g, 0, none⟩ ∧ base ≤ g ∧ g < B ∧ w.cell? ⟨g, j * 5, none⟩ = some (.int .i64 0) ∧ w.frozen? ⟨g, j * 5, none⟩ = false ∧
      k38.R 38 (w.setCell ⟨g, j * 5, none⟩ (.int .i64 1)) base (fun q => q < B) (.slice AM M cM) (nulZ M (j + 1)) := by
  obtain ⟨g, cap, hv, hg0, _, _⟩ := Kd.R_form h (by rw [nulZ_len M j (by omega)]; omega)
  rw [nulZ_len M j (by omega)] at hv
  injection hv with hv1 _ hv3
  subst hv1
  subst hv3
  have hgB : g < B := h.1 g (by simp [Value.ownBlock])
  obtain ⟨c, hc5, hM, hcc, hfz⟩ := Kd.R_elem h z38 (j : Int) (by omega) (by omega)
  rw [Int.toNat_natCast] at hM hcc hfz
  rw [nulZ_get M j hj] at hM
  obtain ⟨h1, h2⟩ := nul_M hM
  have hs5 : k38.sz = 5 := rfl
  rw [hs5] at hcc hfz hc5
  have hc0 : c[0]? = some (.int .i64 0) := by
    have := congrArg (fun l => l[0]?) h1
    simpa using this
  refine ⟨g, rfl, hg0, hgB, by have := hcc 0 _ hc0; simpa using this, hfz 0, ?_⟩
  have := (Kd.R_seg h (j : Int) (by omega) (by omega) (c := c) (seg := [.int .i64 1]) (j := 0) hc5 (by rw [Int.toNat_natCast, hs5]; exact hcc) (by rw [hs5]; simp) h2 (fun q hq => hq)).1
  rw [Int.toNat_natCast, nulZ_set M j hj, hs5] at this
  exact this
set_option maxRecDepth 100000 in
set_option maxHeartbeats 8000000 in
theorem deep_walk (n many : Int) (w : World) (hn0 : 0 ≤ n) (hn1 : n < 256) (hm0 : 0 ≤ many) (hm1 : many < 256) (hE : Env w) :
    Calls Tryz.prog 7 #[.int .u8 n, .int .u8 many] w fun e w' => e = .returned (.bool true) ∧ Below w.heap.size w w' := by
  have HE := Lib.hid hE
  clear hE
  go_enter Tryz.func7, Tryz.ntmps7
  go_wp2_with fail
  obtain ⟨K, hK⟩ : ∃ K : Nat, n % 12 = K := ⟨(n % 12).toNat, by omega⟩
  obtain ⟨M, hM⟩ : ∃ M : Nat, many % 80 = M := ⟨(many % 80).toNat, by omega⟩
  have hK1 : K < 12 := by omega
  have hM1 : M < 80 := by omega
  rw [hK, hM]
  clear hK hM
  obtain ⟨W1, hW1⟩ : ∃ W1, W1 = w.alloc (.cells #[.int .i64 5, .int .i64 0, .string ⟨#[]⟩, .slice none 0 0, .slice none 0 0] 38) := ⟨_, rfl⟩
  have HB1 : Hid (Below w.heap.size w W1) := by rw [hW1]; exact ba _ _
  have HD1 : Hid (DeepI w.heap.size 0 none 0 W1) := by rw [hW1]; exact ⟨World.alloc_heap_new _ _, Kd.R_nil _ _ _ _ _⟩
  rw [← hW1]
  clear hW1
  go_loopw [7, 9] (fun s i wr => ∃ j A c, j ≤ K + 1 ∧ i = .int .i64 (j : Nat) ∧ s = .string ⟨(brk j).toArray⟩ ∧ DeepI w.heap.size (j - 1) A c wr ∧ Below w.heap.size w wr) (fun _ i _ => K + 1 - (intOf i).toNat)
  case atStart => exact ⟨0, none, 0, by omega, rfl, rfl, HD1.out, HB1.out⟩
  case round =>
    obtain ⟨j, A, c, hj, rfl, rfl, hD, hbw⟩ := hrel
    have HD := Lib.hid hD
    have HBW := Lib.hid hbw
    have q0 := blk_cell hD.h 0
    have q1 := blk_cell hD.h 1
    have q2 := blk_cell hD.h 2
    have q3 := blk_cell hD.h 3
    have q4 := blk_cell hD.h 4
    have f0 := blk_frozen hD.h 0
    have f1 := blk_frozen hD.h 1
    have f2 := blk_frozen hD.h 2
    have f3 := blk_frozen hD.h 3
    have f4 := blk_frozen hD.h 4
    have hlt := blk_lt hD.h
    clear hD hbw
    have HBL := Lib.hid (brk_len j)
    have hbl : (brk j).length ≤ 100 := by have := HBL.out; omega
    by_cases hjK : j < K + 1
    · have hjKi : (j : Int) < (K : Int) + 1 := by omega
      rcases Nat.eq_zero_or_pos j with h0 | h0
      · subst h0
        go_wp2_with fail
        go_roundw
        case rel => exact ⟨1, A, c, by omega, by go_num, by first | (rw [cat3]; done) | (rw [cat3]; rfl) | (simp [brk]; done), HD.out, HBW.out⟩
        case measure => first | (simp [intOf]; done) | (simp [intOf]; omega)
      · have h0i : (0 : Int) < (j : Int) := by omega
        go_wp2_with fail
        go_roundw
        case rel =>
          obtain ⟨i, rfl⟩ : ∃ i, j = i + 1 := ⟨j - 1, by omega⟩
          refine ⟨i + 2, some ⟨wr.heap.size, 0, none⟩, 1, by omega, by go_num, by rw [cat3] <;> rfl, HD.out.next, ?_⟩
          exact (set5_below HBW.out _ (Nat.le_refl _) _ _ _ _ _).alloc (by have := HBW.out.size; simp [World.setCell, set5]; omega) _
        case measure => simp [intOf]; omega
    · obtain rfl : j = K + 1 := by omega
      have hne : ¬ ((K + 1 : Nat) : Int) < (K : Int) + 1 := by omega
      have HF8 := Lib.hid (nst_fits8 ⟨K, hK1⟩)
      have HTX := Lib.hid (nst_text K)
      have HFA := Lib.hid (nst_fits0 K 0)
      have HDD : Hid (DeepI w.heap.size K A c wr) := by have := HD.out; rwa [Nat.add_sub_cancel] at this
      rw [Nat.add_sub_cancel] at q3
      clear HD q0 q1 q2 q3 q4 f0 f1 f2 f3 f4
      go_wp2_with fail
      refine (parse_calls (brk (K + 1)) wr (by omega) (HE.out.below HBW.out)).mono ?_
      rintro e w2 ⟨x, v3, v4, code, rfl, hL, hK, hb2, _, hq⟩
      have hq2 := hq.of (by omega) HFA.out HTX.out
      rw [HF8.out] at hq2
      have HD2 := Lib.hid (HDD.out.below hb2)
      have HB2 := Lib.hid (HBW.out.trans (hb2.mono HBW.out.size))
      have hlt2 := blk_lt HD2.out.h
      obtain ⟨A3, c3, rfl⟩ := Kd.R_slice hL
      obtain ⟨A4, c4, rfl⟩ := Kd.R_slice hK
      have HQ2 := Lib.hid hq2
      clear hq hq2 hL hK hb2 HDD hlt
      go_wp2_with (refine Kd.R_make k38 (w0 := w2) w2.heap.size 38 rfl rfl 36 (.tmp 40) (.tmp 40) rfl (M : Int) rfl rfl Tryz.underlying36 (.agg #[(.int .i64 0), (.int .i64 0), (.string ⟨#[]⟩), (.slice none 0 0), (.slice none 0 0)]) 80 info38 rfl (by decide) (by decide) z38 (ok := fun _ => True) (okp := fun _ => True) ?hzero (fun _ _ => trivial) trivial ?h0 ?hl ?HB ?hbase ?_)
      case hzero => exact k38_mkM _ _ _ z38 (Kd.R_nil _ _ _ _ _) (Kd.R_nil _ _ _ _ _)
      case h0 => omega
      case hl => omega
      case HB => exact ba _ _
      case hbase => simp
      intro v1 w3 hR3 hB3 hg3 hown3 hown4 hown5
      obtain ⟨AM, cM, hv1⟩ := Kd.R_slice hR3
      rw [List.length_replicate] at hv1
      rw [hv1] at hR3 ⊢
      have HR3 := Lib.hid hR3
      have HB3 := Lib.hid hB3
      have hs3 := hB3.size
      clear hown4 hown5 hR3 hB3 hg3 hv1
      clear hown3
      go_wp2_with fail
      obtain ⟨W4, hW4⟩ : ∃ W4, W4 = w3.alloc (.cells #[.int .i64 5, .int .i64 0, .string ⟨#[]⟩, .slice AM M cM, .slice none 0 0] 38) := ⟨_, rfl⟩
      have hb4 : Below w3.heap.size w3 W4 := by rw [hW4]; exact ba _ _
      have hL4 : W4.heap[w3.heap.size]? = some (.cells #[.int .i64 5, .int .i64 0, .string ⟨#[]⟩, .slice AM M cM, .slice none 0 0] 38 (0, 0)) := by rw [hW4]; exact World.alloc_heap_new _ _
      have HL4 := Lib.hid hL4
      have HR4 := Lib.hid (Kd.R_below (Kd.R_mono (Kd.R_bound HR3.out) (fun q hq => hq.2.2.1)) hb4)
      have HB4 := Lib.hid (HB3.out.trans (hb4.mono hs3))
      rw [← hW4]
      clear hW4 hb4 hL4
      have h20 : w2.heap.size ≤ w3.heap.size := hs3
      go_loopw [13] (fun i wr => ∃ j, j ≤ M ∧ i = .int .i64 (j : Nat) ∧ k38.R 38 wr w2.heap.size (fun q => q < w3.heap.size) (.slice AM M cM) (nulZ M j) ∧ wr.heap[w3.heap.size]? = some (.cells #[.int .i64 5, .int .i64 0, .string ⟨#[]⟩, .slice AM M cM, .slice none 0 0] 38 (0, 0)) ∧ Below w2.heap.size w2 wr) (fun i _ => M - (intOf i).toNat)
      case atStart => exact ⟨0, Nat.zero_le _, rfl, HR4.out, HL4.out, HB4.out⟩
      case round =>
        obtain ⟨j, hj, rfl, hR, hL, hbw⟩ := hrel
        have l3 := blk_cell hL 3
        by_cases hlt : j < M
        · obtain ⟨g, rfl, hg0, hg1, hc, hf, hR'⟩ := nul_step hR hlt
          have HR' := Lib.hid hR'
          have HL := Lib.hid hL
          have HBw := Lib.hid hbw
          clear hR hR' hL hbw
          go_wp2_with fail
          go_roundw
          case rel => exact ⟨j + 1, by omega, by go_num, HR'.out, by rw [Below.heap_setCell _ _ _ _ (by simp; omega)]; exact HL.out, HBw.out.setCell hg0 _⟩
          case measure => simp [intOf]; omega
        · obtain rfl : j = M := by omega
          have hnul : nulZ j j = (nulls j).f3 := by simp [nulZ, nulls, nul]
          rw [hnul] at hR
          have hVL : VC wr (nulls j) AM cM none 0 := by
            obtain ⟨e1, a, b⟩ := Kd.R_reads' hR
            exact ⟨by rw [← e1]; exact a, b, Nat.le_refl 0, c_nil _ _ _⟩
          have HVL := Lib.hid hVL
          have HL := Lib.hid hL
          have HBw := Lib.hid (HB2.out.trans (hbw.mono HB2.out.size))
          have HDw := Lib.hid (HD2.out.below hbw)
          clear hR hL hbw hVL hnul
          go_wp2_with fail
          refine (answers5_calls wr (HE.out.below HBw.out)).mono ?_
          rintro e w5 ⟨rfl, b5⟩
          have HB5 := Lib.hid (HBw.out.trans (b5.mono HBw.out.size))
          have HD5 := Lib.hid (HDw.out.below b5)
          have HVL5 := Lib.hid (HVL.out.below b5)
          have HL5 := Lib.hid ((b5.block _ (blk_lt HL.out)).trans HL.out)
          have q0 := blk_cell HD5.out.h 0
          have q1 := blk_cell HD5.out.h 1
          have q2 := blk_cell HD5.out.h 2
          have q3 := blk_cell HD5.out.h 3
          have q4 := blk_cell HD5.out.h 4
          clear b5 l3
          have hnf := nst_f K
          have HG1 : Hid (Calls Tryz.prog 32 #[.agg #[.int .i64 5, .int .i64 0, .string ⟨#[]⟩, .slice A (nst K).f3.length c, .slice none 0 0]] w5 fun e w' => e = .returned (.bool (fitsB 8 (nst K))) ∧ Below w5.heap.size w5 w') := by
            have := good_calls (nst K) A c none 0 w5 HD5.out.vc (by rw [nst_wt]; omega)
            rw [hnf.1, hnf.2.1, hnf.2.2.1, hnf.2.2.2] at this
            exact this
          clear hnf
          have HG2 : Hid (∀ w6, Below w5.heap.size w5 w6 → Calls Tryz.prog 32 #[.agg #[.int .i64 5, .int .i64 0, .string ⟨#[]⟩, .slice AM j cM, .slice none 0 0]] w6 fun e w' => e = .returned (.bool (fitsB 8 (nulls j))) ∧ Below w6.heap.size w6 w') := by
            intro w6 hb6
            have := good_calls (nulls j) AM cM none 0 w6 (HVL5.out.below hb6) (by rw [nulls_wt]; omega)
            rw [show (nulls j).f3.length = j from by simp [nulls]] at this
            exact this
          rw [HF8.out] at HG1
          rw [show fitsB 8 (nulls j) = decide (j ≤ 64) from nulls_fits ⟨j, hM1⟩] at HG2
          have HL5' := Lib.hid HL5.out
          rcases HQ2.out with ⟨hk8, hcode, _⟩ | ⟨hk8, hcode, _⟩
          · subst hcode
            have h8 : K + 1 ≤ 8 := by simpa using hk8
            have h8i : (K : Int) + 1 ≤ 8 := by omega
            rw [decide_eq_true h8] at HG1
            clear hk8 h8
            by_cases h64 : j ≤ 64
            · have h64i : (j : Int) ≤ 64 := by omega
              rw [decide_eq_true h64] at HG2
              clear h64
              go_wp2_with fail
              refine HG1.out.mono ?_
              rintro e w6 ⟨rfl, b6⟩
              have HB6 := Lib.hid (HB5.out.trans (b6.mono HB5.out.size))
              have hL6 := (b6.block _ (blk_lt HL5.out)).trans HL5.out
              have HH := Lib.hid (HG2.out w6 b6)
              have l0 := blk_cell hL6 0
              have l1 := blk_cell hL6 1
              have l2 := blk_cell hL6 2
              have l3 := blk_cell hL6 3
              have l4 := blk_cell hL6 4
              clear b6 hL6
              go_wp2_with fail
              refine HH.out.mono ?_
              rintro e w7 ⟨rfl, b7⟩
              have HB7 := Lib.hid (HB6.out.trans (b7.mono HB6.out.size))
              clear b7
              go_wp2_with fail
              go_ret
              exact ⟨rfl, HB7.out⟩
            · have h64i : ¬ (j : Int) ≤ 64 := by omega
              have h64d : decide ((j : Int) ≤ 64) = false := decide_eq_false h64i
              rw [decide_eq_false h64] at HG2
              clear h64
              go_wp2_with fail
              refine HG1.out.mono ?_
              rintro e w6 ⟨rfl, b6⟩
              have HB6 := Lib.hid (HB5.out.trans (b6.mono HB5.out.size))
              have hL6 := (b6.block _ (blk_lt HL5.out)).trans HL5.out
              have HH := Lib.hid (HG2.out w6 b6)
              have l0 := blk_cell hL6 0
              have l1 := blk_cell hL6 1
              have l2 := blk_cell hL6 2
              have l3 := blk_cell hL6 3
              have l4 := blk_cell hL6 4
              clear b6 hL6
              go_wp2_with fail
              refine HH.out.mono ?_
              rintro e w7 ⟨rfl, b7⟩
              have HB7 := Lib.hid (HB6.out.trans (b7.mono HB6.out.size))
              clear b7
              go_wp2_with fail
              go_ret
              exact ⟨rfl, HB7.out⟩
          · subst hcode
            have h8 : ¬ K + 1 ≤ 8 := by simpa using hk8
            have h8i : ¬ (K : Int) + 1 ≤ 8 := by omega
            have h8d : decide ((K : Int) + 1 ≤ 8) = false := decide_eq_false h8i
            rw [decide_eq_false h8] at HG1
            clear hk8 h8
            by_cases h64 : j ≤ 64
            · have h64i : (j : Int) ≤ 64 := by omega
              rw [decide_eq_true h64] at HG2
              clear h64
              go_wp2_with fail
              refine HG1.out.mono ?_
              rintro e w6 ⟨rfl, b6⟩
              have HB6 := Lib.hid (HB5.out.trans (b6.mono HB5.out.size))
              have hL6 := (b6.block _ (blk_lt HL5.out)).trans HL5.out
              have HH := Lib.hid (HG2.out w6 b6)
              have l0 := blk_cell hL6 0
              have l1 := blk_cell hL6 1
              have l2 := blk_cell hL6 2
              have l3 := blk_cell hL6 3
              have l4 := blk_cell hL6 4
              clear b6 hL6
              go_wp2_with fail
              refine HH.out.mono ?_
              rintro e w7 ⟨rfl, b7⟩
              have HB7 := Lib.hid (HB6.out.trans (b7.mono HB6.out.size))
              clear b7
              go_wp2_with fail
              go_ret
              exact ⟨rfl, HB7.out⟩
            · have h64i : ¬ (j : Int) ≤ 64 := by omega
              have h64d : decide ((j : Int) ≤ 64) = false := decide_eq_false h64i
              rw [decide_eq_false h64] at HG2
              clear h64
              go_wp2_with fail
              refine HG1.out.mono ?_
              rintro e w6 ⟨rfl, b6⟩
              have HB6 := Lib.hid (HB5.out.trans (b6.mono HB5.out.size))
              have hL6 := (b6.block _ (blk_lt HL5.out)).trans HL5.out
              have HH := Lib.hid (HG2.out w6 b6)
              have l0 := blk_cell hL6 0
              have l1 := blk_cell hL6 1
              have l2 := blk_cell hL6 2
              have l3 := blk_cell hL6 3
              have l4 := blk_cell hL6 4
              clear b6 hL6
              go_wp2_with fail
              refine HH.out.mono ?_
              rintro e w7 ⟨rfl, b7⟩
              have HB7 := Lib.hid (HB6.out.trans (b7.mono HB6.out.size))
              clear b7
              go_wp2_with fail
              go_ret
              exact ⟨rfl, HB7.out⟩
end Go.Proofs.YtiddjadfkpjpdaaGreatDoor.Q
