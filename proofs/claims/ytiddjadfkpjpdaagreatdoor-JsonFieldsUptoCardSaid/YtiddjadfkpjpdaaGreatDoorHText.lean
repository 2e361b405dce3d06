/- json.reader.text. -/
import Derived.Test.YtiddjadfkpjpdaaGreatDoorHRead
import Derived.Test.YtiddjadfkpjpdaaGreatDoorHBuild
import Derived.WalkMore
import Derived.ScopeJumps
set_option linter.unusedVariables false
set_option linter.unusedSimpArgs false
namespace Go.Proofs.YtiddjadfkpjpdaaGreatDoor.Q
open Go.RowKit Go.Proofs.YtiddjadfkpjpdaaGreatDoorW.PrintWords
theorem Bd.kept {B p : Nat} {acc : List UInt8} {w w' : World} (h : Bd B acc w) (hg : w.grownBy w' (some p)) (hp : p < B) : Bd B acc w' := by
  have key : ∀ q, Lib.BuilderAt 105 5 B B q (Lib.byteCells acc) w → Lib.BuilderAt 105 5 B B q (Lib.byteCells acc) w' := by
    rintro q ⟨hB, v, hb, ho, hne⟩
    refine ⟨hB, v, (hg.block B (blk_lt hb) (by intro e; simp at e; omega)).trans hb, ho.kept hg (.inr (fun e => ?_)), hne⟩
    have := own_base ho p e
    omega
  exact h.elim (fun x => .inl (key _ x)) (fun x => .inr (key _ x))
/-- What text does. -/
def TextP (p : Nat) (l : List UInt8) (b : Bool) (w : World) (e : Ending) (w' : World) : Prop :=
  ∃ (s r : List UInt8) (b' : Bool), e = .returned (.string ⟨s.toArray⟩) ∧ Rd p w' r b' ∧ w.grownBy w' (some p) ∧ s.length + r.length ≤ l.length ∧
      (∀ x t, b = false → l = quoteL x ++ t → s = x ∧ r = t ∧ b' = false)
/-- Where text stands: what it has, and what is left. -/
structure TextI (p B : Nat) (l : List UInt8) (b : Bool) (w0 : World) (acc l' : List UInt8) (b' : Bool) (w : World) : Prop where
  bd : Bd B acc w
  rd : Rd p w l' b'
  gr : w0.grownBy w (some p)
  len : acc.length + l'.length ≤ l.length
  ok : ∀ x t, b = false → l = quoteL x ++ t → b' = false ∧ ∃ x1, x = acc ++ x1 ∧ l' = x1.flatMap quoteByte ++ 34 :: t
def lenAt (p : Nat) (w : World) : Nat := match w.cell? ⟨p, 0, none⟩ with | some (.string s) => s.size | _ => 0
theorem Rd.lenAt {p : Nat} {w : World} {l : List UInt8} {b : Bool} (h : Rd p w l b) : lenAt p w = l.length := by
  unfold Q.lenAt; rw [h.cells.1]; rfl
theorem wp_scope_jumps1 {P : Program} {a : Act} {w : World} {Q : Exit → Act → World → Prop} {c rest : Code} (l : Nat) (J : Act → World → Prop) (μ : Act → World → Nat) (hf : findLabel c l = some (Code.skip.seq rest))
    (pass : ∀ a w, J a w → rest.wp P (Exit.jump l (fun a' w' => J a' w' ∧ μ a' w' < μ a w) Q) a w)
    (first : (∀ a w, J a w → rest.wp P (Exit.jump l J Q) a w) → c.wp P (Exit.jump l J Q) a w) : (Code.scope c).wp P Q a w := by
  refine wp_scope_jumps l J μ hf (first fun a w h => Go.wp_mono (pass a w h) ?_) fun a w h => wp_seq (wp_skip (pass a w h))
  intro e a' w' hq
  cases e <;> first | exact hq | exact ⟨hq.1, hq.2.1⟩
/-- text's frame at its label. -/
def TextJ (p B : Nat) (l : List UInt8) (b : Bool) (w0 : World) (a : Act) (w : World) : Prop :=
  (∃ acc l' b', TextI p B l b w0 acc l' b' w) ∧ ∃ (u1 u2 u4 u5 u6 u7 u8 u9 u10 u11 u12 u13 u14 u15 u16 u17 u18 u19 u20 u21 u22 u23 u24 u25 u26 u27 u28 u29 u30 u31 u32 u33 u34 u35 u36 u37 u38 u39 u40 u41 u42 u43 u44 u45 u46 u47 u48 u49 u50 u51 u52 u53 : Value), a = { tmps := #[Value.pointer (some ⟨p, 0, none⟩), u1, u2, Value.pointer (some ⟨B, 0, none⟩), u4, u5, u6, u7, u8, u9, u10, u11, u12, u13, u14, u15, u16, u17, u18, u19, u20, u21, u22, u23, u24, u25, u26, u27, u28, u29, u30, u31, u32, u33, u34, u35, u36, u37, u38, u39, u40, u41, u42, u43, u44, u45, u46, u47, u48, u49, u50, u51, u52, u53], defers := [] }
theorem pre1_no {a d : UInt8} {r : List UInt8} (h : a ≠ d) : [a].isPrefixOf (d :: r) = false := by
  have : (a == d) = false := by simpa using h
  simp [List.isPrefixOf, this]
theorem gthen {w w2 w3 : World} {row : Option Nat} {B : Nat} (h : w.grownBy w2 row) (hb : Below B w2 w3) (hB : w.heap.size ≤ B) : w.grownBy w3 row := ⟨hb.os.trans h.os, hb.tape.trans h.tape, hb.output.trans h.output, Nat.le_trans h.size hb.size, fun k hk hne => (hb.block k (by omega)).trans (h.block k hk hne)⟩
theorem quoteByte_head (c : UInt8) : ∃ d q, quoteByte c = d :: q ∧ d ≠ 34 ∧ (d = 92 → (c = 34 ∨ c = 92 ∨ c < 32)) ∧ (d ≠ 92 → q = [] ∧ d = c ∧ ¬ c < 32) := by
  unfold quoteByte
  split
  · rename_i h; exact ⟨92, [c], rfl, by decide, fun _ => by rcases h with h | h <;> simp [h], fun h => absurd rfl h⟩
  · split
    · rename_i h; exact ⟨92, _, rfl, by decide, fun _ => .inr (.inr h), fun h => absurd rfl h⟩
    · rename_i h h2; simp only [not_or] at h; exact ⟨c, [], rfl, h.1, fun hc => absurd hc h.2, fun _ => ⟨rfl, rfl, h2⟩⟩
theorem TextI.quote {p B : Nat} {l : List UInt8} {b : Bool} {w0 : World} {acc r : List UInt8} {w : World} (h : TextI p B l b w0 acc (34 :: r) false w) : ∀ x t, b = false → l = quoteL x ++ t → acc = x ∧ r = t ∧ false = false := by
  intro x t hb hq
  obtain ⟨_, x1, rfl, hl⟩ := h.ok x t hb hq
  cases x1 with
  | nil => simp at hl; exact ⟨by simp, hl, rfl⟩
  | cons c x2 =>
    obtain ⟨d, q, hd, hne, _⟩ := quoteByte_head c
    simp only [List.flatMap_cons, hd, List.cons_append, List.cons.injEq] at hl
    exact absurd hl.1.symm hne
theorem TextI.more {p B : Nat} {l : List UInt8} {b : Bool} {w0 : World} {acc l' : List UInt8} {d : UInt8} {w : World} (h : TextI p B l b w0 acc (d :: l') false w) (hd : d ≠ 34) : ∀ x t, b = false → l = quoteL x ++ t →
    ∃ c x2, x = acc ++ [c] ++ x2 ∧ d :: l' = quoteByte c ++ (x2.flatMap quoteByte ++ 34 :: t) ∧ (d = 92 → (c = 34 ∨ c = 92 ∨ c < 32)) ∧ (d ≠ 92 → c = d ∧ l' = x2.flatMap quoteByte ++ 34 :: t ∧ ¬ c < 32) := by
  intro x t hb hq
  obtain ⟨_, x1, rfl, hl⟩ := h.ok x t hb hq
  cases x1 with
  | nil => simp at hl; exact absurd hl.1 hd
  | cons c x2 =>
    obtain ⟨d', q, hd', hne, h1, h2⟩ := quoteByte_head c
    rw [List.flatMap_cons, List.append_assoc] at hl
    have he : d = d' := by rw [hd'] at hl; simp at hl; exact hl.1
    subst he
    refine ⟨c, x2, by simp, hl, h1, fun hn => ?_⟩
    obtain ⟨hq0, hc, h32⟩ := h2 hn
    subst hq0
    rw [hd'] at hl; simp at hl
    exact ⟨hc.symm, hl, h32⟩
set_option maxRecDepth 100000 in
set_option maxHeartbeats 8000000 in
theorem text_calls (p : Nat) (l : List UInt8) (b : Bool) (w : World) (h : Rd p w l b) (hl : l.length ≤ 1099511627776) :
    Calls Tryz.prog 100 #[.pointer (some ⟨p, 0, none⟩)] w (TextP p l b w) := by
  have hpl := h.lt
  have HR := Lib.hid h
  clear h
  go_enter Tryz.func100, Tryz.ntmps100
  go_wp2_with fail
  refine wp_scope_jumps1 0 (TextJ p w.heap.size l b w) (fun _ w' => lenAt p w') rfl ?pass ?first
  case first =>
    intro HP
    have HPP := Lib.hid HP
    clear HP
    go_wp2_with fail
    have hR0 : Rd p (w.alloc (Obj.cells #[Value.pointer none, Value.slice none 0 0] 105)) l b := HR.out.kept (ba _ _)
    refine (need_calls p l [34] b _ hR0 hl).mono ?_
    rintro e w1 ⟨⟨v1, rfl⟩, h1, g1⟩
    go_wp2_with fail
    go_step3
    simp only [Exit.then]
    apply_assumption
    refine HPP.out _ _ ⟨⟨[], _, _, (Bd.fresh w).kept g1 hpl, h1, (World.grownBy_alloc w _ _).trans g1, ?_, ?_⟩, ⟨_, _, _, _, _, _, _, _, _, _, _, _, _, _, _, _, _, _, _, _, _, _, _, _, _, _, _, _, _, _, _, _, _, _, _, _, _, _, _, _, _, _, _, _, _, _, _, _, _, _, _, _, rfl⟩⟩
    · split <;> simp
    · intro x t hb hq
      subst hq
      subst hb
      have : [34].isPrefixOf (quoteL x ++ t) = true := by simp [quoteL]
      rw [if_pos this, this]
      exact ⟨rfl, x, rfl, by simp [quoteL]⟩
  case pass =>
    rintro a w1 ⟨⟨acc, l', b', hI⟩, u1, u2, u4, u5, u6, u7, u8, u9, u10, u11, u12, u13, u14, u15, u16, u17, u18, u19, u20, u21, u22, u23, u24, u25, u26, u27, u28, u29, u30, u31, u32, u33, u34, u35, u36, u37, u38, u39, u40, u41, u42, u43, u44, u45, u46, u47, u48, u49, u50, u51, u52, u53, rfl⟩
    have HI := Lib.hid hI
    obtain ⟨c0, c1, f0, f1⟩ := hI.rd.cells
    have hacc : acc.length ≤ 1099511627776 := by have := hI.len; omega
    have hll : l'.length ≤ 1099511627776 := by have := hI.len; omega
    have HM : Hid (lenAt p w1 = l'.length) := hI.rd.lenAt
    clear hI
    cases b' with
    | true =>
      go_wp2_with fail
      simp only [Exit.jump]
      go_ret
      refine ⟨[], l', true, rfl, HI.out.rd.setB, HI.out.gr.trans (gset _ _ _ _), by have := HI.out.len; simp; omega, fun x t hb hq => ?_⟩
      have := (HI.out.ok x t hb hq).1
      simp at this
    | false =>
      cases l' with
      | nil =>
        go_wp2_with fail
        simp only [Exit.jump]
        go_ret
        refine ⟨[], [], true, rfl, HI.out.rd.setB, HI.out.gr.trans (gset _ _ _ _), by simp, fun x t hb hq => ?_⟩
        obtain ⟨_, x1, _, hx⟩ := HI.out.ok x t hb hq
        simp at hx
      | cons d r =>
        have HT := Lib.hid (take_calls p (d :: r) [34] false w1 HI.out.rd hll)
        by_cases hd : d = 34
        · subst hd
          have hp : [34].isPrefixOf (34 :: r) = true := by simp
          simp only [hp, if_true] at HT
          clear hp
          go_wp2_with fail
          refine HT.out.mono ?_
          rintro e w2 ⟨rfl, h2, g2⟩
          go_wp2_with fail
          refine (bstr _ acc w2 (HI.out.bd.kept g2 hpl)).mono ?_
          rintro e w3 ⟨rfl, b3⟩
          go_wp2_with fail
          simp only [Exit.jump]
          go_ret
          have hlen : acc.length + r.length ≤ l.length := by have := HI.out.len; have h5 : (34 :: r).length = r.length + 1 := rfl; omega
          exact ⟨acc, r, false, rfl, (b3.block p hpl).trans h2, gthen (HI.out.gr.trans g2) b3 (Nat.le_refl _), hlen, HI.out.quote⟩
        · have hp : [34].isPrefixOf (d :: r) = false := pre1_no (fun e => hd e.symm)
          simp only [hp, Bool.false_eq_true, if_false] at HT
          clear hp
          go_wp2_with fail
          refine HT.out.mono ?_
          rintro e w2 ⟨rfl, h2, g2⟩
          go_wp2_with fail
          have HT2 := Lib.hid (take_calls p (d :: r) [92] false w2 h2 hll)
          have HB2 := Lib.hid (HI.out.bd.kept g2 hpl)
          have G2 := Lib.hid (HI.out.gr.trans g2)
          have HMO := Lib.hid (HI.out.more hd)
          have HLE := Lib.hid HI.out.len
          clear h2 g2 HT
          by_cases hd2 : d = 92
          · subst hd2
            have hp : [92].isPrefixOf (92 :: r) = true := by simp
            simp only [hp, if_true] at HT2
            clear hp
            refine HT2.out.mono ?_
            rintro e w3 ⟨rfl, h3, g3⟩
            go_wp2_with fail
            refine (escaped_calls p r false w3 h3 (by have hh := HLE.out; have h5 : (92 :: r).length = r.length + 1 := rfl; omega)).mono ?_
            rintro e w4 ⟨c, r4, b4, rfl, h4, g4, hl4, hc4⟩
            go_wp2_with fail
            refine (wb _ acc c.toNat w4 ((HB2.out.kept g3 hpl).kept g4 hpl) (by omega) (by have := c.toNat_lt; omega) hacc).mono ?_
            rintro e w5 ⟨rfl, h5, b5⟩
            rw [u8_cast] at h5
            go_wp2_with fail
            go_step3
            have hR5 : Rd p w5 r4 b4 := (b5.block p hpl).trans h4
            refine ⟨rfl, ⟨⟨acc ++ [c], r4, b4, h5, hR5, gthen ((G2.out.trans g3).trans g4) b5 (Nat.le_refl _), ?_, ?_⟩, ⟨_, _, _, _, _, _, _, _, _, _, _, _, _, _, _, _, _, _, _, _, _, _, _, _, _, _, _, _, _, _, _, _, _, _, _, _, _, _, _, _, _, _, _, _, _, _, _, _, _, _, _, _, rfl⟩⟩, ?_⟩
            · have := HLE.out; simp only [List.length_cons, List.length_append, List.length_nil] at this ⊢; omega
            · intro x t hb hq
              obtain ⟨c', x2, hx, hqq, h92, _⟩ := HMO.out x t hb hq
              obtain ⟨rfl, rfl, rfl⟩ := hc4 c' _ (by simp) hqq (h92 (by simp))
              exact ⟨rfl, x2, by rw [hx], rfl⟩
            · have hh := HM.out; refine Nat.lt_of_le_of_lt (Nat.le_of_eq hR5.lenAt) ?_; rw [hh]; try simp only [List.length_cons]
              omega
          · have hp : [92].isPrefixOf (d :: r) = false := pre1_no (fun e => hd2 e.symm)
            simp only [hp, Bool.false_eq_true, if_false] at HT2
            clear hp
            refine HT2.out.mono ?_
            rintro e w3 ⟨rfl, h3, g3⟩
            obtain ⟨c0, c1, f0, f1⟩ := h3.cells
            go_wp2_with fail
            refine (wb _ acc d.toNat w3 (HB2.out.kept g3 hpl) (by omega) (by have := d.toNat_lt; omega) hacc).mono ?_
            rintro e w4 ⟨rfl, h4, b4⟩
            rw [u8_cast] at h4
            have hR4 : Rd p w4 (d :: r) false := (b4.block p hpl).trans h3
            obtain ⟨c0, c1, f0, f1⟩ := hR4.cells
            have q0 : (0 : Int) < (r.length : Int) + 1 := by omega
            have HX : Hid (((⟨(d :: r).toArray⟩ : ByteArray).extract 1 (r.length + 1)) = ⟨r.toArray⟩) := by show _ = _; rw [ext_mk]; simp
            have H4 := Lib.hid h4
            have HR4 := Lib.hid hR4
            clear h4 hR4
            go_wp2_with fail
            go_step3
            rw [HX.out]
            have hR5 := (HR4.out.setB (b' := decide (((d.toNat : Nat) : Int) < 32))).setS (l' := r)
            refine ⟨rfl, ⟨⟨acc ++ [d], r, _, (H4.out.kept (gset _ _ _ _) hpl).kept (gset _ _ _ _) hpl, hR5, ((gthen (G2.out.trans g3) b4 (Nat.le_refl _)).trans (gset _ _ _ _)).trans (gset _ _ _ _), ?_, ?_⟩, ⟨_, _, _, _, _, _, _, _, _, _, _, _, _, _, _, _, _, _, _, _, _, _, _, _, _, _, _, _, _, _, _, _, _, _, _, _, _, _, _, _, _, _, _, _, _, _, _, _, _, _, _, _, rfl⟩⟩, ?_⟩
            · have := HLE.out; simp only [List.length_cons, List.length_append, List.length_nil] at this ⊢; omega
            · intro x t hb hq
              obtain ⟨c', x2, hx, hqq, _, hn⟩ := HMO.out x t hb hq
              obtain ⟨rfl, h2, h32⟩ := hn hd2
              have h33 : ¬ c'.toNat < 32 := h32
              exact ⟨by simp; omega, x2, by rw [hx], h2⟩
            · have hh := HM.out; refine Nat.lt_of_le_of_lt (Nat.le_of_eq hR5.lenAt) ?_; rw [hh]; try simp only [List.length_cons]
              omega
end Go.Proofs.YtiddjadfkpjpdaaGreatDoor.Q
