/- The law JsonFields: for every input it returns true, and its input reads as it did; and its card, tied to the program's text. -/
import Derived.Test.YtiddjadfkpjpdaaGreatDoorHFields
import Derived.Test.YtiddjadfkpjpdaaGreatDoorHLaw0
import Derived.Test.YtiddjadfkpjpdaaGreatDoorHOpen
set_option linter.unusedVariables false
set_option linter.unusedSimpArgs false
namespace Go.Proofs.YtiddjadfkpjpdaaGreatDoor.jsonFields
open Go.RowKit Go.WideShapes Go.ChangeShapes Go.ChangeAt Go.ChangeMaps Go.Proofs.YtiddjadfkpjpdaaGreatDoor.Q
set_option maxRecDepth 100000 in
theorem contract (H : Type) (enc : TypeId × Value → H) (W : World) (base : Nat) (args : Array Value) (ds gs : List (DataW H)) (before : List MemPlace)
    (hval : ∀ (j : Nat) t v, Tryz.f11.params[j]? = some t → args[j]? = some v → Value.okWide Tryz.prog W .any base t v)
    (hW : DataW.Whole enc Tryz.prog Tryz.f11.params.toList Rows.jsonFieldsSpec.vars false W args.toList ds gs before) (hL : laidMetH Tryz.prog Rows.jsonFieldsUptoRow.laid W) (hk : Rows.uptoSmall H (ds ++ gs) = true) :
    Calls Tryz.prog 11 args W fun e W' => ∃ v, e = .returned v ∧ Rows.jsonFieldsSpec.post enc Tryz.prog Tryz.f11 false true false false W args v W' := by
  have hW' := hW
  have hE : Env W := env_of_laid hL
  obtain ⟨p, q, hA0, hV, rfl, hfz, hnd⟩ := hW
  have hA : DataW.TrodAll enc Tryz.prog W 0 (fun _ => true) true Tryz.f11.params.toList args.toList ds p := hA0
  rw [Tryz.params11] at hA hval
  obtain ⟨v0, vs0, d0, ds0, p0, q0, hargs, rfl, rfl, h0, r0⟩ := trodAll_cons hA
  obtain ⟨v1, vs1, d1, ds1, p1, q1, rfl, rfl, rfl, h1, r1⟩ := trodAll_cons r0
  obtain ⟨v2, vs2, d2, ds2, p2, q2, rfl, rfl, rfl, h2, r2⟩ := trodAll_cons r1
  obtain ⟨rfl, rfl, rfl⟩ := trodAll_nil r2
  obtain rfl : args = #[v0, v1, v2] := by cases args; simp_all
  obtain ⟨rfl, rfl⟩ := trodVars_none hV
  have k0 := h0
  obtain ⟨x0, A0, c0, B0, e0, rfl, C0, b0, n0, m0⟩ := open_val (hval 0 38 v0 rfl rfl) h0
  have k1 := h1
  obtain ⟨x1, A1, c1, B1, e1, rfl, C1, b1, n1, m1⟩ := open_val (hval 1 38 v1 rfl rfl) h1
  obtain ⟨a2, rfl, rfl, rfl, w2⟩ := open_string Tryz.underlying9 (hval 2 9 v2 rfl rfl) h2
  have hkb : Rows.uptoBulkAll ([d0, d1, .lit (.string a2.data.toList)] ++ []) ≤ 1048576 := of_decide_eq_true hk
  simp only [List.append_nil, Rows.uptoBulkAll] at hkb
  clear hA0
  simp only [List.append_nil] at hW'
  refine (fields_walk x0 x1 a2 A0 c0 B0 e0 A1 c1 B1 e1 W C0 C1 (by omega) (by omega) hE).mono fun e W' ⟨he, hb⟩ => ?_
  subst he
  exact ⟨_, rfl, post_of_below (pa := p0 ++ (p1 ++ ([]))) (pv := []) hW' (fun _ _ _ => trodAll_cons_mk (shut_bool Tryz.underlying4 _) trodAll_mk0) (fun sp hsp => (trodAll_cons_mk (reads_again (by kernel_rfl) (by decide +kernel) k0 hb (fun x hx => hsp x (by simp [hx])) (fun x hx => hW'.lt x (by simp [hx]))) (trodAll_cons_mk (reads_again (by kernel_rfl) (by decide +kernel) k1 hb (fun x hx => hsp x (by simp [hx])) (fun x hx => hW'.lt x (by simp [hx]))) (trodAll_cons_mk (shut_string Tryz.underlying9 w2) trodAll_mk0)))) (fun _ _ => rfl) (by simp) hb (ok_one (by kernel_rfl) rfl (okWide_bool_mk Tryz.underlying4 _))⟩
set_option maxRecDepth 100000 in
theorem reads (os : Os) {H : Type} (enc : TypeId × Value → H) : DataW.whole enc Tryz.prog ((lawWorld os).forCall (fun _ _ => 0) ⟨#[], #[.agg #[.int .i64 0, .int .i64 0, .string ⟨#[]⟩, .slice none 0 0, .slice none 0 0], .agg #[.int .i64 0, .int .i64 0, .string ⟨#[]⟩, .slice none 0 0, .slice none 0 0], .string ⟨#[]⟩], []⟩).memory Tryz.f11.params.toList Rows.jsonFieldsSpec.vars false #[.agg #[.int .i64 0, .int .i64 0, .string ⟨#[]⟩, .slice none 0 0, .slice none 0 0], .agg #[.int .i64 0, .int .i64 0, .string ⟨#[]⟩, .slice none 0 0, .slice none 0 0], .string ⟨#[]⟩].toList 8 = some ([.agg [.lit (.int .i64 0), .lit (.int .i64 0), .lit (.string []), .nil, .nil], .agg [.lit (.int .i64 0), .lit (.int .i64 0), .lit (.string []), .nil, .nil], .lit (.string [])], [], []) := by kernel_rfl
set_option maxRecDepth 100000 in
theorem lifted (os : Os) (started : os.Started) (H : Type) (enc : TypeId × Value → H) (F : Stop.Interp) :
    ReturnsInHanded {} Tryz.checked os 11 .any ((Rows.OpenSpec.upto Rows.jsonFieldsSpec).preRow enc Tryz.prog Tryz.f11 Rows.jsonFieldsUptoRow.domain false Rows.jsonFieldsUptoRow.laid) (((Rows.OpenSpec.upto Rows.jsonFieldsSpec).at F).post enc Tryz.prog Tryz.f11 false true false false) := by
  refine returnsInHanded_of_row (C := Tryz.checked) (s := Rows.OpenSpec.upto Rows.jsonFieldsSpec) own started (by kernel_rfl) Tryz.func11
    (witness_row_atRef (enc := enc) (C := Tryz.checked) false (lawWorld os) #[.agg #[.int .i64 0, .int .i64 0, .string ⟨#[]⟩, .slice none 0 0, .slice none 0 0], .agg #[.int .i64 0, .int .i64 0, .string ⟨#[]⟩, .slice none 0 0, .slice none 0 0], .string ⟨#[]⟩] rfl (law_vars os _) (law_rest os _) (by kernel_rfl)
      (OpenSpec.preRow_of_cond 8 (reads os enc) (by kernel_rfl) (fun k hk => by cases hk; kernel_rfl) (by kernel_rfl) (law_met os _))) ?_
  intro W base args ds gs before hval hW _ hc _ hL _ _
  exact contract H enc W base args ds gs before hval hW hL (hc _ rfl)
set_option maxHeartbeats 4000000 in
theorem closed : joinedFacts Tryz.pinned.checked.prog 11 Tryz.f11 (Rows.OpenSpec.upto Rows.jsonFieldsSpec).bare Rows.jsonFieldsUptoRow = true := by
  unfold joinedFacts
  refine band (band (band (band (band (band (band (band (band (band (band (band (band (band (band (band (band (band (band (band (band (band (band (band (band (band (band (band (band (band (band ?_ ?_) ?_) ?_) ?_) ?_) ?_) ?_) ?_) ?_) ?_) ?_) ?_) ?_) ?_) ?_) ?_) ?_) ?_) ?_) ?_) ?_) ?_) ?_) ?_) ?_) ?_) ?_) ?_) ?_) ?_) ?_
  all_goals (as_aux_lemma => kernel_rfl)
theorem named : Tryz.pinned.checked.prog.funcNamed Rows.jsonFieldsUptoRow.func = some 11 := by kernel_rfl
theorem isInst : decide (Tryz.f11.isInstance Tryz.pinned.checked.prog Rows.jsonFieldsUptoRow.origin Rows.jsonFieldsUptoRow.targs) = true := by kernel_rfl
theorem isWrap : Tryz.f11.isWrapper Tryz.pinned.checked.prog Rows.jsonFieldsUptoRow.wrapper Rows.jsonFieldsUptoRow.mainSum := by
  unfold Func.isWrapper
  first | (rw [if_pos (by decide +kernel)]; kernel_rfl) | (rw [if_neg (by decide +kernel)]; exact ⟨rfl, rfl⟩)
theorem said : Rows.JsonFieldsUptoSaid :=
  OpenClaim.holds_of_cond 11 Tryz.f11 rfl rfl rfl rfl rfl rfl rfl ⟨rfl, rfl, rfl, rfl, rfl⟩ rfl rfl rfl rfl rfl named Tryz.func11 closed (of_decide_eq_true isInst) isWrap
    (fun os started H enc _ F => by rw [OpenClaim.pre_eq_preRow]; exact lifted os started H enc F)
theorem plain (f : FuncId) (fn : Func) (hf : Tryz.pinned.checked.prog.funcNamed "exequatur/exequaturlaw05.JsonFields" = some f) (hfn : Tryz.pinned.checked.prog.funcs[f]? = some fn) :
    true = Tryz.pinned.checked.prog.looks [] ∧ ∀ (j : Nat) t, fn.params[j]? = some t → Tryz.pinned.checked.prog.wantsStandIn t = false := by
  obtain rfl : f = 11 := Option.some.inj ((show Tryz.prog.funcNamed "exequatur/exequaturlaw05.JsonFields" = some 11 by kernel_rfl).symm.trans hf) |>.symm
  obtain rfl : fn = Tryz.f11 := (Option.some.inj (Tryz.func11.symm.trans hfn)).symm
  refine ⟨by kernel_rfl, fun j t ht => ?_⟩
  rw [Tryz.params11] at ht
  have hm : t ∈ [38, 38, 9] := by simpa using Array.mem_of_getElem? ht
  have hall : ([38, 38, 9].all fun u => !Tryz.prog.wantsStandIn u) = true := by kernel_rfl
  exact (show Tryz.prog.wantsStandIn t = false by simpa using List.all_eq_true.1 hall t hm)
theorem wfText : Rows.jsonFieldsUptoRow.wfByText (Rows.OpenSpec.upto Rows.jsonFieldsSpec) = true := by kernel_rfl
theorem mainIs_ : Tryz.pinned.checked.prog.mainIs = some (Rows.jsonFieldsUptoCard.stood.harness.1, Rows.jsonFieldsUptoCard.stood.harness.2.toList) := by kernel_rfl
theorem goes_ : false = Rows.jsonFieldsUptoRow.goesBy Tryz.pinned.checked.prog := by kernel_rfl
/-- The card. -/
theorem card : Rows.JsonFieldsUptoCardSaid :=
  Claim7.holds_tied_plain_at .later [] _ _ _ _ said (fun _ h => by cases h) wfText (fun _ h => by cases h) jsonFieldsUpto_row_tie rfl ⟨rfl, rfl⟩ mainIs_ rfl plain goes_
#print axioms card
end Go.Proofs.YtiddjadfkpjpdaaGreatDoor.jsonFields
