/- The row of CodeJoins: its walk, its plain law, the reading of its arguments. Condition: the bulk's bound. -/
import Derived.Test.YtljfichnlgfikaaDoorXLaid
import Derived.Test.YtljfichnlgfikaaDoorXA
import Derived.Test.YtljfichnlgfikaaDoorXPureCodeJoins
import Derived.WalkKit
import Derived.ProofKit
import Derived.OpenShut
import Derived.ShutString
import Derived.ChangeOld
import Derived.Below
import Derived.Deep.DeepHandedRow
namespace Go.Proofs.YtljfichnlgfikaaDoor.codeJoins
open Go.ChangeShapes Go.WideShapes Go.ChangeAt Go.RowKit
open Go.ChangeMaps (open_string shut_string)
theorem own : ownKnob Tryd.prog.godebug = none := by kernel_rfl
theorem laidOut : laidOutB Tryd.prog = true := by kernel_rfl
set_option maxRecDepth 100000 in
theorem contract (H : Type) (enc : TypeId × Value → H) (W : World) (base : Nat) (args : Array Value) (ds gs : List (DataW H)) (before : List MemPlace)
    (hval : ∀ (j : Nat) t v, Tryd.f7.params[j]? = some t → args[j]? = some v → Value.okWide Tryd.prog W .any base t v)
    (hW : DataW.Whole enc Tryd.prog Tryd.f7.params.toList Rows.codeJoinsSpec.vars false W args.toList ds gs before) (hk : Rows.uptoSmall H (ds ++ gs) = true) :
    Calls Tryd.prog 7 args W fun e W' => ∃ v, e = .returned v ∧ Rows.codeJoinsSpec.post enc Tryd.prog Tryd.f7 false true false false W args v W' := by
  have hW' := hW
  obtain ⟨p, q, hA0, hV, rfl, hfz, hnd⟩ := hW
  have hA : DataW.TrodAll enc Tryd.prog W 0 (fun _ => true) true Tryd.f7.params.toList args.toList ds p := hA0
  rw [Tryd.params7] at hA hval
  obtain ⟨v0, vs0, d0, ds0, p0, q0, hargs, rfl, rfl, h0, r0⟩ := trodAll_cons hA
  obtain ⟨v1, vs1, d1, ds1, p1, q1, rfl, rfl, rfl, h1, r1⟩ := trodAll_cons r0
  obtain ⟨v2, vs2, d2, ds2, p2, q2, rfl, rfl, rfl, h2, r2⟩ := trodAll_cons r1
  obtain ⟨rfl, rfl, rfl⟩ := trodAll_nil r2
  obtain rfl : args = #[v0, v1, v2] := by cases args; simp_all
  obtain ⟨rfl, rfl⟩ := trodVars_none hV
  have hbd := XA.bound hk
  simp only [List.append_nil, Rows.uptoBulkAll] at hbd
  have k0 := h0
  have lt0 : ∀ x ∈ p0, x.block < W.heap.size := by obtain ⟨m, hm⟩ := k0; exact DataW.trod_lt m _ _ _ hm
  obtain ⟨sa0, sl0, sc0, rfl⟩ := okWide_slice (show Tryd.prog.underlying 22 = some (.slice 42) from by kernel_rfl) (hval 0 22 v0 rfl rfl)
  obtain ⟨fu0, hf0⟩ := h0
  obtain ⟨A0, c0, l0, e0, hr0, hc0, hi0, hb0⟩ := XA.open_sl PAll.k42 XA.in42 XA.wt42 (show Tryd.prog.underlying 22 = some (.slice 42) from by kernel_rfl) (by kernel_rfl) (fun _ _ _ h' => XA.kk42 h') hf0
  simp only [Value.cells, List.cons.injEq, and_true] at e0
  obtain ⟨ea0, el0, ec0⟩ : sa0 = A0 ∧ sl0 = l0.length ∧ sc0 = c0 := by simpa using e0
  obtain rfl := ea0.symm
  obtain rfl := el0.symm
  obtain rfl := ec0.symm
  replace hb0 : _ ≤ Rows.uptoBulk d0 := hb0
  have k1 := h1
  have lt1 : ∀ x ∈ p1, x.block < W.heap.size := by obtain ⟨m, hm⟩ := k1; exact DataW.trod_lt m _ _ _ hm
  obtain ⟨sa1, sl1, sc1, rfl⟩ := okWide_slice (show Tryd.prog.underlying 22 = some (.slice 42) from by kernel_rfl) (hval 1 22 v1 rfl rfl)
  obtain ⟨fu1, hf1⟩ := h1
  obtain ⟨A1, c1, l1, e1, hr1, hc1, hi1, hb1⟩ := XA.open_sl PAll.k42 XA.in42 XA.wt42 (show Tryd.prog.underlying 22 = some (.slice 42) from by kernel_rfl) (by kernel_rfl) (fun _ _ _ h' => XA.kk42 h') hf1
  simp only [Value.cells, List.cons.injEq, and_true] at e1
  obtain ⟨ea1, el1, ec1⟩ : sa1 = A1 ∧ sl1 = l1.length ∧ sc1 = c1 := by simpa using e1
  obtain rfl := ea1.symm
  obtain rfl := el1.symm
  obtain rfl := ec1.symm
  replace hb1 : _ ≤ Rows.uptoBulk d1 := hb1
  have k2 := h2
  have lt2 : ∀ x ∈ p2, x.block < W.heap.size := by obtain ⟨m, hm⟩ := k2; exact DataW.trod_lt m _ _ _ hm
  obtain ⟨a2, rfl, rfl, rfl, y2⟩ := open_int (k := .i64) (show Tryd.prog.underlying 3 = some (.int .i64) from by kernel_rfl) (hval 2 3 v2 rfl rfl) h2
  have hb2 := XA.lit_int (H := H) .i64 a2
  have hi2 : -9223372036854775808 ≤ a2 ∧ a2 < 9223372036854775808 := by
    have h1 : IntKind.min .i64 = -9223372036854775808 := by decide
    have h2 : IntKind.max .i64 = 9223372036854775807 := by decide
    simp [Lit.wf, h1, h2] at y2; omega
  clear hA0 hval hk
  obtain ⟨k, hk⟩ := Pure.CodeJoins l0 l1 a2 hi0 hi1 hi2 (by omega)
  refine (PAll.factotumlaw13_CodeJoins.calls k A0 c0 l0 A1 c1 l1 a2 true W hr0 hc0 hr1 hc1 hk).mono fun e W' ⟨he, bel⟩ => ?_
  subst he
  exact ⟨_, rfl, _, _, _, [], _, [], hW', trodAll_mk1 (shut_bool Tryd.underlying4 _), (trodAll_cons_mk (Below.trod laidOut (by kernel_rfl) (of_decide_eq_true (by kernel_rfl)) k0 bel lt0) (trodAll_cons_mk (Below.trod laidOut (by kernel_rfl) (of_decide_eq_true (by kernel_rfl)) k1 bel lt1) (trodAll_cons_mk (Below.trod laidOut (by kernel_rfl) (of_decide_eq_true (by kernel_rfl)) k2 bel lt2) trodAll_mk0))), rfl, bel.frame _, fun h => by cases h⟩
theorem reads (os : Os) {H : Type} (enc : TypeId × Value → H) : ∃ places, DataW.whole enc Tryd.prog ((XL.laidWorld os).forCall (fun _ _ => 0) ⟨#[], #[.slice none 0 0, .slice none 0 0, .int .i64 0], []⟩).memory Tryd.f7.params.toList Rows.codeJoinsSpec.vars false #[(.slice none 0 0 : Value), (.slice none 0 0 : Value), (.int .i64 0 : Value)].toList 8 = some ([.nil, .nil, .lit (.int .i64 0)], [], places) :=
  ⟨[], by kernel_rfl⟩
set_option maxRecDepth 100000 in
theorem lifted (os : Os) (started : os.Started) (H : Type) (enc : TypeId × Value → H) (F : Stop.Interp) :
    ReturnsInHanded {} Tryd.checked os 7 .any ((Rows.OpenSpec.upto Rows.codeJoinsSpec).preRow enc Tryd.prog Tryd.f7 Rows.codeJoinsUptoRow.domain false Rows.codeJoinsUptoRow.laid) (((Rows.OpenSpec.upto Rows.codeJoinsSpec).at F).post enc Tryd.prog Tryd.f7 false true false false) := by
  obtain ⟨places, hx⟩ := reads os enc
  refine returnsInHanded_of_row (C := Tryd.checked) (s := Rows.OpenSpec.upto Rows.codeJoinsSpec) own started (by kernel_rfl) Tryd.func7
    (witness_row_at (enc := enc) (C := Tryd.checked) false (XL.laidWorld os) #[.slice none 0 0, .slice none 0 0, .int .i64 0] rfl (by kernel_rfl) (by kernel_rfl) (by kernel_rfl)
      (OpenSpec.preRow_of_cond 8 hx (by kernel_rfl) (fun k hk => by cases hk; kernel_rfl) (by kernel_rfl) (XL.laid_met os _))) ?_
  intro W base args ds gs before hval hW _ hcond _ hL _ _
  exact contract H enc W base args ds gs before hval hW (hcond _ rfl)
theorem said : Rows.CodeJoinsUptoSaid :=
  OpenClaim.holds_of_cond 7 Tryd.f7 rfl rfl rfl rfl rfl rfl rfl ⟨rfl, rfl, rfl, rfl, rfl⟩ rfl rfl rfl rfl rfl (by kernel_rfl) Tryd.func7 (by kernel_rfl)
    (of_decide_eq_true (by kernel_rfl)) (by unfold Func.isWrapper; first | (rw [if_pos (by decide +kernel)]; kernel_rfl) | (rw [if_neg (by decide +kernel)]; exact ⟨rfl, rfl⟩))
    (fun os started H enc _ F => by rw [OpenClaim.pre_eq_preRow]; exact lifted os started H enc F)
theorem plain (f : FuncId) (fn : Func) (hf : Tryd.pinned.checked.prog.funcNamed "factotum/factotumlaw13.CodeJoins" = some f) (hfn : Tryd.pinned.checked.prog.funcs[f]? = some fn) :
    false = Tryd.pinned.checked.prog.looks [] ∧ ∀ (j : Nat) t, fn.params[j]? = some t → Tryd.pinned.checked.prog.wantsStandIn t = false := by
  obtain rfl : f = 7 := Option.some.inj ((show Tryd.prog.funcNamed "factotum/factotumlaw13.CodeJoins" = some 7 by kernel_rfl).symm.trans hf) |>.symm
  obtain rfl : fn = Tryd.f7 := (Option.some.inj (Tryd.func7.symm.trans hfn)).symm
  refine ⟨by kernel_rfl, fun j t ht => ?_⟩
  rw [Tryd.params7] at ht
  have hm : t = 22 ∨ t = 22 ∨ t = 3 := by simpa using Array.mem_of_getElem? ht
  rcases hm with rfl | rfl | rfl
  · exact (show Tryd.prog.wantsStandIn 22 = false by kernel_rfl)
  · exact (show Tryd.prog.wantsStandIn 22 = false by kernel_rfl)
  · exact (show Tryd.prog.wantsStandIn 3 = false by kernel_rfl)
theorem card : Rows.CodeJoinsUptoCardSaid :=
  Claim7.holds_tied_plain_at .later [] _ _ _ _ said (fun _ h => by cases h) (by kernel_rfl) (fun _ h => by cases h) codeJoinsUpto_row_tie rfl ⟨rfl, rfl⟩ (by kernel_rfl) rfl plain (by kernel_rfl)
end Go.Proofs.YtljfichnlgfikaaDoor.codeJoins
namespace Go.Proofs.YtljfichnlgfikaaDoor
/-- The row, under a short name, for the claim. -/
theorem codeJoins_holds : Rows.CodeJoinsUptoCardSaid := codeJoins.card
end Go.Proofs.YtljfichnlgfikaaDoor
