/- The row of NodeSplits: its walk, its plain law, the reading of its arguments. Condition: the bulk's bound. -/
import Derived.Test.YtokjbncjapndgaaXLaid
import Derived.Test.YtokjbncjapndgaaXA
import Derived.Test.YtokjbncjapndgaaXPureNodeSplits
import Derived.WalkKit
import Derived.ProofKit
import Derived.OpenShut
import Derived.ShutString
import Derived.ChangeOld
import Derived.Below
import Derived.Deep.DeepHandedRow
namespace Go.Proofs.Ytokjbncjapndgaa.nodeSplits
open Go.ChangeShapes Go.WideShapes Go.ChangeAt Go.RowKit
open Go.ChangeMaps (open_string shut_string)
theorem own : ownKnob Try.prog.godebug = none := by kernel_rfl
theorem laidOut : laidOutB Try.prog = true := by kernel_rfl
set_option maxRecDepth 100000 in
theorem contract (H : Type) (enc : TypeId × Value → H) (W : World) (base : Nat) (args : Array Value) (ds gs : List (DataW H)) (before : List MemPlace)
    (hval : ∀ (j : Nat) t v, Try.f5.params[j]? = some t → args[j]? = some v → Value.okWide Try.prog W .any base t v)
    (hW : DataW.Whole enc Try.prog Try.f5.params.toList Rows.nodeSplitsSpec.vars false W args.toList ds gs before) (hk : Rows.uptoSmall H (ds ++ gs) = true) :
    Calls Try.prog 5 args W fun e W' => ∃ v, e = .returned v ∧ Rows.nodeSplitsSpec.post enc Try.prog Try.f5 false true false false W args v W' := by
  have hW' := hW
  obtain ⟨p, q, hA0, hV, rfl, hfz, hnd⟩ := hW
  have hA : DataW.TrodAll enc Try.prog W 0 (fun _ => true) true Try.f5.params.toList args.toList ds p := hA0
  rw [Try.params5] at hA hval
  obtain ⟨v0, vs0, d0, ds0, p0, q0, hargs, rfl, rfl, h0, r0⟩ := trodAll_cons hA
  obtain ⟨v1, vs1, d1, ds1, p1, q1, rfl, rfl, rfl, h1, r1⟩ := trodAll_cons r0
  obtain ⟨v2, vs2, d2, ds2, p2, q2, rfl, rfl, rfl, h2, r2⟩ := trodAll_cons r1
  obtain ⟨rfl, rfl, rfl⟩ := trodAll_nil r2
  obtain rfl : args = #[v0, v1, v2] := by cases args; simp_all
  obtain ⟨rfl, rfl⟩ := trodVars_none hV
  have hbd := XA.bound hk
  simp only [List.append_nil, Rows.uptoBulkAll] at hbd
  have k0 := h0
  have lt0 : ∀ x ∈ p0, x.block < W.heap.size := by obtain ⟨m, hm⟩ := k0; exact DataW.trod_lt m _ _ _ hm
  obtain ⟨cs0, rfl, hz0⟩ := okWide_struct Try.underlying26 (hval 0 26 v0 rfl rfl)
  obtain ⟨fu0, hf0⟩ := h0
  obtain ⟨x0, A0_1, c0_1, A0_2, c0_2, A0_3, c0_3, e0, hr0_1, hc0_1, hr0_2, hc0_2, hr0_3, hc0_3, hi0, hb0⟩ := XA.op26 hf0
  obtain rfl : cs0 = #[.bool x0.f0, .slice A0_1 x0.f1.length c0_1, .slice A0_2 x0.f2.length c0_2, .slice A0_3 x0.f3.length c0_3] := by cases cs0; simpa [Value.cells] using e0
  replace hb0 : _ ≤ Rows.uptoBulk d0 := hb0
  have k1 := h1
  have lt1 : ∀ x ∈ p1, x.block < W.heap.size := by obtain ⟨m, hm⟩ := k1; exact DataW.trod_lt m _ _ _ hm
  obtain ⟨cs1, rfl, hz1⟩ := okWide_struct Try.underlying26 (hval 1 26 v1 rfl rfl)
  obtain ⟨fu1, hf1⟩ := h1
  obtain ⟨x1, A1_1, c1_1, A1_2, c1_2, A1_3, c1_3, e1, hr1_1, hc1_1, hr1_2, hc1_2, hr1_3, hc1_3, hi1, hb1⟩ := XA.op26 hf1
  obtain rfl : cs1 = #[.bool x1.f0, .slice A1_1 x1.f1.length c1_1, .slice A1_2 x1.f2.length c1_2, .slice A1_3 x1.f3.length c1_3] := by cases cs1; simpa [Value.cells] using e1
  replace hb1 : _ ≤ Rows.uptoBulk d1 := hb1
  have k2 := h2
  have lt2 : ∀ x ∈ p2, x.block < W.heap.size := by obtain ⟨m, hm⟩ := k2; exact DataW.trod_lt m _ _ _ hm
  obtain ⟨a2, rfl, rfl, rfl, y2⟩ := open_string (show Try.prog.underlying 9 = some .string from by kernel_rfl) (hval 2 9 v2 rfl rfl) h2
  have hb2 := XA.lit_str (H := H) a2
  clear hA0 hval hk
  obtain ⟨k, hk⟩ := Pure.NodeSplits x0 x1 a2 hi0 hi1 (by omega)
  refine (PAll.factotumlaw09_NodeSplits.calls k x0.f0 A0_1 c0_1 x0.f1 A0_2 c0_2 x0.f2 A0_3 c0_3 x0.f3 x1.f0 A1_1 c1_1 x1.f1 A1_2 c1_2 x1.f2 A1_3 c1_3 x1.f3 a2 true W hr0_1 hc0_1 hr0_2 hc0_2 hr0_3 hc0_3 hr1_1 hc1_1 hr1_2 hc1_2 hr1_3 hc1_3 hk).mono fun e W' ⟨he, bel⟩ => ?_
  subst he
  exact ⟨_, rfl, _, _, _, [], _, [], hW', trodAll_mk1 (shut_bool Try.underlying4 _), (trodAll_cons_mk (Below.trod laidOut (by kernel_rfl) (of_decide_eq_true (by kernel_rfl)) k0 bel lt0) (trodAll_cons_mk (Below.trod laidOut (by kernel_rfl) (of_decide_eq_true (by kernel_rfl)) k1 bel lt1) (trodAll_cons_mk (Below.trod laidOut (by kernel_rfl) (of_decide_eq_true (by kernel_rfl)) k2 bel lt2) trodAll_mk0))), rfl, bel.frame _, fun h => by cases h⟩
theorem reads (os : Os) {H : Type} (enc : TypeId × Value → H) : ∃ places, DataW.whole enc Try.prog ((XL.laidWorld os).forCall (fun _ _ => 0) ⟨#[], #[.agg #[.bool false, .slice none 0 0, .slice none 0 0, .slice none 0 0], .agg #[.bool false, .slice none 0 0, .slice none 0 0, .slice none 0 0], .string ⟨#[]⟩], []⟩).memory Try.f5.params.toList Rows.nodeSplitsSpec.vars false #[(.agg #[.bool false, .slice none 0 0, .slice none 0 0, .slice none 0 0] : Value), (.agg #[.bool false, .slice none 0 0, .slice none 0 0, .slice none 0 0] : Value), (.string ⟨#[]⟩ : Value)].toList 8 = some ([.agg [.lit (.bool false), .nil, .nil, .nil], .agg [.lit (.bool false), .nil, .nil, .nil], .lit (.string [])], [], places) :=
  ⟨[], by kernel_rfl⟩
set_option maxRecDepth 100000 in
theorem lifted (os : Os) (started : os.Started) (H : Type) (enc : TypeId × Value → H) (F : Stop.Interp) :
    ReturnsInHanded {} Try.checked os 5 .any ((Rows.OpenSpec.upto Rows.nodeSplitsSpec).preRow enc Try.prog Try.f5 Rows.nodeSplitsUptoRow.domain false Rows.nodeSplitsUptoRow.laid) (((Rows.OpenSpec.upto Rows.nodeSplitsSpec).at F).post enc Try.prog Try.f5 false true false false) := by
  obtain ⟨places, hx⟩ := reads os enc
  refine returnsInHanded_of_row (C := Try.checked) (s := Rows.OpenSpec.upto Rows.nodeSplitsSpec) own started (by kernel_rfl) Try.func5
    (witness_row_at (enc := enc) (C := Try.checked) false (XL.laidWorld os) #[.agg #[.bool false, .slice none 0 0, .slice none 0 0, .slice none 0 0], .agg #[.bool false, .slice none 0 0, .slice none 0 0, .slice none 0 0], .string ⟨#[]⟩] rfl (by kernel_rfl) (by kernel_rfl) (by kernel_rfl)
      (OpenSpec.preRow_of_cond 8 hx (by kernel_rfl) (fun k hk => by cases hk; kernel_rfl) (by kernel_rfl) (XL.laid_met os _))) ?_
  intro W base args ds gs before hval hW _ hcond _ hL _ _
  exact contract H enc W base args ds gs before hval hW (hcond _ rfl)
theorem said : Rows.NodeSplitsUptoSaid :=
  OpenClaim.holds_of_cond 5 Try.f5 rfl rfl rfl rfl rfl rfl rfl ⟨rfl, rfl, rfl, rfl, rfl⟩ rfl rfl rfl rfl rfl (by kernel_rfl) Try.func5 (by kernel_rfl)
    (of_decide_eq_true (by kernel_rfl)) (by unfold Func.isWrapper; first | (rw [if_pos (by decide +kernel)]; kernel_rfl) | (rw [if_neg (by decide +kernel)]; exact ⟨rfl, rfl⟩))
    (fun os started H enc _ F => by rw [OpenClaim.pre_eq_preRow]; exact lifted os started H enc F)
end Go.Proofs.Ytokjbncjapndgaa.nodeSplits
namespace Go.Proofs.Ytokjbncjapndgaa
/-- The row, under a short name, for the claim. -/
theorem nodeSplits_holds : Rows.NodeSplitsUptoSaid := nodeSplits.said
end Go.Proofs.Ytokjbncjapndgaa
