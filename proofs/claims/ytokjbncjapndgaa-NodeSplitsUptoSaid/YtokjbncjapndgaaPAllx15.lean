/- Printed walks of the functions that the laws reach: each function, what it computes, and that it does. No conditions. -/
import Derived.Test.YtokjbncjapndgaaPAllx0
namespace Go.Proofs.Ytokjbncjapndgaa.PAll
open Go.RowKit Go.Proofs.Ytokjbncjapndgaa.XW Go.Proofs.Ytokjbncjapndgaa.XLib Go.Proofs.YtokjbncjapndgaaW.PrintWords Go.Proofs.YtokjbncjapndgaaW.PrintLast Go.Proofs.YtokjbncjapndgaaW.PrintMore
attribute [local go_sem] max2_int min2_int max_two min_two max_three min_three max_four min_four   -- for this text's walks alone
set_option linter.unusedVariables false
set_option linter.unusedSimpArgs false

/-! ### slices_Clone_string_string: function 34 -/
def slices_Clone_string_string.f (l0:List ByteArray):Option (List ByteArray):=if l0.length < 8796093022208 then some l0 else none
set_option maxHeartbeats 4000000 in
set_option maxRecDepth 100000 in
theorem slices_Clone_string_string.calls (A0:Option Addr) (c0:Nat) (l0:List ByteArray) (r:List ByteArray) (w:World) (hr0:Kd.C Kd.string w A0 l0.length l0) (hc0:l0.length≤c0) (h:slices_Clone_string_string.f l0=some r) :
  Calls Try.prog 34 #[.slice A0 l0.length c0] w fun e w'=>∃ v0_:Value,e=.returned (v0_)∧Kd.R Kd.string 9 w' w.heap.size (fun _=>True) v0_ r∧Below w.heap.size w w':=by
 unfold slices_Clone_string_string.f at h
 split at h
 case isFalse=>cases h
 rename_i hl
 obtain rfl:=Option.some.inj h
 have hu:=Try.underlying23
 have q_:∀ (w:World) (a:Option Addr) (n c n' c':Nat),(binOp .eql 23 (.slice a n c) (.slice none n' c')).run Try.prog w=.ok (.bool a.isNone) w:=fun w a n c n' c'=>Lib.run_eql_slice_nil w _ _ a n c n' c' hu
 cases A0 with
 | none =>
  obtain rfl:l0=[]:=by
   rcases l0 with _|⟨x,l⟩
   ·rfl
   ·obtain ⟨ad,h,_⟩:=hr0.2.2 (Nat.succ_pos _)
    cases h
  clear hr0
  go_enter Try.func34,Try.ntmps34
  go_wp2
  go_ret
  exact ⟨_,rfl,Kd.R_nil _ _ _ _ _,Below.refl _ _⟩
 | some a =>
  have HR:=Aside0.mk hr0
  have HL:=Aside0.mk hl
  clear hr0 hl
  go_enter Try.func34,Try.ntmps34
  go_wp2_with (at_builtin;refine Kd.R_append_rows Kd.string (w0:=w) w.heap.size rfl _ _ 23 9 (.string ⟨#[]⟩) 16 rfl Try.underlying23 info9 rfl (by decide) (by omega) _ [] l0 _ _ _ (fun _=>True) (fun _=>False) rfl rfl ?aO ?aR (fun _ _ h=>h) (fun _ h=>h.elim) (fun _ _=>trivial) ?aB ?aS ?aL ?_;(case aR=>exact Kd.C_alloc HR.out _);(case aO=>exact ⟨fun _ _=>trivial,[],World.ownsRow_made w #[] 0 (Nat.le_refl _) (Nat.zero_le _) rfl,Reps.none _ _⟩);(case aB=>exact below_alloc (Below.refl _ _) _);(case aS=>rw [World.size_alloc];exact Nat.le_succ _);(case aL=>have:=HL.out;simp only [List.length_nil];omega);intro v1 w1 ho hb hg hat)
  rw [List.nil_append] at ho
  go_wp2
  go_ret
  exact ⟨_,rfl,ho,hb⟩

/-! ### slices_Clone_int_int: function 35 -/
def slices_Clone_int_int.f (l0:List Int):Option (List Int):=if l0.length < 17592186044416 then some l0 else none
set_option maxHeartbeats 4000000 in
set_option maxRecDepth 100000 in
theorem slices_Clone_int_int.calls (A0:Option Addr) (c0:Nat) (l0:List Int) (r:List Int) (w:World) (hr0:Kd.C (Kd.int .i64) w A0 l0.length l0) (hc0:l0.length≤c0) (h:slices_Clone_int_int.f l0=some r) :
  Calls Try.prog 35 #[.slice A0 l0.length c0] w fun e w'=>∃ v0_:Value,e=.returned (v0_)∧Kd.R (Kd.int .i64) 3 w' w.heap.size (fun _=>True) v0_ r∧Below w.heap.size w w':=by
 unfold slices_Clone_int_int.f at h
 split at h
 case isFalse=>cases h
 rename_i hl
 obtain rfl:=Option.some.inj h
 have hu:=Try.underlying24
 have q_:∀ (w:World) (a:Option Addr) (n c n' c':Nat),(binOp .eql 24 (.slice a n c) (.slice none n' c')).run Try.prog w=.ok (.bool a.isNone) w:=fun w a n c n' c'=>Lib.run_eql_slice_nil w _ _ a n c n' c' hu
 cases A0 with
 | none =>
  obtain rfl:l0=[]:=by
   rcases l0 with _|⟨x,l⟩
   ·rfl
   ·obtain ⟨ad,h,_⟩:=hr0.2.2 (Nat.succ_pos _)
    cases h
  clear hr0
  go_enter Try.func35,Try.ntmps35
  go_wp2
  go_ret
  exact ⟨_,rfl,Kd.R_nil _ _ _ _ _,Below.refl _ _⟩
 | some a =>
  have HR:=Aside0.mk hr0
  have HL:=Aside0.mk hl
  clear hr0 hl
  go_enter Try.func35,Try.ntmps35
  go_wp2_with (at_builtin;refine Kd.R_append_rows (Kd.int .i64) (w0:=w) w.heap.size rfl _ _ 24 3 (.int .i64 0) 8 rfl Try.underlying24 info3 rfl (by decide) (by omega) _ [] l0 _ _ _ (fun _=>True) (fun _=>False) rfl rfl ?aO ?aR (fun _ _ h=>h) (fun _ h=>h.elim) (fun _ _=>trivial) ?aB ?aS ?aL ?_;(case aR=>exact Kd.C_alloc HR.out _);(case aO=>exact ⟨fun _ _=>trivial,[],World.ownsRow_made w #[] 0 (Nat.le_refl _) (Nat.zero_le _) rfl,Reps.none _ _⟩);(case aB=>exact below_alloc (Below.refl _ _) _);(case aS=>rw [World.size_alloc];exact Nat.le_succ _);(case aL=>have:=HL.out;simp only [List.length_nil];omega);intro v1 w1 ho hb hg hat)
  rw [List.nil_append] at ho
  go_wp2
  go_ret
  exact ⟨_,rfl,ho,hb⟩

end Go.Proofs.Ytokjbncjapndgaa.PAll
