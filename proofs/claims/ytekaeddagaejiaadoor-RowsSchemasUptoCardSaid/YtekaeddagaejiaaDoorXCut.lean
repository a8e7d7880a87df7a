/- Contracts of strings.Cut at the byte 0, and the laying of (*strings.Builder).WriteByte beside that of strings.ReplaceAll: over any program that holds the library's text. No conditions. -/
import Derived.Test.YtekaeddagaejiaaDoorXReplace
import Derived.Shelf.Strings.Cut
import Derived.Laws.BitsLemmas
namespace Go.Proofs.YtekaeddagaejiaaDoor.XLib
open Go.Shelf Go.RowKit Go.Lib Go.Proofs
variable {P : Program} {ρ : Ren}

/-- where the first 0 is -/
theorem cut0 (l : List UInt8) : (indexByte l 0 = -1 ∧ countByte l 0 = 0) ∨ ∃ i : Nat, indexByte l 0 = (i : Int) ∧ i < l.length ∧ countByte (l.take i) 0 = 0 ∧ l = l.take i ++ 0 :: l.drop (i + 1) := by
  induction l with
  | nil => left; simp [indexByte, countByte]
  | cons x r ih =>
    by_cases e : x = 0
    · subst e; right; exact ⟨0, by simp [indexByte], by simp, by simp [countByte], by simp⟩
    · have hb : (x == 0) = false := beq_eq_false_iff_ne.2 e
      rcases ih with ⟨h1, h2⟩ | ⟨i, h1, h2, h3, h4⟩
      · left; exact ⟨by simp [indexByte, hb, h1], by simpa [countByte, List.count_cons, hb] using h2⟩
      · right
        refine ⟨i + 1, by simp [indexByte, hb, h1], by simp; omega, by simpa [countByte, List.count_cons, hb] using h3, ?_⟩
        simp only [List.take_succ_cons, List.drop_succ_cons, List.cons_append]
        exact congrArg (x :: ·) h4

set_option maxHeartbeats 2000000 in
set_option maxRecDepth 100000 in
theorem cutIn_none (L : Lays.n220 P ρ) (s : ByteArray) (w : World) (hix : indexByte s.data.toList 0 = -1) :
    Calls P (ρ.f 220) #[.string s, .string ⟨#[0]⟩] w fun e w' => e = .returned (.tuple #[.string s, .string ⟨#[]⟩, .bool false]) ∧ w' = w := by
  have t3 := L.t3; have t4 := L.t4; have t9 := L.t9
  have a3 : ∀ w, (isAgg (ρ.t 3)).run P w = .ok false w := run_isAgg_plain L.t3 rfl; have a4 : ∀ w, (isAgg (ρ.t 4)).run P w = .ok false w := run_isAgg_plain L.t4 rfl; have a9 : ∀ w, (isAgg (ρ.t 9)).run P w = .ok false w := run_isAgg_plain L.t9 rfl
  have e219 : ∀ args w, (callFunc (ρ.f 219) args).run P w = .ok (.enter (ρ.f 219) args) w := enters_of L.f219 (by kernel_rfl) rfl
  have mixed := L.mixed; have z3 := L.z3; have v3 := L.v3; have z4 := L.z4; have v4 := L.v4; have z9 := L.z9; have v9 := L.v9
  go_enter L.f220, Body.n220_ntmps ρ
  go_wp2_with (go_at_fn (ρ.f 219); refine (Any.stringslite_Index_one { L with } _ 0 _).mono ?_; rintro e w' ⟨rfl, rfl⟩; rw [hix])
  go_ret3
  exact ⟨rfl, rfl⟩

set_option maxHeartbeats 2000000 in
set_option maxRecDepth 100000 in
theorem cutIn_some (L : Lays.n220 P ρ) (s : ByteArray) (w : World) (i : Nat) (hix : indexByte s.data.toList 0 = (i : Int)) (hroom : i + 1 ≤ s.size) (hs : s.size ≤ 9223372036854775807) :
    Calls P (ρ.f 220) #[.string s, .string ⟨#[0]⟩] w fun e w' => e = .returned (.tuple #[.string (s.extract 0 i), .string (s.extract (i + 1) s.size), .bool true]) ∧ w' = w.drew := by
  have c1 : (0 : Int) ≤ ↑i := by omega
  have c2 : (↑i : Int) ≤ ↑s.size := by omega
  have c3 : (0 : Int) ≤ ↑i + 1 := by omega
  have c4 : (↑i + 1 : Int) ≤ ↑s.size := by omega
  have c5 : wrap64 (↑i + 1 : Int) = ↑i + 1 := by unfold wrap64; omega
  have c6 : IntKind.i64.wrap (↑i + 1 : Int) = ↑i + 1 := by rw [IntKind.wrap_i64]; omega
  have t3 := L.t3; have t4 := L.t4; have t9 := L.t9
  have a3 : ∀ w, (isAgg (ρ.t 3)).run P w = .ok false w := run_isAgg_plain L.t3 rfl; have a4 : ∀ w, (isAgg (ρ.t 4)).run P w = .ok false w := run_isAgg_plain L.t4 rfl; have a9 : ∀ w, (isAgg (ρ.t 9)).run P w = .ok false w := run_isAgg_plain L.t9 rfl
  have e219 : ∀ args w, (callFunc (ρ.f 219) args).run P w = .ok (.enter (ρ.f 219) args) w := enters_of L.f219 (by kernel_rfl) rfl
  have mixed := L.mixed; have z3 := L.z3; have v3 := L.v3; have z4 := L.z4; have v4 := L.v4; have z9 := L.z9; have v9 := L.v9
  go_enter L.f220, Body.n220_ntmps ρ
  go_wp2_with (go_at_fn (ρ.f 219); refine (Any.stringslite_Index_one { L with } _ 0 _).mono ?_; rintro e w' ⟨rfl, rfl⟩; rw [hix])
  go_region_o
  go_wp2
  go_ret3
  exact ⟨rfl, rfl⟩

set_option maxHeartbeats 1000000 in
theorem cut_none (L : Lays.n145 P ρ) (s : ByteArray) (w : World) (hix : indexByte s.data.toList 0 = -1) :
    Calls P (ρ.f 145) #[.string s, .string ⟨#[0]⟩] w fun e w' => e = .returned (.tuple #[.string s, .string ⟨#[]⟩, .bool false]) ∧ w' = w := by
  have t4 := L.t4; have t9 := L.t9; have t59 := L.t59
  have a4 : ∀ w, (isAgg (ρ.t 4)).run P w = .ok false w := run_isAgg_plain L.t4 rfl; have a9 : ∀ w, (isAgg (ρ.t 9)).run P w = .ok false w := run_isAgg_plain L.t9 rfl; have a59 : ∀ w, (isAgg (ρ.t 59)).run P w = .ok false w := run_isAgg_plain L.t59 rfl
  have e220 : ∀ args w, (callFunc (ρ.f 220) args).run P w = .ok (.enter (ρ.f 220) args) w := enters_of L.f220 (by kernel_rfl) rfl
  have mixed := L.mixed; have z4 := L.z4; have v4 := L.v4; have z9 := L.z9; have v9 := L.v9; have z59 := L.z59; have v59 := L.v59
  go_enter L.f145, Body.n145_ntmps ρ
  go_wp2_with (go_at_fn (ρ.f 220); refine (cutIn_none { L with } _ _ hix).mono ?_; rintro e w' ⟨rfl, rfl⟩)
  go_ret3
  exact ⟨rfl, rfl⟩

set_option maxHeartbeats 1000000 in
theorem cut_some (L : Lays.n145 P ρ) (s : ByteArray) (w : World) (i : Nat) (hix : indexByte s.data.toList 0 = (i : Int)) (hroom : i + 1 ≤ s.size) (hs : s.size ≤ 9223372036854775807) :
    Calls P (ρ.f 145) #[.string s, .string ⟨#[0]⟩] w fun e w' => e = .returned (.tuple #[.string (s.extract 0 i), .string (s.extract (i + 1) s.size), .bool true]) ∧ w' = w.drew := by
  have t4 := L.t4; have t9 := L.t9; have t59 := L.t59
  have a4 : ∀ w, (isAgg (ρ.t 4)).run P w = .ok false w := run_isAgg_plain L.t4 rfl; have a9 : ∀ w, (isAgg (ρ.t 9)).run P w = .ok false w := run_isAgg_plain L.t9 rfl; have a59 : ∀ w, (isAgg (ρ.t 59)).run P w = .ok false w := run_isAgg_plain L.t59 rfl
  have e220 : ∀ args w, (callFunc (ρ.f 220) args).run P w = .ok (.enter (ρ.f 220) args) w := enters_of L.f220 (by kernel_rfl) rfl
  have mixed := L.mixed; have z4 := L.z4; have v4 := L.v4; have z9 := L.z9; have v9 := L.v9; have z59 := L.z59; have v59 := L.v59
  go_enter L.f145, Body.n145_ntmps ρ
  go_wp2_with (go_at_fn (ρ.f 220); refine (cutIn_some { L with } _ _ i hix hroom hs).mono ?_; rintro e w' ⟨rfl, rfl⟩)
  go_ret3
  exact ⟨rfl, rfl⟩

/-- WriteByte's own laying, out of that of ReplaceAll -/
theorem lays167 (L : Lays.n155 P ρ) (k : Nat) (hf : P.funcs[k]? = some (Body.n167 ρ)) : Lays.n167 P ⟨fun n => if n = 167 then k else ρ.f n, ρ.t, ρ.g⟩ :=
  { mixed := L.mixed, f167 := hf, f240 := L.f240, f276 := L.f276, t0 := L.t0, a0 := L.a0, z0 := L.z0, v0 := L.v0, t4 := L.t4, a4 := L.a4, z4 := L.z4, v4 := L.v4, t5 := L.t5, a5 := L.a5, z5 := L.z5, v5 := L.v5, t9 := L.t9, a9 := L.a9, z9 := L.z9, v9 := L.v9, t20 := L.t20, a20 := L.a20, z20 := L.z20, v20 := L.v20, t37 := L.t37, a37 := L.a37, z37 := L.z37, v37 := L.v37, t70 := L.t70, a70 := L.a70, z70 := L.z70, v70 := L.v70, t72 := L.t72, a72 := L.a72, z72 := L.z72, v72 := L.v72, t75 := L.t75, a75 := L.a75, z75 := L.z75, v75 := L.v75, t164 := L.t164, a164 := L.a164, z164 := L.z164, v164 := L.v164 }
theorem extra167 (X : Builder.Extra P ρ) (k : Nat) : Builder.Extra P ⟨fun n => if n = 167 then k else ρ.f n, ρ.t, ρ.g⟩ :=
  { sizeBuilder := X.sizeBuilder, liesBuilder := X.liesBuilder, t5 := X.t5, a5 := X.a5, z5 := X.z5, v5 := X.v5, infoByte := X.infoByte, cellsByte := X.cellsByte, sizeByte := X.sizeByte, neB5 := X.neB5 }
end Go.Proofs.YtekaeddagaejiaaDoor.XLib
