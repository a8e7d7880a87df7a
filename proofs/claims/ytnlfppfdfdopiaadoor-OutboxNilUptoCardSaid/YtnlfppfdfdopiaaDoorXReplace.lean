/- Contracts of strings.Replace and strings.ReplaceAll where each byte 0 is written as 0, 255: over any program that holds the library's text. Condition: what comes out has at most 2^47 bytes. -/
import Derived.Shelf.Strings.Builder1
import Derived.Shelf.Strings.Builder2
import Derived.Shelf.Strings.Count
import Derived.Shelf.Strings.Search3
import Derived.Lib.SlicesS
import Derived.Lib.IndexLaws
import Derived.Deep.LoopGhost
namespace Go.Proofs.YtnlfppfdfdopiaaDoor.XLib
open Go.Shelf Go.RowKit Go.Lib Go.Proofs
variable {P : Program} {ρ : Ren}

/-- a text with each 0 written as 0, 255 -/
def esc : List UInt8 → List UInt8
  | [] => []
  | x :: r => if x = 0 then 0 :: 255 :: esc r else x :: esc r

theorem esc_app (a b : List UInt8) : esc (a ++ b) = esc a ++ esc b := by
  induction a with
  | nil => rfl
  | cons x r ih => simp only [List.cons_append, esc]; split <;> simp [ih]

theorem esc_none : ∀ l : List UInt8, countByte l 0 = 0 → esc l = l := by
  intro l
  induction l with
  | nil => intro _; rfl
  | cons x r ih =>
    intro h
    simp only [countByte, List.count_cons] at h ih
    by_cases e : x = 0
    · subst e; simp at h
    · simp only [esc, if_neg e]
      rw [ih (by omega)]

theorem esc_length (l : List UInt8) : (esc l).length = l.length + countByte l 0 := by
  induction l with
  | nil => rfl
  | cons x r ih =>
    simp only [countByte, List.count_cons] at ih ⊢
    by_cases e : x = 0
    · subst e; simp [esc]; omega
    · simp only [esc, if_neg e, List.length_cons]
      have : (x == 0) = false := beq_eq_false_iff_ne.2 e
      simp [this]; omega

/-- the next 0: what is ahead of it, and behind -/
theorem next0 (l : List UInt8) (h : 0 < countByte l 0) : ∃ j : Nat, indexByte l 0 = (j : Int) ∧ j < l.length ∧ esc (l.take j) = l.take j ∧
    esc l = l.take j ++ 0 :: 255 :: esc (l.drop (j + 1)) ∧ countByte l 0 = countByte (l.drop (j + 1)) 0 + 1 := by
  induction l with
  | nil => simp [countByte] at h
  | cons x r ih =>
    by_cases e : x = 0
    · subst e
      exact ⟨0, by simp [indexByte], by simp, rfl, by simp [esc], by simp [countByte]⟩
    · have hb : (x == 0) = false := beq_eq_false_iff_ne.2 e
      have hc : countByte (x :: r) 0 = countByte r 0 := by simp [countByte, List.count_cons, hb]
      obtain ⟨j, h1, h2, h3, h4, h5⟩ := ih (by omega)
      refine ⟨j + 1, ?_, by simp; omega, ?_, ?_, ?_⟩
      · simp [indexByte, hb, h1]
      · simp [esc, e, h3]
      · simp only [esc, if_neg e, List.take_succ_cons, List.drop_succ_cons, List.cons_append, h4]
      · simp only [List.drop_succ_cons]; omega

theorem hid {p : Prop} (h : p) : Hid p := h

set_option maxHeartbeats 16000000 in
set_option maxRecDepth 1000000 in
theorem replace_some (L : Lays.n154 P ρ) (X : Builder.Extra P ρ) (s : ByteArray) (w : World)
    (hc0 : 0 < countByte s.data.toList 0) (hlen : s.size + countByte s.data.toList 0 * 2 ≤ 140737488355328) :
    Calls P (ρ.f 154) #[.string s, .string ⟨#[0]⟩, .string ⟨#[0, 255]⟩, .int .i64 (-1)] w fun e w' =>
      e = .returned (.string ⟨(esc s.data.toList).toArray⟩) ∧ Below w.heap.size w w' := by
  have hC := Any.strings_Count_one { L with } s 0 w
  obtain ⟨K, hK⟩ : ∃ K : Nat, countByte s.data.toList 0 = K := ⟨_, rfl⟩
  rw [hK] at hC hc0 hlen
  have hlenL : s.data.toList.length = s.size := (Lib.size_eq s).symm
  have hcz : ((K : Int) == 0) = false := beq_eq_false_iff_ne.2 (by omega)
  have hga : wrap64 ((s.size : Int) + (K : Int)) = ((s.size + K : Nat) : Int) := by unfold wrap64; omega
  have HK := hid hK
  clear hK
  have mixed := L.mixed
  have t72 := L.t72; have a72 := L.a72; have z72 := L.z72; have v72 := L.v72; have u72 := run_underlying L.t72
  have t70 := L.t70; have a70 := L.a70; have z70 := L.z70; have v70 := L.v70; have u70 := run_underlying L.t70
  have t37 := L.t37; have a37 := L.a37; have z37 := L.z37; have v37 := L.v37; have u37 := run_underlying L.t37
  have t3 := L.t3; have a3 := L.a3; have z3 := L.z3; have v3 := L.v3; have u3 := run_underlying L.t3
  have t9 := L.t9; have a9 := L.a9; have z9 := L.z9; have v9 := L.v9; have u9 := run_underlying L.t9
  have t4 := L.t4; have a4 := L.a4; have z4 := L.z4; have v4 := L.v4; have u4 := run_underlying L.t4
  have e138 : ∀ args w, (callFunc (ρ.f 138) args).run P w = .ok (.enter (ρ.f 138) args) w := enters_of L.f138 (by kernel_rfl) rfl
  have e143 : ∀ args w, (callFunc (ρ.f 143) args).run P w = .ok (.enter (ρ.f 143) args) w := enters_of L.f143 (by kernel_rfl) rfl
  have e165 : ∀ args w, (callFunc (ρ.f 165) args).run P w = .ok (.enter (ρ.f 165) args) w := enters_of L.f165 (by kernel_rfl) rfl
  have e166 : ∀ args w, (callFunc (ρ.f 166) args).run P w = .ok (.enter (ρ.f 166) args) w := enters_of L.f166 (by kernel_rfl) rfl
  have e169 : ∀ args w, (callFunc (ρ.f 169) args).run P w = .ok (.enter (ρ.f 169) args) w := enters_of L.f169 (by kernel_rfl) rfl
  go_enter L.f154, Body.n154_ntmps ρ
  go_wp2_with (first | (go_at_fn (ρ.f 138); refine hC.mono ?_; rintro e w' ⟨rfl, hw⟩; rw [hw]))
  try rw [hga]
  refine (Any.Builder_Grow_fresh { L with } X w.heap.size w.heap.size _ _ (Nat.le_refl _) (heap_alloc_new w _) (by simp) (by omega)).mono ?_
  rintro e w1 ⟨rfl, hb0, hb1⟩
  have H1 := hid (Or.inr hb0 : Lib.IsBuilder (ρ.t 72) (ρ.t 5) w.heap.size w.heap.size (Lib.byteCells []) w1)
  have Hb1 := hid (((Below.refl w.heap.size w).alloc (Nat.le_refl _) _).trans hb1)
  clear hb0 hb1 hga
  go_wp2_with fail
  go_loopg [11, 53] K (fun g s11 s53 wx => ∃ (i start : Nat) (acc : List UInt8), s53 = .int .i64 i ∧ s11 = .int .i64 start ∧ i + g = K ∧ start ≤ s.size ∧
    Hid (Lib.IsBuilder (ρ.t 72) (ρ.t 5) w.heap.size w.heap.size (Lib.byteCells acc) wx) ∧ Hid (Below w.heap.size w wx) ∧ Hid (acc ++ esc (s.data.toList.drop start) = esc s.data.toList) ∧
    countByte (s.data.toList.drop start) 0 = g ∧ acc.length + (s.size - start) + g ≤ s.size + K)
  case atStart => exact ⟨0, 0, [], rfl, rfl, by omega, Nat.zero_le _, H1, Hb1, hid (by simp), by rw [List.drop_zero]; exact HK.out, by simp⟩
  case round =>
    obtain ⟨i, start, acc, rfl, rfl, hig, hst, HB, HW, HR, hgc, hbd⟩ := hrel
    have hBw : w.heap.size ≤ wr.heap.size := HW.out.size
    have c1 : (0 : Int) ≤ (start : Int) := by omega
    have c2 : (start : Int) ≤ (s.size : Int) := by omega
    cases gk with
    | zero =>
      have hiK : ¬ ((i : Int) < (K : Int)) := by omega
      go_wp2_with fail
      refine (Any.Builder_WriteString { L with } X w.heap.size w.heap.size _ _ wr HB.out (by rw [Lib.byteCells_length, ByteArray.size_extract]; omega) hBw).mono ?_
      rintro e w3 ⟨rfl, h3, hb3⟩
      rw [Lib.strCells_eq, Lib.extract_to_end, ← Lib.byteCells_append] at h3
      have hfin : acc ++ s.data.toList.drop start = esc s.data.toList := by rw [← HR.out, esc_none _ hgc]
      rw [hfin] at h3
      have H3 := hid (Or.inr h3 : Lib.IsBuilder (ρ.t 72) (ρ.t 5) w.heap.size w.heap.size _ w3)
      have Hb3 := hid (HW.out.trans hb3)
      have hBw3 : w.heap.size ≤ w3.heap.size := Hb3.out.size
      clear h3 hb3 hfin
      go_wp2_with fail
      refine (Any.Builder_String_any { L with } X w.heap.size w.heap.size _ w3 H3.out hBw3).mono ?_
      rintro e w5 ⟨rfl, hb5⟩
      have Hb5 := hid (Hb3.out.trans hb5)
      clear hb5
      go_wp2
      go_ret
      exact ⟨rfl, Hb5.out⟩
    | succ g =>
      have hiK : (i : Int) < (K : Int) := by omega
      obtain ⟨j, hj, hjl, hj3, hj4, hj5⟩ := next0 (s.data.toList.drop start) (by omega)
      have hjs : start + j < s.size := by rw [List.length_drop, hlenL] at hjl; omega
      have c3 : (start : Int) ≤ (start : Int) + (j : Int) := by omega
      have c4 : (start : Int) + (j : Int) ≤ (s.size : Int) := by omega
      have hnext : Lib.byteCells acc ++ Lib.strCells (s.extract start (start + j)) ++ Lib.strCells ⟨#[0, 255]⟩ = Lib.byteCells (acc ++ (s.data.toList.drop start).take j ++ [0, 255]) := by
        rw [Lib.strCells_eq, Lib.strCells_eq, Lib.extract_data, Nat.add_sub_cancel_left, ← Lib.byteCells_append, ← Lib.byteCells_append]
      have hrep : (acc ++ (s.data.toList.drop start).take j ++ [0, 255]) ++ esc (s.data.toList.drop (start + j + 1)) = esc s.data.toList := by
        rw [← HR.out, hj4, List.drop_drop]
        simp only [List.append_assoc, Nat.add_assoc, List.cons_append, List.nil_append]
      have hcnt : countByte (s.data.toList.drop (start + j + 1)) 0 = g := by
        rw [List.drop_drop] at hj5
        rw [show start + j + 1 = start + (j + 1) by omega]
        omega
      have htl : ((s.data.toList.drop start).take j).length = j := by rw [List.length_take, List.length_drop, hlenL]; omega
      have Hn := hid hnext
      have Hrep := hid hrep
      have Hcnt := hid hcnt
      clear hnext hrep HR hcnt hj3 hj4 hj5 hgc
      go_wp2_with (first | (go_at_fn (ρ.f 143); refine (Any.strings_Index_one { L with } _ 0 _).mono ?_; rintro e w' ⟨rfl, hw⟩; rw [hw, Lib.extract_to_end, hj]))
      refine (Any.Builder_WriteString { L with } X w.heap.size w.heap.size _ (s.extract start (start + j)) wr HB.out (by rw [Lib.byteCells_length, ByteArray.size_extract]; omega) hBw).mono ?_
      rintro e w3 ⟨rfl, h3, hb3⟩
      have hBw3 : w.heap.size ≤ w3.heap.size := Nat.le_trans hBw hb3.size
      have H3 := hid h3
      have Hb3 := hid hb3
      clear h3 hb3
      go_wp2_with fail
      refine (Any.Builder_WriteString { L with } X w.heap.size w.heap.size _ ⟨#[0, 255]⟩ w3 (Or.inr H3.out) (by rw [List.length_append, Lib.byteCells_length, Lib.strCells_length, ByteArray.size_extract]; show _ + 2 ≤ _; omega) hBw3).mono ?_
      rintro e w4 ⟨rfl, h4, hb4⟩
      rw [Hn.out] at h4
      have H4 := hid (Or.inr h4 : Lib.IsBuilder (ρ.t 72) (ρ.t 5) w.heap.size w.heap.size _ w4)
      have Hb4 := hid ((HW.out.trans Hb3.out).trans hb4)
      clear h4 hb4
      go_wp2
      go_roundg g
      case measure => omega
      case rel => exact ⟨i + 1, start + j + 1, _, by first | rfl | (simp; unfold wrap64; omega), by first | rfl | simp | (simp; unfold wrap64; omega), by omega, by omega, H4, Hb4, Hrep, Hcnt.out, by simp only [List.length_append, htl, List.length_cons, List.length_nil]; omega⟩

set_option maxHeartbeats 4000000 in
set_option maxRecDepth 1000000 in
theorem replace_absent (L : Lays.n154 P ρ) (s : ByteArray) (w : World) (hc0 : countByte s.data.toList 0 = 0) :
    Calls P (ρ.f 154) #[.string s, .string ⟨#[0]⟩, .string ⟨#[0, 255]⟩, .int .i64 (-1)] w fun e w' => e = .returned (.string s) ∧ w' = w := by
  have hC := Any.strings_Count_one { L with } s 0 w
  rw [hc0] at hC
  have t3 := L.t3; have a3 := L.a3; have z3 := L.z3; have v3 := L.v3
  have t9 := L.t9; have a9 := L.a9; have z9 := L.z9; have v9 := L.v9
  have t4 := L.t4; have a4 := L.a4; have z4 := L.z4; have v4 := L.v4
  have e138 : ∀ args w, (callFunc (ρ.f 138) args).run P w = .ok (.enter (ρ.f 138) args) w := enters_of L.f138 (by kernel_rfl) rfl
  go_enter L.f154, Body.n154_ntmps ρ
  go_wp2_with (first | (go_at_fn (ρ.f 138); refine hC.mono ?_; rintro e w' ⟨rfl, hw⟩; rw [hw]))
  go_ret
  exact ⟨rfl, rfl⟩

/-- strings.ReplaceAll(s, 0, 0 255) -/
theorem replaceAll (L : Lays.n155 P ρ) (X : Builder.Extra P ρ) (s : ByteArray) (w : World) (hlen : s.size + countByte s.data.toList 0 * 2 ≤ 140737488355328) :
    Calls P (ρ.f 155) #[.string s, .string ⟨#[0]⟩, .string ⟨#[0, 255]⟩] w fun e w' => e = .returned (.string ⟨(esc s.data.toList).toArray⟩) ∧ Below w.heap.size w w' := by
  have c : Calls P (ρ.f 154) #[.string s, .string ⟨#[0]⟩, .string ⟨#[0, 255]⟩, .int .i64 (-1)] w fun e w' => e = .returned (.string ⟨(esc s.data.toList).toArray⟩) ∧ Below w.heap.size w w' := by
    by_cases h : countByte s.data.toList 0 = 0
    · refine (replace_absent { L with } s w h).mono fun e w' ⟨h1, h2⟩ => ⟨?_, h2 ▸ Below.refl _ _⟩
      rw [h1, esc_none _ h, Lib.mk_data]
    · exact replace_some { L with } X s w (by omega) hlen
  have t3 := L.t3; have a3 := L.a3; have z3 := L.z3; have v3 := L.v3
  have t9 := L.t9; have a9 := L.a9; have z9 := L.z9; have v9 := L.v9
  have e154 : ∀ args w, (callFunc (ρ.f 154) args).run P w = .ok (.enter (ρ.f 154) args) w := enters_of L.f154 (by kernel_rfl) rfl
  go_enter L.f155, Body.n155_ntmps ρ
  go_wp2_with (go_at_fn (ρ.f 154); refine c.mono ?_; rintro e w' ⟨rfl, hw⟩)
  go_ret
  exact ⟨rfl, hw⟩
end Go.Proofs.YtnlfppfdfdopiaaDoor.XLib
