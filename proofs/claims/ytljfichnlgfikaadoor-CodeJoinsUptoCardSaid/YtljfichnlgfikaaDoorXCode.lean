/- Programs as bytes: how the program and the document's answer read and write them. Plain laws over the printed functions. No conditions. -/
import Derived.Test.YtljfichnlgfikaaDoorXInst
namespace Go.Proofs.YtljfichnlgfikaaDoor.XC
open Go.RowKit Go.Proofs.YtljfichnlgfikaaDoor.XW Go.Proofs.YtljfichnlgfikaaDoor.XLib Go.Proofs.YtljfichnlgfikaaDoor.PAll Go.Proofs.YtljfichnlgfikaaDoorW.PrintWords Go.Proofs.YtljfichnlgfikaaDoorW.PrintLast Go.Proofs.YtljfichnlgfikaaDoor.XP Go.Proofs.YtljfichnlgfikaaDoor.XV Go.Proofs.YtljfichnlgfikaaDoor.XI
theorem kind_in (l : List UInt8) (e : Int) : wrap64 (numE l e 1).1 = (numE l e 1).1 := by
  have := numE_bd l e 1 (by omega)
  rw [show ((256 ^ 1 : Nat) : Int) = 256 from rfl] at this
  unfold wrap64; omega
/-! ## an instruction, read -/
def zV : Vl := ⟨0, 0, ⟨#[]⟩⟩
def rdE (b : Bool) (l : List UInt8) (e : Int) : Int × List UInt8 × Int := if b = true then numE l e 1 else (0, l, e)
def rd1 (n : Int) (l : List UInt8) (e : Int) := rdE (decide (0 < n)) l e
def rd2 (n : Int) (l : List UInt8) (e : Int) := rdE (decide (1 < n)) (rd1 n l e).2.1 (rd1 n l e).2.2
def rd3 (n : Int) (l : List UInt8) (e : Int) := rdE (decide (2 < n)) (rd2 n l e).2.1 (rd2 n l e).2.2
def valE (l : List UInt8) (e : Int) : Vl × List UInt8 × Int × Bool :=
  if (numE l e 1).2.2 = 0 then
    if (numE l e 1).1 = 1 then (⟨1, wrap64 (numE (numE l e 1).2.1 0 8).1, ⟨#[]⟩⟩, (numE (numE l e 1).2.1 0 8).2.1, (numE (numE l e 1).2.1 0 8).2.2, false)
    else if (numE l e 1).1 = 2 then (⟨2, 0, B (strE (numE l e 1).2.1 0 10).1⟩, (strE (numE l e 1).2.1 0 10).2.1, (strE (numE l e 1).2.1 0 10).2.2, false)
    else (zV, (numE l e 1).2.1, 0, true)
  else (zV, (numE l e 1).2.1, (numE l e 1).2.2, false)
def bodyE (op : Int) (l : List UInt8) (e : Int) : In × List UInt8 × Int × Bool :=
  if op = 1 then (⟨op, (rd1 (opN op) l e).1, (rd2 (opN op) l e).1, (rd3 (opN op) l e).1, (valE (rd3 (opN op) l e).2.1 (rd3 (opN op) l e).2.2).1⟩, (valE (rd3 (opN op) l e).2.1 (rd3 (opN op) l e).2.2).2.1, (valE (rd3 (opN op) l e).2.1 (rd3 (opN op) l e).2.2).2.2.1, (valE (rd3 (opN op) l e).2.1 (rd3 (opN op) l e).2.2).2.2.2)
  else (⟨op, (rd1 (opN op) l e).1, (rd2 (opN op) l e).1, (rd3 (opN op) l e).1, zV⟩, (rd3 (opN op) l e).2.1, (rd3 (opN op) l e).2.2, !opOK op)
/-- the next instruction: it, what is behind it, the error, and whether it may not be -/
def instE (l : List UInt8) (e : Int) : In × List UInt8 × Int × Bool := bodyE (numE l e 1).1 (numE l e 1).2.1 (numE l e 1).2.2
theorem p_rd (b : Bool) (l : List UInt8) (e : Int) : code_reader_inst.rd b (B l) e = some ((rdE b l e).1, B (rdE b l e).2.1, (rdE b l e).2.2) := by
  unfold code_reader_inst.rd rdE
  cases b with
  | false => rfl
  | true => rw [if_pos rfl, if_pos rfl, show pack_Reader_Num.f (B l) e 1 = _ from pRnum l e 1 (by omega), Option.bind_some, kind_in]
theorem p_value (l : List UInt8) (e : Int) (odd : Bool) : code_reader_value.f (B l) e odd = some ((valE l e).1.f0, (valE l e).1.f1, (valE l e).1.f2, B (valE l e).2.1, (valE l e).2.2.1, (valE l e).2.2.2 || odd) := by
  unfold code_reader_value.f valE
  rw [show pack_Reader_Num.f (B l) e 1 = _ from pRnum l e 1 (by omega), Option.bind_some]
  simp only
  by_cases h0 : (numE l e 1).2.2 = 0
  · rw [if_pos h0, if_pos h0, h0]
    by_cases h1 : (numE l e 1).1 = 1
    · rw [if_pos h1, if_pos h1, show pack_Reader_Num.f _ 0 8 = _ from pRnum (numE l e 1).2.1 0 8 (by omega), Option.bind_some]; rfl
    · rw [if_neg h1, if_neg h1]
      by_cases h2 : (numE l e 1).1 = 2
      · rw [if_pos h2, if_pos h2, show pack_Reader_Str.f _ 0 10 = _ from pRstr (numE l e 1).2.1 0 10, Option.bind_some]; rfl
      · rw [if_neg h2, if_neg h2]; rfl
  · rw [if_neg h0, if_neg h0]; rfl
theorem p_inst (l : List UInt8) (e : Int) (odd : Bool) : code_reader_inst.f (B l) e odd = some ((instE l e).1.f0, (instE l e).1.f1, (instE l e).1.f2, (instE l e).1.f3, (instE l e).1.f4.f0, (instE l e).1.f4.f1, (instE l e).1.f4.f2, B (instE l e).2.1, (instE l e).2.2.1, (instE l e).2.2.2) := by
  unfold code_reader_inst.f instE bodyE
  rw [show pack_Reader_Num.f (B l) e 1 = _ from pRnum l e 1 (by omega), Option.bind_some]
  simp only [kind_in, p_ops, Option.bind_some]
  rw [p_rd, Option.bind_some]
  simp only
  rw [p_rd, Option.bind_some]
  simp only
  rw [p_rd, Option.bind_some]
  simp only
  by_cases h1 : (numE l e 1).1 = 1
  · rw [if_pos h1, if_pos h1, p_value, Option.bind_some, show (!opOK (numE l e 1).1) = false by rw [h1]; rfl, Bool.or_false]; rfl
  · rw [if_neg h1, if_neg h1]; rfl
theorem rdE_suf (b : Bool) (l : List UInt8) (e : Int) : ∃ p, l = p ++ (rdE b l e).2.1 := by
  unfold rdE
  split
  · exact numE_suf l e 1
  · exact ⟨[], rfl⟩
theorem suf_trans {a b c : List UInt8} (h : ∃ p, a = p ++ b) (k : ∃ p, b = p ++ c) : ∃ p, a = p ++ c := by
  obtain ⟨p, rfl⟩ := h; obtain ⟨q, rfl⟩ := k; exact ⟨p ++ q, by rw [List.append_assoc]⟩
theorem rd3_suf (n : Int) (l : List UInt8) (e : Int) : ∃ p, l = p ++ (rd3 n l e).2.1 := suf_trans (suf_trans (rdE_suf _ _ _) (rdE_suf _ _ _)) (rdE_suf _ _ _)
theorem valE_suf (l : List UInt8) (e : Int) : ∃ p, l = p ++ (valE l e).2.1 := by
  unfold valE
  (repeat' split)
  · exact suf_trans (numE_suf l e 1) (numE_suf _ _ _)
  · exact suf_trans (numE_suf l e 1) (strE_suf _ _ _)
  · exact numE_suf l e 1
  · exact numE_suf l e 1
theorem instE_suf (l : List UInt8) (e : Int) : ∃ p, l = p ++ (instE l e).2.1 := by
  unfold instE bodyE
  split
  · exact suf_trans (suf_trans (numE_suf l e 1) (rd3_suf _ _ _)) (valE_suf _ _)
  · exact suf_trans (numE_suf l e 1) (rd3_suf _ _ _)
/-! ## the document's reading -/
def errI {α : Type} (q : α × List UInt8 × Int × Bool) : Int := if q.2.2.2 = true then 4 else q.2.2.1
theorem r_step {S : ByteArray} {l : List UInt8} (k : Nat) (n i e : Int) (xs : List Int) (o a b c u v : Int) (t : ByteArray) (hS : S.size < 140737488355328) (h : Suf S l) (hi : i < n) (h0 : 0 ≤ i) (h2 : i < (xs.length : Int)) (h3 : i < 100) :
    factotumref13_read.l0 (k + 10) n xs i S (pos S l) e o a b c u v t = factotumref13_read.l0 (k + 9) n (xs.set i.toNat (numE l e 1).1) (i + 1) S (pos S (numE l e 1).2.1) (numE l e 1).2.2 o a b c u v t := by
  have hw : wrap64 (i + 1) = i + 1 := by unfold wrap64; omega
  rw [show k + 10 = (k + 9) + 1 from rfl]
  generalize hK : k + 9 = K
  simp only [factotumref13_read.l0]
  subst hK
  rw [if_pos hi, show factotumref01_Reader_Num.f (k + 9) S (pos S l) e 1 = _ from rRnum k e 1 (by omega) hS h, Option.bind_some, if_pos h0, if_pos h2, kind_in, hw]
theorem r_end {S : ByteArray} (k : Nat) (n i e p : Int) (x y z o a b c u v : Int) (t : ByteArray) (hi : ¬ i < n) :
    factotumref13_read.l0 (k + 1) n [x, y, z] i S p e o a b c u v t = if o = 1 then factotumref13_read.j1 k (e != 0) S p e o x y z u v t else factotumref13_read.j1 k true S p e o x y z u v t := by
  simp only [factotumref13_read.l0]
  have hl : (([x, y, z] : List Int).length : Int) = 3 := rfl
  rw [if_neg hi, if_pos (show (0 : Int) < (([x, y, z] : List Int).length : Int) by rw [hl]; decide), if_pos (show (1 : Int) < (([x, y, z] : List Int).length : Int) by rw [hl]; decide), if_pos (show (2 : Int) < (([x, y, z] : List Int).length : Int) by rw [hl]; decide)]; rfl
theorem r_j1 {S : ByteArray} {l : List UInt8} (k : Nat) (e o x y z : Int) (hS : S.size < 140737488355328) (h : Suf S l) :
    ∃ v : Vl, factotumref13_read.j1 (k + 10) (e != 0) S (pos S l) e o x y z 0 0 ⟨#[]⟩ = some (o, x, y, z, v.f0, v.f1, v.f2, errI (valE l e), S, pos S (valE l e).2.1, (valE l e).2.2.1) ∧ (errI (valE l e) = 0 → v = (valE l e).1) := by
  rw [show k + 10 = (k + 9) + 1 from rfl]
  generalize hK : k + 9 = K
  simp only [factotumref13_read.j1]
  subst hK
  unfold valE errI
  by_cases he : e = 0
  · subst he
    have hl' := h.step (numE_suf l 0 1)
    rw [if_neg (by decide), show factotumref01_Reader_Num.f (k + 9) S (pos S l) 0 1 = _ from rRnum k 0 1 (by omega) hS h, Option.bind_some]
    simp only [kind_in]
    by_cases h0 : (numE l 0 1).2.2 = 0
    · rw [if_pos h0, if_pos h0, h0]
      by_cases h1 : (numE l 0 1).1 = 1
      · rw [if_pos h1, if_pos h1, show factotumref01_Reader_Num.f (k + 9) S _ 0 8 = _ from rRnum k 0 8 (by omega) hS hl', Option.bind_some]
        exact ⟨⟨1, wrap64 (numE (numE l 0 1).2.1 0 8).1, ⟨#[]⟩⟩, by rw [h1]; rfl, fun _ => rfl⟩
      · rw [if_neg h1, if_neg h1]
        by_cases h2 : (numE l 0 1).1 = 2
        · rw [if_pos h2, if_pos h2, show factotumref01_Reader_Str.f S _ 0 10 = _ from rRstr 0 10 hS hl', Option.bind_some]
          exact ⟨⟨2, 0, B (strE (numE l 0 1).2.1 0 10).1⟩, by rw [h2]; rfl, fun _ => rfl⟩
        · rw [if_neg h2, if_neg h2]
          exact ⟨⟨(numE l 0 1).1, 0, ⟨#[]⟩⟩, rfl, fun hx => by cases hx⟩
    · rw [if_neg h0, if_neg h0]
      exact ⟨zV, rfl, fun _ => rfl⟩
  · have hn : numE l e 1 = (0, l, e) := by unfold numE; rw [if_neg he]
    rw [if_pos (bne_iff_ne.mpr he), hn, if_neg he]
    exact ⟨zV, rfl, fun _ => rfl⟩
theorem r_tail {S : ByteArray} {l : List UInt8} (k : Nat) (n i e x y z o : Int) (hS : S.size < 140737488355328) (h : Suf S l) (hi : ¬ i < n) (ho : opOK o = true) :
    ∃ j : In, factotumref13_read.l0 (k + 11) n [x, y, z] i S (pos S l) e o 0 0 0 0 0 ⟨#[]⟩ = some (j.f0, j.f1, j.f2, j.f3, j.f4.f0, j.f4.f1, j.f4.f2, errI (if o = 1 then ((⟨o, x, y, z, (valE l e).1⟩ : In), (valE l e).2.1, (valE l e).2.2.1, (valE l e).2.2.2) else (⟨o, x, y, z, zV⟩, l, e, !opOK o)), S, pos S (if o = 1 then (valE l e).2.1 else l), if o = 1 then (valE l e).2.2.1 else e) ∧
      (errI (if o = 1 then ((⟨o, x, y, z, (valE l e).1⟩ : In), (valE l e).2.1, (valE l e).2.2.1, (valE l e).2.2.2) else (⟨o, x, y, z, zV⟩, l, e, !opOK o)) = 0 → j = if o = 1 then ⟨o, x, y, z, (valE l e).1⟩ else ⟨o, x, y, z, zV⟩) := by
  rw [r_end (k + 10) n i e _ x y z o _ _ _ _ _ _ hi]
  by_cases h1 : o = 1
  · simp only [if_pos h1]
    obtain ⟨v, hv, hw⟩ := r_j1 k e o x y z hS h
    exact ⟨⟨o, x, y, z, v⟩, hv, fun hz => by rw [hw hz]⟩
  · simp only [if_neg h1]
    refine ⟨⟨o, x, y, z, zV⟩, ?_, fun _ => rfl⟩
    simp only [factotumref13_read.j1]
    rw [if_pos trivial, ho]; rfl
theorem bodyE_eq (op : Int) (l : List UInt8) (e : Int) : bodyE op l e = (if op = 1 then ((⟨op, (rd1 (opN op) l e).1, (rd2 (opN op) l e).1, (rd3 (opN op) l e).1, (valE (rd3 (opN op) l e).2.1 (rd3 (opN op) l e).2.2).1⟩ : In), (valE (rd3 (opN op) l e).2.1 (rd3 (opN op) l e).2.2).2.1, (valE (rd3 (opN op) l e).2.1 (rd3 (opN op) l e).2.2).2.2.1, (valE (rd3 (opN op) l e).2.1 (rd3 (opN op) l e).2.2).2.2.2)
  else (⟨op, (rd1 (opN op) l e).1, (rd2 (opN op) l e).1, (rd3 (opN op) l e).1, zV⟩, (rd3 (opN op) l e).2.1, (rd3 (opN op) l e).2.2, !opOK op)) := rfl
theorem r_read {S : ByteArray} {l : List UInt8} (k : Nat) (e : Int) (hS : S.size < 140737488355328) (h : Suf S l) :
    ∃ j : In, factotumref13_read.f (k + 20) S (pos S l) e = some (j.f0, j.f1, j.f2, j.f3, j.f4.f0, j.f4.f1, j.f4.f2, errI (instE l e), S, pos S (instE l e).2.1, (instE l e).2.2.1) ∧ (errI (instE l e) = 0 → j = (instE l e).1) := by
  unfold factotumref13_read.f instE
  have h1 := h.step (numE_suf l e 1)
  rw [show factotumref01_Reader_Num.f (k + 20) S (pos S l) e 1 = _ from rRnum (k + 11) e 1 (by omega) hS h, Option.bind_some]
  simp only [kind_in]
  rw [r_ops _ (by omega), Option.bind_some]
  generalize (numE l e 1).1 = op
  generalize (numE l e 1).2.1 = m at h1 ⊢
  generalize (numE l e 1).2.2 = e1
  rw [bodyE_eq]
  simp only
  cases ho : opOK op with
  | false =>
    have hz : opN op = 0 := by
      unfold opOK at ho; unfold opN
      rw [if_neg (of_decide_eq_false ho)]
    have hne : ¬ op = 1 := fun hx => by rw [hx] at ho; cases ho
    rw [if_neg (by decide), hz, if_neg hne]
    exact ⟨⟨op, 0, 0, 0, zV⟩, rfl, fun hx => by cases hx⟩
  | true =>
    rw [if_pos rfl]
    have h2 := h1.step (rdE_suf (decide (0 < opN op)) m e1)
    have h3 := h2.step (rdE_suf (decide (1 < opN op)) (rd1 (opN op) m e1).2.1 (rd1 (opN op) m e1).2.2)
    have h4 := h3.step (rdE_suf (decide (2 < opN op)) (rd2 (opN op) m e1).2.1 (rd2 (opN op) m e1).2.2)
    have fin : ∀ q i : Int, ¬ i < opN op → ∀ k', ∀ x y z : Int, ∀ l' : List UInt8, Suf S l' → ∀ e', rd1 (opN op) m e1 = (x, (rd1 (opN op) m e1).2.1, (rd1 (opN op) m e1).2.2) → rd2 (opN op) m e1 = (y, (rd2 (opN op) m e1).2.1, (rd2 (opN op) m e1).2.2) → rd3 (opN op) m e1 = (z, l', e') →
        ∃ j : In, factotumref13_read.l0 (k' + 11) (opN op) [x, y, z] i S (pos S l') e' op 0 0 0 0 0 ⟨#[]⟩ = some (j.f0, j.f1, j.f2, j.f3, j.f4.f0, j.f4.f1, j.f4.f2, errI (bodyE op m e1), S, pos S (bodyE op m e1).2.1, (bodyE op m e1).2.2.1) ∧ (errI (bodyE op m e1) = 0 → j = (bodyE op m e1).1) := by
      intro _ i hi k' x y z l' hl' e' e1_ e2_ e3_
      obtain ⟨j, hj, hk⟩ := r_tail k' (opN op) i e' x y z op hS hl' hi ho
      have ex : (rd1 (opN op) m e1).1 = x := by rw [e1_]
      have ey : (rd2 (opN op) m e1).1 = y := by rw [e2_]
      have hb : bodyE op m e1 = (if op = 1 then ((⟨op, x, y, z, (valE l' e').1⟩ : In), (valE l' e').2.1, (valE l' e').2.2.1, (valE l' e').2.2.2) else (⟨op, x, y, z, zV⟩, l', e', !opOK op)) := by
        rw [bodyE_eq, ex, ey, e3_]
      refine ⟨j, ?_, fun hz => ?_⟩
      · rw [hj, hb]; by_cases h1 : op = 1
        · simp only [if_pos h1]
        · simp only [if_neg h1]
      · rw [hb] at hz ⊢; rw [hk hz]; by_cases h1 : op = 1
        · simp only [if_pos h1]
        · simp only [if_neg h1]
    obtain ⟨n0, n3⟩ := opN_le op
    rw [← ho, ← bodyE_eq]
    have hn : opN op = 0 ∨ opN op = 1 ∨ opN op = 2 ∨ opN op = 3 := by omega
    rcases hn with hn | hn | hn | hn
    · have := fin 0 0 (by omega) (k + 9) 0 0 0 m h1 e1 (by unfold rd1; rw [hn]; rfl) (by unfold rd2 rd1; rw [hn]; rfl) (by unfold rd3 rd2 rd1; rw [hn]; rfl)
      exact this
    · rw [r_step (k + 10) _ 0 _ _ _ _ _ _ _ _ _ hS h1 (by omega) (by omega) (by decide) (by omega)]
      have := fin 0 1 (by omega) (k + 8) (numE m e1 1).1 0 0 (numE m e1 1).2.1 (h1.step (numE_suf _ _ _)) (numE m e1 1).2.2 (by unfold rd1; rw [hn]; rfl) (by unfold rd2 rd1; rw [hn]; rfl) (by unfold rd3 rd2 rd1; rw [hn]; rfl)
      exact this
    · have h2 := h1.step (numE_suf m e1 1)
      rw [r_step (k + 10) _ 0 _ _ _ _ _ _ _ _ _ hS h1 (by omega) (by omega) (by decide) (by omega)]
      rw [show k + 10 + 9 = (k + 9) + 10 from by omega, r_step (k + 9) _ (0 + 1) _ _ _ _ _ _ _ _ _ hS h2 (by omega) (by omega) (by simp) (by omega)]
      have := fin 0 2 (by omega) (k + 7) (numE m e1 1).1 (numE (numE m e1 1).2.1 (numE m e1 1).2.2 1).1 0 (numE (numE m e1 1).2.1 (numE m e1 1).2.2 1).2.1 (h2.step (numE_suf _ _ _)) (numE (numE m e1 1).2.1 (numE m e1 1).2.2 1).2.2 (by unfold rd1; rw [hn]; rfl) (by unfold rd2 rd1; rw [hn]; rfl) (by unfold rd3 rd2 rd1; rw [hn]; rfl)
      exact this
    · have h2 := h1.step (numE_suf m e1 1)
      have h3 := h2.step (numE_suf (numE m e1 1).2.1 (numE m e1 1).2.2 1)
      rw [r_step (k + 10) _ 0 _ _ _ _ _ _ _ _ _ hS h1 (by omega) (by omega) (by decide) (by omega)]
      rw [show k + 10 + 9 = (k + 9) + 10 from by omega, r_step (k + 9) _ (0 + 1) _ _ _ _ _ _ _ _ _ hS h2 (by omega) (by omega) (by simp) (by omega)]
      rw [show k + 9 + 9 = (k + 8) + 10 from by omega, r_step (k + 8) _ (0 + 1 + 1) _ _ _ _ _ _ _ _ _ hS h3 (by omega) (by omega) (by simp) (by omega)]
      have := fin 0 3 (by omega) (k + 6) (numE m e1 1).1 (numE (numE m e1 1).2.1 (numE m e1 1).2.2 1).1 (numE (numE (numE m e1 1).2.1 (numE m e1 1).2.2 1).2.1 (numE (numE m e1 1).2.1 (numE m e1 1).2.2 1).2.2 1).1 (numE (numE (numE m e1 1).2.1 (numE m e1 1).2.2 1).2.1 (numE (numE m e1 1).2.1 (numE m e1 1).2.2 1).2.2 1).2.1 (h3.step (numE_suf _ _ _)) (numE (numE (numE m e1 1).2.1 (numE m e1 1).2.2 1).2.1 (numE (numE m e1 1).2.1 (numE m e1 1).2.2 1).2.2 1).2.2 (by unfold rd1; rw [hn]; rfl) (by unfold rd2 rd1; rw [hn]; rfl) (by unfold rd3 rd2 rd1; rw [hn]; rfl)
      exact this
/-! ## programs, read -/
def readL : Nat → List UInt8 → List In → List In × Int
  | 0, _, _ => ([], 0)
  | m + 1, l, xs => if l = [] then (xs, 0) else if xs.length = 64 then ([], 3) else if errI (instE l 0) = 0 then readL m (instE l 0).2.1 (xs ++ [(instE l 0).1]) else ([], errI (instE l 0))
theorem p_readL : ∀ (m : Nat) (l : List UInt8) (xs : List In) (odd : Bool) (k : Nat), xs.length ≤ 64 → 65 ≤ xs.length + m → code_Read.l0 (k + m) (B l) 0 odd xs = some (readL m l xs) := by
  intro m
  induction m with
  | zero => intro l xs odd k h1 h2; omega
  | succ m ih =>
    intro l xs odd k h1 h2
    rw [show k + (m + 1) = (k + m) + 1 from rfl]
    generalize hK : k + m = K
    simp only [code_Read.l0, readL]
    subst hK
    cases l with
    | nil => rw [if_neg (by rw [B_size]; simp), if_pos rfl]
    | cons c r =>
      rw [if_pos (show 0 < ((B (c :: r)).size : Int) by rw [B_size, List.length_cons]; omega), if_neg (show ¬ (c :: r = []) by simp)]
      by_cases h : xs.length = 64
      · rw [if_pos (show (xs.length : Int) = 64 by omega), if_pos h]
      · rw [if_neg (show ¬ (xs.length : Int) = 64 by omega), if_neg h, p_inst, Option.bind_some]
        simp only
        unfold errI
        cases hb : (instE (c :: r) 0).2.2.2 with
        | true => simp only [if_true]; rw [if_neg (show ¬ (4 : Int) = 0 by decide)]
        | false =>
          simp only [Bool.false_eq_true, if_false]
          by_cases h0 : (instE (c :: r) 0).2.2.1 = 0
          · rw [if_pos h0, if_pos h0, h0]
            exact ih _ _ _ k (by simp; omega) (by simp; omega)
          · rw [if_neg h0, if_neg h0]
theorem p_read (l : List UInt8) (k : Nat) (hk : 65 ≤ k) : code_Read.f k (B l) = some (readL 65 l []) := by
  have := p_readL 65 l [] false (k - 65) (by simp) (by simp)
  rw [show k - 65 + 65 = k by omega] at this
  exact this
theorem r_readL {S : ByteArray} (hS : S.size < 140737488355328) : ∀ (m : Nat) (l : List UInt8) (xs : List In) (k : Nat), Suf S l → xs.length ≤ 64 → 65 ≤ xs.length + m → factotumref13_Read.l0 (k + m + 20) xs S (pos S l) 0 = some (readL m l xs) := by
  intro m
  induction m with
  | zero => intro l xs k _ h1 h2; omega
  | succ m ih =>
    intro l xs k hl h1 h2
    rw [show k + (m + 1) + 20 = (k + m + 20) + 1 by omega]
    generalize hK : k + m + 20 = K
    simp only [factotumref13_Read.l0, readL]
    subst hK
    rw [rleft 0 hS hl, Option.bind_some]
    simp only
    cases l with
    | nil => rw [if_neg (by simp), if_pos rfl]
    | cons c r =>
      rw [if_pos (show (((c :: r).length : Nat) : Int) > 0 by rw [List.length_cons]; omega), if_neg (show ¬ (c :: r = []) by simp)]
      by_cases h : xs.length = 64
      · rw [if_pos (show (xs.length : Int) ≥ 64 by omega), if_pos h]
      · obtain ⟨j, hj, hjj⟩ := r_read (k + m) 0 hS hl
        rw [if_neg (show ¬ (xs.length : Int) ≥ 64 by omega), if_neg h, hj, Option.bind_some]
        simp only
        by_cases h0 : errI (instE (c :: r) 0) = 0
        · have he : (instE (c :: r) 0).2.2.1 = 0 := by
            unfold errI at h0; split at h0
            · cases h0
            · exact h0
          rw [if_pos h0, if_pos h0, if_pos (by omega), he]
          have := ih (instE (c :: r) 0).2.1 (xs ++ [(instE (c :: r) 0).1]) k (hl.step (instE_suf _ _)) (by simp; omega) (by simp; omega)
          rw [hjj h0]
          exact this
        · rw [if_neg h0, if_neg h0]
theorem rr_read (l : List UInt8) (k : Nat) (hl : l.length < 140737488355328) (hk : 85 ≤ k) : factotumref13_Read.f k (B l) = some (readL 65 l []) := by
  have hS : (B l).size < 140737488355328 := by rw [B_size]; exact hl
  have := r_readL hS 65 l [] (k - 85) (Suf.whole _) (by simp) (by simp)
  rw [show k - 85 + 65 + 20 = k by omega] at this
  have hp : pos (B l) l = 0 := by unfold pos; rw [B_size]; omega
  rw [hp] at this
  exact this
end Go.Proofs.YtljfichnlgfikaaDoor.XC
