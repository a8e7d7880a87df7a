/- Nodes as pages: what the program and the document's answer write. Plain laws over the printed functions. No conditions. -/
import Derived.Test.YtokjbncjapndgaaXNode
import Derived.Test.YtokjbncjapndgaaXA
namespace Go.Proofs.Ytokjbncjapndgaa.XN
open Go.RowKit Go.Proofs.Ytokjbncjapndgaa.XW Go.Proofs.Ytokjbncjapndgaa.XLib Go.Proofs.Ytokjbncjapndgaa.PAll Go.Proofs.YtokjbncjapndgaaW.PrintWords Go.Proofs.YtokjbncjapndgaaW.PrintLast Go.Proofs.Ytokjbncjapndgaa.XP
theorem wrapu (n : Int) : IntKind.u64.wrap n = n % 18446744073709551616 := by simp [IntKind.wrap, IntKind.bits, IntKind.signed]
def byt (x : Int) : UInt8 := UInt8.ofNat (x % 256).toNat
theorem byt_u (x : Int) : beN 1 (IntKind.u64.wrap x) = [byt x] := by
  show [] ++ [UInt8.ofNat (IntKind.u64.wrap x % 256).toNat] = [byt x]
  rw [wrapu, show x % 18446744073709551616 % 256 = x % 256 by omega]; rfl
theorem pnum_ {k : Nat} (hk : 9 ≤ k) (x : List Int) (n : Int) (w : Nat) (hw : 1 ≤ w ∧ w ≤ 8) (hx : x.length + 8 < 140737488355328) : pack_Num.f k x n w = some (x ++ bi (beN w n)) := by
  obtain ⟨j, rfl⟩ : ∃ j, k = j + 9 := ⟨k - 9, by omega⟩
  exact pnum j x n w hw hx
def strL (s : ByteArray) : List UInt8 := UInt8.ofNat (min s.size 255) :: s.data.toList.take 255
theorem strL_len (s : ByteArray) : (strL s).length ≤ 1 + s.size := by
  unfold strL; rw [List.length_cons, List.length_take, Lib.size_eq]; omega
theorem pstr_ (x : List Int) (s : ByteArray) (hx : x.length + 256 < 140737488355328) : pack_Str.f x s = some (x ++ bi (strL s)) := by
  have := pstr x s.data.toList hx
  rw [← of_B] at this
  rw [this]; unfold strL; rw [Lib.size_eq]
def leafL (ps : List Pr) : List UInt8 := ps.flatMap fun p => strL p.f0 ++ strL p.f1
theorem leafL_cons (p : Pr) (ps : List Pr) : leafL (p :: ps) = strL p.f0 ++ strL p.f1 ++ leafL ps := rfl
theorem leafL_len (ps : List Pr) : (leafL ps).length ≤ sumP ps := by
  induction ps with
  | nil => exact Nat.le_refl _
  | cons p ps ih =>
    have h0 := strL_len p.f0
    have h1 := strL_len p.f1
    rw [leafL_cons, sumP_cons, List.length_append, List.length_append]; unfold wp; omega
/-- keys, and the kids behind the first one -/
def innL : List ByteArray → List Int → List UInt8
  | s :: ks, c :: cs => strL s ++ beN 2 (IntKind.u64.wrap c) ++ innL ks cs
  | _, _ => []
theorem innL_len : ∀ (ks : List ByteArray) (cs : List Int), (innL ks cs).length ≤ sumK ks := by
  intro ks
  induction ks with
  | nil => intro cs; cases cs <;> exact Nat.le_refl _
  | cons s ks ih =>
    intro cs
    cases cs with
    | nil => exact Nat.zero_le _
    | cons c cs =>
      have h0 := strL_len s
      have h1 := ih cs
      have h2 := beN_len 2 (IntKind.u64.wrap c)
      show (strL s ++ beN 2 (IntKind.u64.wrap c) ++ innL ks cs).length ≤ sumK (s :: ks)
      rw [sumK_cons, List.length_append, List.length_append]; unfold wk; omega
def pad (l : List UInt8) : List UInt8 := l ++ List.replicate (256 - l.length) 0
theorem rep0 (n : Nat) (h : n ≤ 256) : strings_Repeat.f (⟨#[0]⟩ : ByteArray) (n : Int) = some (B (List.replicate n 0)) := by
  unfold strings_Repeat.f
  rw [if_pos ⟨by omega, by omega, by show ((1 : Nat) : Int) * n ≤ _; omega⟩]
  have := Lib.repeatL_replicate (0 : UInt8) 1 n
  rw [Nat.mul_one] at this
  rw [Int.toNat_natCast, ← this]; rfl
theorem room (b : List UInt8) (h : b.length ≤ 256) : wrap64 (256 - (b.length : Int)) = ((256 - b.length : Nat) : Int) := (IntWalk.wrap64_in _ ⟨by omega, by omega⟩).trans (by omega)
theorem pad_end (b : List UInt8) (h : b.length ≤ 256) : ((strings_Repeat.f (⟨#[0]⟩ : ByteArray) (wrap64 (256 - ((bi b).length : Int)))).bind fun t => (if (strOfNums (bi b)).size + t.size ≤ 9223372036854775807 then (some ((strOfNums (bi b)) ++ t, (0 : Int))) else (none))) = some (B (pad b), 0) := by
  rw [bi_len, room b h, rep0 _ (by omega), Option.bind_some, strB, if_pos (by rw [B_size, B_size, List.length_replicate]; omega), B_app]; rfl
theorem write_leaf (ps : List Pr) (hl : ps.length ≤ BIG) : ∀ (m i k : Nat) (b : List UInt8), i + m = ps.length → b.length + (leafL (ps.drop i)).length ≤ 256 → node_Write.l0 (k + m + 1) (bi b) ps (ps.length : Int) (i : Int) = some (B (pad (b ++ leafL (ps.drop i))), 0) := by
  unfold BIG at hl
  intro m
  induction m with
  | zero =>
    intro i k b hi hb
    simp only [node_Write.l0]
    rw [if_neg (by omega), List.drop_eq_nil_of_le (by omega)]
    have : leafL ([] : List Pr) = [] := rfl
    rw [this, List.append_nil, pad_end b (by omega)]
  | succ m ih =>
    intro i k b hi hb
    have hlt : i < ps.length := by omega
    rw [List.drop_eq_getElem_cons hlt, leafL_cons] at hb ⊢
    rw [List.length_append, List.length_append] at hb
    rw [show k + (m + 1) + 1 = (k + m + 1) + 1 by omega]
    generalize hK : k + m + 1 = K
    simp only [node_Write.l0]
    subst hK
    rw [if_pos (by omega), if_pos (by omega), if_pos (by omega), rdp ps i hlt, nexti i (by omega), pstr_ _ _ (by rw [bi_len]; omega), Option.bind_some, pstr_ _ _ (by rw [List.length_append, bi_len, bi_len]; omega), Option.bind_some, ← bi_app, ← bi_app]
    rw [ih (i + 1) k _ (by omega) (by rw [List.length_append, List.length_append]; omega)]
    simp only [List.append_assoc]
theorem write_inner (a : Bool) (ps : List Pr) (ks : List ByteArray) (kids : List Int) (hl : ks.length ≤ BIG) (hk : kids.length = ks.length + 1) : ∀ (m i k : Nat) (b : List UInt8), i + m = ks.length → 9 ≤ k → b.length + (innL (ks.drop i) (kids.drop (i + 1))).length ≤ 256 →
    node_Write.l1 (k + m + 1) (bi b) ks (ks.length : Int) (i : Int) a ps ks kids = some (B (pad (b ++ innL (ks.drop i) (kids.drop (i + 1)))), 0) := by
  unfold BIG at hl
  intro m
  induction m with
  | zero =>
    intro i k b hi _ hb
    simp only [node_Write.l1]
    rw [if_neg (by omega), List.drop_eq_nil_of_le (by omega)]
    have : ∀ c, innL [] c = [] := fun c => by cases c <;> rfl
    rw [this, List.append_nil, pad_end b (by omega)]
  | succ m ih =>
    intro i k b hi h9 hb
    have hlt : i < ks.length := by omega
    have hlc : i + 1 < kids.length := by omega
    have e : innL (ks.drop i) (kids.drop (i + 1)) = strL ks[i] ++ beN 2 (IntKind.u64.wrap kids[i + 1]) ++ innL (ks.drop (i + 1)) (kids.drop (i + 1 + 1)) := by
      rw [List.drop_eq_getElem_cons hlt, List.drop_eq_getElem_cons hlc]; rfl
    rw [e] at hb ⊢
    have h2 := beN_len 2 (IntKind.u64.wrap kids[i + 1])
    rw [List.length_append, List.length_append] at hb
    rw [show k + (m + 1) + 1 = (k + m + 1) + 1 by omega]
    generalize hK : k + m + 1 = K
    simp only [node_Write.l1]
    rw [if_pos (by omega), if_pos (by omega), if_pos (by omega), rds ks i hlt, nexti i (by omega), pstr_ _ _ (by rw [bi_len]; omega), Option.bind_some, if_pos (by omega), if_pos (by omega), rdn kids (i + 1) hlc, show (2 : Int) = ((2 : Nat) : Int) from rfl, pnum_ (by omega) _ _ 2 (by omega) (by rw [List.length_append, bi_len, bi_len]; omega), Option.bind_some, ← bi_app, ← bi_app]
    subst hK
    rw [ih (i + 1) k _ (by omega) h9 (by rw [List.length_append, List.length_append]; omega)]
    simp only [List.append_assoc]
def pageN (leaf : Bool) (ps : List Pr) (ks : List ByteArray) (kids : List Int) : List UInt8 :=
  if leaf = true then pad ([1, byt ps.length] ++ leafL ps) else pad ([2, byt ks.length] ++ beN 2 (IntKind.u64.wrap (kids.headD 0)) ++ innL ks (kids.drop 1))
theorem two (a : UInt8) (x : Int) : ([(a.toNat : Int), x % 256] : List Int) = bi [a, byt x] := by unfold bi byt; simp only [List.map_cons, List.map_nil]; rw [bback]
structure Bd (ps : List Pr) (ks : List ByteArray) (kids : List Int) : Prop where
  p : sumP ps ≤ 10000000
  k : sumK ks ≤ 10000000
  c : kids.length ≤ 10000000
theorem len_sumP (ps : List Pr) : ps.length ≤ sumP ps := by
  induction ps with
  | nil => exact Nat.le_refl _
  | cons p ps ih => rw [sumP_cons, List.length_cons]; unfold wp; omega
theorem len_sumK (ps : List ByteArray) : ps.length ≤ sumK ps := by
  induction ps with
  | nil => exact Nat.le_refl _
  | cons p ps ih => rw [sumK_cons, List.length_cons]; unfold wk; omega
theorem mem_sumP (ps : List Pr) : ∀ p ∈ ps, wp p ≤ sumP ps := by
  induction ps with
  | nil => intro p hp; cases hp
  | cons q ps ih =>
    intro p hp
    rw [sumP_cons]
    rcases List.mem_cons.1 hp with rfl | h
    · omega
    · have := ih p h; omega
theorem mem_sumK (ps : List ByteArray) : ∀ p ∈ ps, wk p ≤ sumK ps := by
  induction ps with
  | nil => intro p hp; cases hp
  | cons q ps ih =>
    intro p hp
    rw [sumK_cons]
    rcases List.mem_cons.1 hp with rfl | h
    · omega
    · have := ih p h; omega
def FUEL : Nat := 100000000
def writeN (leaf : Bool) (ps : List Pr) (ks : List ByteArray) (kids : List Int) : ByteArray × Int :=
  if rightN leaf ps ks kids = true then (if sizeN leaf ps ks > 256 then (⟨#[]⟩, 3) else (B (pageN leaf ps ks kids), 0)) else (⟨#[]⟩, 4)
theorem rightN_inner {ps : List Pr} {ks : List ByteArray} {kids : List Int} (h : rightN false ps ks kids = true) : kids.length = ks.length + 1 := by
  unfold rightN at h
  rw [if_neg (show ¬ (false = true) by decide)] at h
  simp only [Bool.and_eq_true, decide_eq_true_eq] at h
  exact h.2.1
theorem p_write (leaf : Bool) (ps : List Pr) (ks : List ByteArray) (kids : List Int) (h : Bd ps ks kids) {k : Nat} (hk : FUEL ≤ k) : node_Write.f k leaf ps ks kids = some (writeN leaf ps ks kids) := by
  have lp := len_sumP ps
  have lk := len_sumK ks
  obtain ⟨h1, h2, h3⟩ := h
  unfold FUEL at hk
  unfold node_Write.f writeN
  rw [p_right leaf ps ks kids (by unfold BIG; omega) (by unfold BIG; omega) (by unfold BIG; omega) (by omega), Option.bind_some]
  cases hr : rightN leaf ps ks kids with
  | false => rfl
  | true =>
    rw [if_pos rfl, if_pos rfl, p_size leaf ps ks kids (by omega) (by unfold BIG; omega) (by unfold BIG; omega) (by unfold BIG; omega) (by unfold BIG; omega), Option.bind_some]
    by_cases hs : sizeN leaf ps ks > 256
    · rw [if_pos (by omega), if_pos hs]
    · rw [if_neg (by omega), if_neg hs]
      unfold pageN
      unfold sizeN at hs
      cases leaf with
      | true =>
        have hl := leafL_len ps
        rw [if_pos rfl] at hs
        rw [if_pos rfl, if_pos rfl, Option.bind_some, if_pos (by simp), List.nil_append, show (1 : Int) = (((1 : UInt8).toNat : Nat) : Int) from rfl, two]
        have := write_leaf ps (by unfold BIG; omega) ps.length 0 (k - ps.length - 1) [1, byt ps.length] (by omega) (by rw [List.drop_zero]; simp; omega)
        rw [show k - ps.length - 1 + ps.length + 1 = k by omega, List.drop_zero] at this
        exact this
      | false =>
        have hc := rightN_inner hr
        have hl := innL_len ks (kids.drop 1)
        rw [if_neg (show ¬ (false = true) by decide)] at hs
        rw [if_neg (show ¬ (false = true) by decide), if_neg (show ¬ (false = true) by decide), Option.bind_some, if_pos (by simp), if_pos (by omega), List.nil_append]
        have e0 : rd kids 0 = kids.headD 0 := by cases kids with
          | nil => rfl
          | cons c cs => rfl
        have e2 : ([2, ((ks.length : Int)) % 256] : List Int) = bi [2, byt ks.length] := two 2 _
        rw [e0, e2, show pack_Num.f k (bi [2, byt ks.length]) (IntKind.u64.wrap (kids.headD 0)) 2 = _ from pnum_ (by omega) _ _ 2 (by omega) (by rw [bi_len]; simp), Option.bind_some, ← bi_app]
        have h2 := beN_len 2 (IntKind.u64.wrap (kids.headD 0))
        have := write_inner false ps ks kids (by unfold BIG; omega) hc ks.length 0 (k - ks.length - 1) ([2, byt ks.length] ++ beN 2 (IntKind.u64.wrap (kids.headD 0))) (by omega) (by omega) (by rw [List.drop_zero, List.length_append]; simp only [List.length_cons, List.length_nil, Nat.zero_add]; omega)
        rw [show k - ks.length - 1 + ks.length + 1 = k by omega, List.drop_zero] at this
        exact this
theorem lives09 {k : Nat} (hk : 64 ≤ k) : factotumlaw09_lives.f k = some true := by
  have h : factotumlaw09_lives.f 64 = some true := by kernel_rfl
  obtain ⟨j, rfl⟩ : ∃ j, k = j + 64 := ⟨k - 64, by omega⟩
  induction j with
  | zero => exact h
  | succ j ih => rw [show j + 1 + 64 = (j + 64) + 1 by omega]; exact factotumlaw09_lives.mono _ _ (ih (by omega))
theorem sum_pairs (l : List Pr) : sumP l ≤ (l.map XA.wt43).sum := by
  induction l with
  | nil => exact Nat.le_refl _
  | cons p l ih =>
    have e : XA.wt43 p = (p.f0.size + 1) + (p.f1.size + 1) + 1 := rfl
    rw [sumP_cons, List.map_cons, List.sum_cons, e]; unfold wp; omega
theorem sum_keys (l : List ByteArray) : sumK l ≤ 3 * (l.map XA.wt9).sum := by
  induction l with
  | nil => exact Nat.zero_le _
  | cons p l ih =>
    have e : XA.wt9 p = p.size + 1 := rfl
    rw [sumK_cons, List.map_cons, List.sum_cons, e]; unfold wk; omega
theorem sum_kids (l : List Int) : l.length ≤ (l.map XA.wt3).sum := by
  induction l with
  | nil => exact Nat.zero_le _
  | cons p l ih =>
    have e : XA.wt3 p = 1 := rfl
    rw [List.length_cons, List.map_cons, List.sum_cons, e]; omega
theorem bd_of (n : XA.S26) (h : XA.wt26 n ≤ 1048576) : Bd n.f1 n.f2 n.f3 := by
  have h1 := sum_pairs n.f1
  have h2 := sum_keys n.f2
  have h3 := sum_kids n.f3
  unfold XA.wt26 at h
  exact ⟨by omega, by omega, by omega⟩
end Go.Proofs.Ytokjbncjapndgaa.XN
