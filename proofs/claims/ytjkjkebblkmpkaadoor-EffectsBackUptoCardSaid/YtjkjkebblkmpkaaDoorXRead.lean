/- Bytes as records: effects and the document's answer. Plain laws over the printed functions. No conditions. -/
import Derived.Test.YtjkjkebblkmpkaaDoorXRec
namespace Go.Proofs.YtjkjkebblkmpkaaDoor.XRd
open Go.RowKit Go.Proofs.YtjkjkebblkmpkaaDoor.XW Go.Proofs.YtjkjkebblkmpkaaDoor.XLib Go.Proofs.YtjkjkebblkmpkaaDoor.PAll Go.Proofs.YtjkjkebblkmpkaaDoorW.PrintWords Go.Proofs.YtjkjkebblkmpkaaDoorW.PrintLast Go.Proofs.YtjkjkebblkmpkaaDoor.XP Go.Proofs.YtjkjkebblkmpkaaDoor.XV Go.Proofs.YtjkjkebblkmpkaaDoor.XE Go.Proofs.YtjkjkebblkmpkaaDoor.XRc
def q1 (l : List UInt8) (x : Int) : Int × List UInt8 × Int := numE l x 4
def q2 (l : List UInt8) (x : Int) : Int × List UInt8 × Int := numE (q1 l x).2.1 (q1 l x).2.2 1
def q3 (l : List UInt8) (x : Int) : Int × List UInt8 × Int := numE (q2 l x).2.1 (q2 l x).2.2 1
def q4 (l : List UInt8) (x : Int) : Int × List UInt8 × Int := numE (q3 l x).2.1 (q3 l x).2.2 1
abbrev Ans := Int × S24 × Int × Int × Int × Int × Int
def flat (t : Ans) : Int × Int × Int × ByteArray × Int × Int × Int × Int × Int := (t.1, t.2.1.f0, t.2.1.f1, t.2.1.f2, t.2.2.1, t.2.2.2.1, t.2.2.2.2.1, t.2.2.2.2.2.1, t.2.2.2.2.2.2)
def fin (e : Int) (v : S24) (ok : Bool) (l : List UInt8) (x : Int) : Ans :=
  if ok = true then (if doneE (q4 l x).2.1 (q4 l x).2.2 = 0 then (if recR e v (q1 l x).1 (q2 l x).1 (q3 l x).1 (q4 l x).1 = true then (e, v, (q1 l x).1, (q2 l x).1, (q3 l x).1, (q4 l x).1, 0) else (0, ⟨0, 0, ⟨#[]⟩⟩, 0, 0, 0, 0, 10)) else (0, ⟨0, 0, ⟨#[]⟩⟩, 0, 0, 0, 0, 10)) else (0, ⟨0, 0, ⟨#[]⟩⟩, 0, 0, 0, 0, 10)
def h1 (l : List UInt8) : Int × List UInt8 × Int := numE l 0 1
def h2 (l : List UInt8) : Int × List UInt8 × Int := numE (h1 l).2.1 (h1 l).2.2 1
/-- the record of bytes -/
def readE (l : List UInt8) : Ans :=
  if (h2 l).1 = 1 then fin (h1 l).1 (getE (h2 l).2.1 (h2 l).2.2).1 (getE (h2 l).2.1 (h2 l).2.2).2.1 (getE (h2 l).2.1 (h2 l).2.2).2.2.1 (getE (h2 l).2.1 (h2 l).2.2).2.2.2
  else fin (h1 l).1 ⟨0, 0, ⟨#[]⟩⟩ (decide ((h2 l).1 ≤ 1)) (h2 l).2.1 (h2 l).2.2
theorem wr4 (l : List UInt8) (e : Int) : wrap64 (numE l e 4).1 = (numE l e 4).1 := by
  have := numE_bd l e 4 (by omega)
  rw [show ((256 ^ 4 : Nat) : Int) = 4294967296 from rfl] at this
  unfold wrap64; omega
theorem n1_bd (l : List UInt8) (e : Int) : 0 ≤ (numE l e 1).1 ∧ (numE l e 1).1 < 256 := by
  have := numE_bd l e 1 (by omega)
  rw [show ((256 ^ 1 : Nat) : Int) = 256 from rfl] at this
  exact this
theorem n1_i64 (l : List UInt8) (e : Int) : i64 (numE l e 1).1 := by have := n1_bd l e; unfold i64; omega
theorem getE_size (l : List UInt8) (e : Int) : (getE l e).1.f2.size ≤ 255 := by
  unfold getE
  split
  · exact Nat.zero_le _
  · simp only [B_size]; exact strE_len _ _ _
theorem p_fin (e : Int) (v : S24) (ok : Bool) (l : List UInt8) (x : Int) (hv : v.f2.size ≤ 1099511627776) {k : Nat} (hk : 5 ≤ k) :
    effects_Read.j0 k ok (B l) x e v.f0 v.f1 v.f2 0 0 0 0 = some (flat (fin e v ok l x)) := by
  obtain ⟨k, rfl⟩ : ∃ j, k = j + 1 := ⟨k - 1, by omega⟩
  simp only [effects_Read.j0]
  rw [show (4 : Int) = ((4 : Nat) : Int) from rfl, pRnum l x 4 (by omega), Option.bind_some]
  simp only
  rw [show (1 : Int) = ((1 : Nat) : Int) from rfl, pRnum _ _ 1 (by omega), Option.bind_some]
  simp only
  rw [pRnum _ _ 1 (by omega), Option.bind_some]
  simp only
  rw [pRnum _ _ 1 (by omega), Option.bind_some]
  simp only
  rw [wr4, kind_in, kind_in, kind_in, pRdone, Option.bind_some]
  simp only
  rw [p_right e v _ _ _ _ hv (n1_i64 _ _) (n1_i64 _ _) (n1_i64 _ _) (by omega), Option.bind_some]
  unfold fin q4 q3 q2 q1
  repeat' split
  all_goals first | rfl | (exfalso; simp_all; done)
theorem p_read (l : List UInt8) {k : Nat} (hk : 5 ≤ k) : effects_Read.f k (B l) = some (flat (readE l)) := by
  unfold effects_Read.f pack_From.f readE
  rw [Option.bind_some]
  simp only
  have one : (1 : Int) = ((1 : Nat) : Int) := rfl
  rw [show pack_Reader_Num.f (B l) 0 1 = _ from pRnum l 0 1 (by omega), Option.bind_some]
  simp only
  rw [show pack_Reader_Num.f (B (numE l 0 1).2.1) (numE l 0 1).2.2 1 = _ from pRnum _ _ 1 (by omega), Option.bind_some]
  simp only
  rw [kind_in]
  by_cases hh : (h2 l).1 = 1
  · have hh' := hh
    unfold h2 h1 at hh'
    rw [if_pos hh, if_pos hh', p_get, Option.bind_some]
    simp only
    exact p_fin _ _ _ _ _ (by have := getE_size (numE (numE l 0 1).2.1 (numE l 0 1).2.2 1).2.1 (numE (numE l 0 1).2.1 (numE l 0 1).2.2 1).2.2; omega) hk
  · have hh' := hh
    unfold h2 h1 at hh'
    rw [if_neg hh, if_neg hh']
    exact p_fin _ ⟨0, 0, ⟨#[]⟩⟩ _ _ _ (Nat.zero_le _) hk
theorem r_fin {S : ByteArray} (e : Int) (v : S24) (ok : Bool) (l : List UInt8) (x : Int) (he : wrap64 e = e) (hS : S.size < 140737488355328) (h : Suf S l) {k : Nat} (hk : 10 ≤ k) :
    factotumref17_Read.j0 k e ok S (pos S l) x 0 v.f0 v.f1 v.f2 0 0 0 0 = some (flat (fin e v ok l x)) := by
  obtain ⟨k, rfl⟩ : ∃ j, k = (j + 9) + 1 := ⟨k - 10, by omega⟩
  simp only [factotumref17_Read.j0]
  have s1 := h.step (numE_suf l x 4)
  have s2 : Suf S (q2 l x).2.1 := s1.step (numE_suf (numE l x 4).2.1 (numE l x 4).2.2 1)
  have s3 : Suf S (q3 l x).2.1 := s2.step (numE_suf (q2 l x).2.1 (q2 l x).2.2 1)
  have s4 : Suf S (q4 l x).2.1 := s3.step (numE_suf (q3 l x).2.1 (q3 l x).2.2 1)
  rw [show (4 : Int) = ((4 : Nat) : Int) from rfl, rRnum k x 4 (by omega) hS h, Option.bind_some]
  simp only
  rw [show (1 : Int) = ((1 : Nat) : Int) from rfl, rRnum k _ 1 (by omega) hS s1, Option.bind_some]
  simp only
  rw [show numE (numE l x 4).2.1 (numE l x 4).2.2 1 = q2 l x from rfl, rRnum k _ 1 (by omega) hS s2, Option.bind_some]
  simp only
  rw [show numE (q2 l x).2.1 (q2 l x).2.2 1 = q3 l x from rfl, rRnum k _ 1 (by omega) hS s3, Option.bind_some]
  simp only
  rw [show numE (q3 l x).2.1 (q3 l x).2.2 1 = q4 l x from rfl, rRdone _ hS s4, Option.bind_some]
  simp only
  rw [he, show wrap64 (numE l x 4).1 = (q1 l x).1 from wr4 _ _, show wrap64 (q2 l x).1 = (q2 l x).1 from kind_in _ _, show wrap64 (q3 l x).1 = (q3 l x).1 from kind_in _ _, show wrap64 (q4 l x).1 = (q4 l x).1 from kind_in _ _, r_right, Option.bind_some]
  unfold fin
  repeat' split
  all_goals first | rfl | (exfalso; simp_all; done)
theorem r_read (l : List UInt8) (hl : l.length < 140737488355328) {k : Nat} (hk : 10 ≤ k) : factotumref17_Read.f k (B l) = some (flat (readE l)) := by
  obtain ⟨k, rfl⟩ : ∃ j, k = j + 9 := ⟨k - 9, by omega⟩
  unfold factotumref17_Read.f readE
  have s0 : Suf (B l) l := ⟨[], rfl⟩
  have hp : pos (B l) l = 0 := by unfold pos; rw [B_size]; omega
  have hS : (B l).size < 140737488355328 := by rw [B_size]; exact hl
  have s1 : Suf (B l) (h1 l).2.1 := s0.step (numE_suf l 0 1)
  have s2 : Suf (B l) (h2 l).2.1 := s1.step (numE_suf (h1 l).2.1 (h1 l).2.2 1)
  have e1 := rRnum k 0 1 (by omega) hS s0
  rw [hp] at e1
  rw [show factotumref01_Reader_Num.f (k + 9) (B l) 0 0 1 = _ from e1, Option.bind_some]
  simp only
  rw [show numE l 0 1 = h1 l from rfl, show factotumref01_Reader_Num.f (k + 9) (B l) (pos (B l) (h1 l).2.1) (h1 l).2.2 1 = _ from rRnum k _ 1 (by omega) hS s1, Option.bind_some]
  simp only
  rw [show numE (h1 l).2.1 (h1 l).2.2 1 = h2 l from rfl]
  by_cases hh : (h2 l).1 = 1
  · rw [if_pos hh, if_pos hh, r_next k _ hS s2, Option.bind_some]
    simp only
    exact r_fin _ _ _ _ _ (kind_in _ _) hS (s2.step (getE_suf _ _)) hk
  · rw [if_neg hh, if_neg hh, show decide ((h2 l).1 < 2) = decide ((h2 l).1 ≤ 1) from by congr 1; exact propext ⟨fun h => by omega, fun h => by omega⟩]
    exact r_fin _ ⟨0, 0, ⟨#[]⟩⟩ _ _ _ (kind_in _ _) hS s2 hk
theorem num_inv (l : List UInt8) (x : Int) (w : Nat) (hw : w ≤ 8) (h : (numE l x w).2.2 = 0) : x = 0 ∧ l = beN w (numE l x w).1 ++ (numE l x w).2.1 := by
  unfold numE at h ⊢
  by_cases hx : x = 0
  · rw [if_pos hx] at h ⊢
    by_cases hl : l.length < w
    · rw [if_pos hl] at h; cases h
    · rw [if_neg hl]
      refine ⟨hx, ?_⟩
      have e := beN_beNum (l.take w) (by rw [List.length_take]; omega)
      rw [List.length_take, Nat.min_eq_left (by omega)] at e
      simp only
      rw [e, List.take_append_drop]
  · rw [if_neg hx] at h; exact absurd h hx
theorem byt_of (n : Int) (h : 0 ≤ n ∧ n < 256) : beN 1 n = [byt n] := by
  rw [← byt_u n, wrapu, show n % 18446744073709551616 = n by omega]
theorem strE_err (l : List UInt8) (e : Int) (m : Nat) (h : (strE l e m).2.2 = 0) : e = 0 := by
  by_cases he : e = 0
  · exact he
  · unfold strE at h
    rw [if_neg he] at h; exact h
theorem getE_err (l : List UInt8) (e : Int) (h : (getE l e).2.1 = true) : e = 0 := by
  unfold getE at h
  split at h
  · simp only [Bool.and_eq_true, decide_eq_true_eq] at h
    exact (num_inv _ _ 1 (by omega) (num_inv _ _ 8 (by omega) h.1).1).1
  · simp only [Bool.and_eq_true, decide_eq_true_eq] at h
    exact (num_inv _ _ 1 (by omega) (strE_err _ _ _ h.1)).1
theorem done_inv (l : List UInt8) (e : Int) (h : doneE l e = 0) : e = 0 ∧ l = [] := by
  unfold doneE at h
  by_cases he : e = 0
  · rw [if_pos he] at h
    by_cases hl : l = []
    · exact ⟨he, hl⟩
    · rw [if_neg hl] at h; cases h
  · rw [if_neg he] at h; exact absurd h he
/-- the read record's rest is just what is written -/
theorem fin_inv (e : Int) (v : S24) (ok : Bool) (l : List UInt8) (x : Int) (h : (fin e v ok l x).2.2.2.2.2.2 = 0) :
    ok = true ∧ x = 0 ∧ ∃ sl p o d, fin e v ok l x = (e, v, sl, p, o, d, 0) ∧ recR e v sl p o d = true ∧ l = beN 4 (IntKind.u64.wrap sl) ++ [byt p, byt o, byt d] ∧ i64 p ∧ i64 o ∧ i64 d := by
  unfold fin at h ⊢
  by_cases h1 : ok = true
  · rw [if_pos h1] at h ⊢
    by_cases h2 : doneE (q4 l x).2.1 (q4 l x).2.2 = 0
    · rw [if_pos h2] at h ⊢
      by_cases h3 : recR e v (q1 l x).1 (q2 l x).1 (q3 l x).1 (q4 l x).1 = true
      · rw [if_pos h3]
        obtain ⟨a4, b4⟩ := done_inv _ _ h2
        obtain ⟨a3, b3⟩ := num_inv _ _ 1 (by omega) a4
        obtain ⟨a2, b2⟩ := num_inv _ _ 1 (by omega) a3
        obtain ⟨a1, b1⟩ := num_inv _ _ 1 (by omega) a2
        obtain ⟨a0, b0⟩ := num_inv _ _ 4 (by omega) a1
        refine ⟨h1, a0, _, _, _, _, rfl, h3, ?_, n1_i64 _ _, n1_i64 _ _, n1_i64 _ _⟩
        have hs := numE_bd l x 4 (by omega)
        rw [show ((256 ^ 4 : Nat) : Int) = 4294967296 from rfl] at hs
        have c3 : (q3 l x).2.1 = beN 1 (q4 l x).1 ++ (q4 l x).2.1 := b3
        have c2 : (q2 l x).2.1 = beN 1 (q3 l x).1 ++ (q3 l x).2.1 := b2
        have c1 : (q1 l x).2.1 = beN 1 (q2 l x).1 ++ (q2 l x).2.1 := b1
        have c0 : l = beN 4 (q1 l x).1 ++ (q1 l x).2.1 := b0
        have y4 : beN 1 (q4 l x).1 = [byt (q4 l x).1] := byt_of _ (n1_bd _ _)
        have y3 : beN 1 (q3 l x).1 = [byt (q3 l x).1] := byt_of _ (n1_bd _ _)
        have y2 : beN 1 (q2 l x).1 = [byt (q2 l x).1] := byt_of _ (n1_bd _ _)
        rw [y4, b4] at c3
        rw [y3, c3] at c2
        rw [y2, c2] at c1
        rw [c1] at c0
        have hw : IntKind.u64.wrap (q1 l x).1 = (q1 l x).1 := by rw [wrapu]; have : 0 ≤ (q1 l x).1 ∧ (q1 l x).1 < 4294967296 := hs; omega
        rw [hw]
        exact c0
      · rw [if_neg h3] at h; cases h
    · rw [if_neg h2] at h; cases h
  · rw [if_neg h1] at h; cases h
/-- what is read is just what is written -/
theorem readE_inv (l : List UInt8) (h : (readE l).2.2.2.2.2.2 = 0) :
    ∃ e v sl p o d, readE l = (e, v, sl, p, o, d, 0) ∧ recR e v sl p o d = true ∧ l = recB e v sl p o d ∧ i64 p ∧ i64 o ∧ i64 d ∧ v.f2.size ≤ 255 := by
  unfold readE at h ⊢
  by_cases hh : (h2 l).1 = 1
  · rw [if_pos hh] at h ⊢
    obtain ⟨g1, g2, sl, p, o, d, f1, f2, f3, f4, f5, f6⟩ := fin_inv _ _ _ _ _ h
    have g3 := getE_err _ _ g1
    obtain ⟨a1, b1⟩ := num_inv _ _ 1 (by omega) g3
    obtain ⟨_, b0⟩ := num_inv _ _ 1 (by omega) a1
    have c1 : (h1 l).2.1 = beN 1 (h2 l).1 ++ (h2 l).2.1 := b1
    have c0 : l = beN 1 (h1 l).1 ++ (h1 l).2.1 := b0
    rw [g3] at g1
    obtain ⟨_, i2, i3, _⟩ := getE_inv _ g1
    refine ⟨_, _, sl, p, o, d, f1, f2, ?_, f4, f5, f6, getE_size _ _⟩
    have g3' : (h2 l).2.2 = 0 := g3
    rw [g3'] at f3 ⊢
    have hk : ¬ (getE (h2 l).2.1 0).1.f0 = 0 := by rcases ok_cases _ i2 with h | h <;> omega
    unfold recB
    rw [if_neg hk]
    have y2 : beN 1 (h2 l).1 = [byt (h2 l).1] := byt_of _ (n1_bd _ _)
    have y1 : beN 1 (h1 l).1 = [byt (h1 l).1] := byt_of _ (n1_bd _ _)
    rw [y1] at c0
    rw [y2] at c1
    rw [f3] at i3
    rw [i3, hh, show byt 1 = 1 from rfl] at c1
    rw [c1] at c0
    simpa using c0
  · rw [if_neg hh] at h ⊢
    obtain ⟨g1, g2, sl, p, o, d, f1, f2, f3, f4, f5, f6⟩ := fin_inv _ _ _ _ _ h
    have g3' : (h2 l).2.2 = 0 := g2
    obtain ⟨a1, b1⟩ := num_inv _ _ 1 (by omega) g3'
    obtain ⟨_, b0⟩ := num_inv _ _ 1 (by omega) a1
    have c1 : (h1 l).2.1 = beN 1 (h2 l).1 ++ (h2 l).2.1 := b1
    have c0 : l = beN 1 (h1 l).1 ++ (h1 l).2.1 := b0
    refine ⟨_, _, sl, p, o, d, f1, f2, ?_, f4, f5, f6, Nat.zero_le _⟩
    have hz : (h2 l).1 = 0 := by have g := of_decide_eq_true g1; have := n1_bd (h1 l).2.1 (h1 l).2.2; have : 0 ≤ (h2 l).1 := this.1; omega
    unfold recB
    rw [if_pos rfl]
    have y2 : beN 1 (h2 l).1 = [byt (h2 l).1] := byt_of _ (n1_bd _ _)
    have y1 : beN 1 (h1 l).1 = [byt (h1 l).1] := byt_of _ (n1_bd _ _)
    rw [y1] at c0
    rw [y2] at c1
    rw [f3, hz, show byt 0 = 0 from rfl] at c1
    rw [c1] at c0
    simpa using c0
/-- what is written is read again -/
theorem readE_rec (e : Int) (v : S24) (sl p o d : Int) (h : recR e v sl p o d = true) (hn : -9223372036854775808 ≤ v.f1 ∧ v.f1 < 9223372036854775808) : readE (recB e v sl p o d) = (e, v, sl, p, o, d, 0) := by
  have hr := h
  unfold recR cnt at hr
  simp only [Bool.and_eq_true, decide_eq_true_eq] at hr
  obtain ⟨he, hv, hs, hp, ho, hd⟩ := hr
  have bb : ∀ n : Int, 0 ≤ n ∧ n ≤ 255 → ((byt n).toNat : Int) = n := fun n hn => by unfold byt; rw [bback]; omega
  have F : fin e v true (beN 4 (IntKind.u64.wrap sl) ++ [byt p, byt o, byt d]) 0 = (e, v, sl, p, o, d, 0) := by
    have w4 : IntKind.u64.wrap sl = sl := by rw [wrapu]; omega
    have e1 : q1 (beN 4 (IntKind.u64.wrap sl) ++ [byt p, byt o, byt d]) 0 = (sl, [byt p, byt o, byt d], 0) := by
      unfold q1
      rw [numE_app _ _ 4 (beN_len 4 _), beNum_beN 4 _ (by omega) (by rw [w4]; omega) (by rw [w4, show ((256 ^ 4 : Nat) : Int) = 4294967296 from rfl]; omega), w4]
    have e2 : q2 (beN 4 (IntKind.u64.wrap sl) ++ [byt p, byt o, byt d]) 0 = (p, [byt o, byt d], 0) := by
      unfold q2; rw [e1]; simp only; rw [numE_one, bb p hp]
    have e3 : q3 (beN 4 (IntKind.u64.wrap sl) ++ [byt p, byt o, byt d]) 0 = (o, [byt d], 0) := by
      unfold q3; rw [e2]; simp only; rw [numE_one, bb o ho]
    have e4 : q4 (beN 4 (IntKind.u64.wrap sl) ++ [byt p, byt o, byt d]) 0 = (d, [], 0) := by
      unfold q4; rw [e3]; simp only; rw [numE_one, bb d hd]
    unfold fin
    rw [e1, e2, e3, e4, if_pos rfl]
    simp only
    rw [show doneE [] 0 = 0 from rfl, if_pos rfl, if_pos h]
  unfold recB
  unfold readE
  by_cases h0 : v.f0 = 0
  · rw [if_pos h0]
    have a1 : h1 (byt e :: ([0] ++ beN 4 (IntKind.u64.wrap sl) ++ [byt p, byt o, byt d])) = (e, [0] ++ beN 4 (IntKind.u64.wrap sl) ++ [byt p, byt o, byt d], 0) := by
      unfold h1; rw [numE_one, bb e (by omega)]
    have a2 : h2 (byt e :: ([0] ++ beN 4 (IntKind.u64.wrap sl) ++ [byt p, byt o, byt d])) = (0, beN 4 (IntKind.u64.wrap sl) ++ [byt p, byt o, byt d], 0) := by
      unfold h2; rw [a1]; simp only [List.cons_append, List.nil_append]; rw [numE_one]; rfl
    rw [a2, a1, if_neg (show ¬ ((0 : Int) = 1) by decide)]
    have hz : v = ⟨0, 0, ⟨#[]⟩⟩ := by
      have z : zeroV v = true := by
        rcases Bool.or_eq_true _ _ ▸ hv with z | z
        · exact z
        · rcases ok_cases _ z with q | q <;> omega
      unfold zeroV at z
      simp only [Bool.and_eq_true, beq_iff_eq] at z
      exact eq_mk v z.1 z.2.1 (ext (by have := z.2.2; rw [Lib.toList_data] at this; exact this))
    rw [← hz]
    exact F
  · rw [if_neg h0]
    have a1 : h1 (byt e :: (1 :: encE v ++ beN 4 (IntKind.u64.wrap sl) ++ [byt p, byt o, byt d])) = (e, 1 :: encE v ++ beN 4 (IntKind.u64.wrap sl) ++ [byt p, byt o, byt d], 0) := by
      unfold h1; rw [numE_one, bb e (by omega)]
    have a2 : h2 (byt e :: (1 :: encE v ++ beN 4 (IntKind.u64.wrap sl) ++ [byt p, byt o, byt d])) = (1, encE v ++ (beN 4 (IntKind.u64.wrap sl) ++ [byt p, byt o, byt d]), 0) := by
      unfold h2; rw [a1]; simp only [List.cons_append, List.append_assoc]; rw [numE_one]; rfl
    rw [a2, a1, if_pos rfl]
    simp only
    rw [getE_enc v _ (rec_ok h h0) hn]
    exact F
theorem readE_size (l : List UInt8) : (readE l).2.1.f2.size ≤ 255 := by
  unfold readE fin
  repeat' split
  all_goals first | exact getE_size _ _ | exact Nat.zero_le _
theorem recB_le (e : Int) (v : S24) (sl p o d : Int) (h : recR e v sl p o d = true) : (recB e v sl p o d).length ≤ 40 := by
  unfold recB
  by_cases h0 : v.f0 = 0
  · rw [if_pos h0]; simp [beN_len]
  · rw [if_neg h0]
    have : (encE v).length ≤ 12 := by
      unfold encE
      rcases ok_cases _ (rec_ok h h0) with q | q
      · rw [if_pos q.1]; simp [beN_len]
      · rw [if_neg (by omega)]
        have : v.f2.data.toList.length = v.f2.size := (Lib.size_eq _).symm
        simp; omega
    simp [beN_len]; omega
end Go.Proofs.YtjkjkebblkmpkaaDoor.XRd
