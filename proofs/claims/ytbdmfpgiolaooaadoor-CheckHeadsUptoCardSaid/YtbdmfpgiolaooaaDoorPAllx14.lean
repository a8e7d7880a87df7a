/- Printed walks of the functions that the laws reach: each function, what it computes, and that it does. No conditions. -/
import Derived.Test.YtbdmfpgiolaooaaDoorPAllx0
import Derived.Test.YtbdmfpgiolaooaaDoorPAllx3
import Derived.Test.YtbdmfpgiolaooaaDoorPAllx13
namespace Go.Proofs.YtbdmfpgiolaooaaDoor.PAll
open Go.RowKit Go.Proofs.YtbdmfpgiolaooaaDoor.XW Go.Proofs.YtbdmfpgiolaooaaDoor.XLib Go.Proofs.YtbdmfpgiolaooaaDoorW.PrintWords Go.Proofs.YtbdmfpgiolaooaaDoorW.PrintLast Go.Proofs.YtbdmfpgiolaooaaDoorW.PrintMore
attribute [local go_sem] max2_int min2_int max_two min_two max_three min_three max_four min_four   -- for this text's walks alone
set_option linter.unusedVariables false
set_option linter.unusedSimpArgs false

/-! ### check_Registers: function 14 -/
def check_Registers.f (a0_0 a0_1 a0_2 a0_3 a0_4 a0_5 : Int) (a0_6 : ByteArray) : Option (List Int) := (code_Operands.f a0_0).bind fun t => some (([a0_1, a0_2, a0_3].take t.1.toNat).drop (if a0_0 = 9 ∨ a0_0 = 10 ∨ a0_0 = 16 then 1 else 0))
theorem check_Registers.q (w : World) (g : Nat) (off n : Nat) (a b c : Int) (base : Nat) (hg : base ≤ g) (hb : w.heap[g]? = some (.cells #[.int .i64 a, .int .i64 b, .int .i64 c] 3 (0, 0))) (h : off + n ≤ 3) :
    Kd.Q (Kd.int .i64) 3 w base (fun _ => True) (.slice (some ⟨g, off, none⟩) n (3 - off)) (([a, b, c].drop off).take n) := by
  have hn : (([a, b, c].drop off).take n).length = n := by simp; omega
  refine ⟨fun _ _ => trivial, (([a, b, c].drop off).take n).map (Value.int .i64), ⟨by rw [List.length_map]; show _ = _ * 1; omega, .inr ⟨g, off, 3 - off, #[.int .i64 a, .int .i64 b, .int .i64 c], ?_, hg, hb, ?_, ?_, ?_, ?_⟩⟩, ?_⟩
  · rw [hn]; show _ = Value.slice (some ⟨g, off * 1, none⟩) _ _; rw [Nat.mul_one]
  · omega
  · unfold maxLen; omega
  · show 3 = (off + (3 - off)) * 1; omega
  · show List.take (_ * 1) (List.drop (off * 1) [_, _, _]) = _
    rw [hn, Nat.mul_one, Nat.mul_one, List.map_take, List.map_drop]; rfl
  · refine ⟨by rw [List.length_map]; show _ = _ * 1; omega, fun j p hp => ?_⟩
    show (List.take 1 (List.drop (j * 1) _)) = [Value.int .i64 p]
    rw [Nat.mul_one]
    have h1 : (List.map (Value.int .i64) (([a, b, c].drop off).take n))[j]? = some (.int .i64 p) := by rw [List.getElem?_map, hp]; rfl
    obtain ⟨hlt, he⟩ := List.getElem?_eq_some_iff.1 h1
    rw [List.drop_eq_getElem_cons hlt, he]; rfl
def check_Registers.Post (w : World) (l : List Int) (e : Ending) (w' : World) : Prop := ∃ v0_ : Value, e = .returned (v0_) ∧ Kd.Q (Kd.int .i64) 3 w' w.heap.size (fun _ => True) v0_ l ∧ Below w.heap.size w w'
set_option maxHeartbeats 8000000 in
set_option maxRecDepth 100000 in
theorem check_Registers.walk (n : Nat) (ok aim : Bool) (a0_0 a0_1 a0_2 a0_3 a0_4 a0_5 : Int) (a0_6 : ByteArray) (w : World) (ho : code_Operands.f a0_0 = some ((n : Int), ok)) (hn : n = 0 ∨ n = 1 ∨ n = 2 ∨ n = 3) (ha : aim = decide (a0_0 = 9 ∨ a0_0 = 10 ∨ a0_0 = 16)) (hc : aim = true → 1 ≤ n) :
    Calls Tryd.prog 14 #[.agg #[.int .i64 a0_0, .int .i64 a0_1, .int .i64 a0_2, .int .i64 a0_3, .int .i64 a0_4, .int .i64 a0_5, .string a0_6]] w (check_Registers.Post w (([a0_1, a0_2, a0_3].drop (cond aim 1 0)).take (n - cond aim 1 0))) := by
  have HO := Aside0.mk ho
  have HB := Aside0.mk (Below.refl w.heap.size w)
  have HA := Aside0.mk ha
  have HC := Aside0.mk hc
  clear ho ha hc
  have huI := Tryd.underlying32
  obtain ⟨p, HP⟩ : ∃ p, Aside0 (check_aims.f a0_0 = some p) := by
    unfold check_aims.f
    by_cases h : a0_0 = 9
    · exact ⟨true, ⟨by rw [if_pos h]⟩⟩
    · exact ⟨_, ⟨by rw [if_neg h]⟩⟩
  have hc3 : (p = true ∧ aim = true) ∨ (p = false ∧ a0_0 = 16 ∧ aim = true) ∨ (p = false ∧ a0_0 ≠ 16 ∧ aim = false) := by
    have h1 := HP.out
    have h2 := HA.out
    unfold check_aims.f at h1
    by_cases c9 : a0_0 = 9
    · rw [if_pos c9] at h1
      left
      exact ⟨(Option.some.inj h1).symm, by rw [h2, decide_eq_true (Or.inl c9)]⟩
    · rw [if_neg c9] at h1
      have h3 := Option.some.inj h1
      by_cases c10 : a0_0 = 10
      · left
        exact ⟨by rw [← h3]; simp [c10], by rw [h2, decide_eq_true (Or.inr (Or.inl c10))]⟩
      · right
        have h4 : p = false := by rw [← h3]; simpa using c10
        by_cases c16 : a0_0 = 16
        · left; exact ⟨h4, c16, by rw [h2, decide_eq_true (Or.inr (Or.inr c16))]⟩
        · right; exact ⟨h4, c16, by rw [h2, decide_eq_false (by omega)]⟩
  have hm : aim = true ∧ 1 ≤ n ∨ aim = false := by
    cases aim with
    | true => exact .inl ⟨rfl, HC.out rfl⟩
    | false => exact .inr rfl
  clear HA HC
  rcases hc3 with ⟨rfl, rfl⟩ | ⟨rfl, h16, rfl⟩ | ⟨rfl, h16, rfl⟩
  · have hm : 1 ≤ n := by rcases hm with h | h
                          · exact h.2
                          · cases h
    rcases hn with rfl | rfl | rfl | rfl
    · omega
    all_goals
      clear hm
      go_enter Tryd.func14, Tryd.ntmps14
      go_wp2_with (first | ((with_reducible refine gate_dst (N := 1) rfl ?_); refine box_event ?hg (N := 1) ?hd (cs := #[.int .i64 a0_0, .int .i64 a0_1, .int .i64 a0_2, .int .i64 a0_3, .int .i64 a0_4, .int .i64 a0_5, .string a0_6]) (t := 32) ?hr ?_; (case hd => rfl); (case hg => rfl); (case hr => first | (go_simp; done) | (go_simp; rfl)); intro gb102 hg w4 hbox hb; have n0_ := Aside0.mk (below_step HB.out hb); have n1_ := Aside0.mk (hbox); have n2_ := Aside0.mk ((by rw [hg]; exact (below_size HB.out)) : w.heap.size ≤ gb102); clear HB; have HB := n0_; have BK102 := n1_; have GW102 := n2_; clear n0_ n1_ n2_; clear hb hbox hg; have hcz5_0 : w4.cell? ⟨gb102, 0, none⟩ = some (.int .i64 a0_0) := (blk_cell BK102.out 0).trans rfl; have hcz5_1 : w4.cell? ⟨gb102, 1, none⟩ = some (.int .i64 a0_1) := (blk_cell BK102.out 1).trans rfl; have hcz5_2 : w4.cell? ⟨gb102, 2, none⟩ = some (.int .i64 a0_2) := (blk_cell BK102.out 2).trans rfl; have hcz5_3 : w4.cell? ⟨gb102, 3, none⟩ = some (.int .i64 a0_3) := (blk_cell BK102.out 3).trans rfl) | (go_at_call 28; refine (code_Operands.calls a0_0 _ ok _ HO.out).mono ?_; rintro e w5 ⟨rfl, hb⟩; have n0_ := Aside0.mk (below_step HB.out hb); have n1_ := Aside0.mk (blk_below BK102.out hb); clear HB; have HB := n0_; have BK102 := n1_; clear n0_ n1_; clear hb; have hcz6_0 : w5.cell? ⟨gb102, 0, none⟩ = some (.int .i64 a0_0) := (blk_cell BK102.out 0).trans rfl; have hcz6_1 : w5.cell? ⟨gb102, 1, none⟩ = some (.int .i64 a0_1) := (blk_cell BK102.out 1).trans rfl; have hcz6_2 : w5.cell? ⟨gb102, 2, none⟩ = some (.int .i64 a0_2) := (blk_cell BK102.out 2).trans rfl; have hcz6_3 : w5.cell? ⟨gb102, 3, none⟩ = some (.int .i64 a0_3) := (blk_cell BK102.out 3).trans rfl; have hlt6 := blk_lt BK102.out; have hne6 := Nat.ne_of_lt hlt6) | (go_at_call 27; refine (check_aims.calls a0_0 _ _ HP.out).mono ?_; rintro e w6 ⟨rfl, ⟨nd, rfl⟩⟩))
      go_ret
      exact ⟨_, rfl, Kd.Q_drewN (check_Registers.q (w5.alloc _) w5.heap.size 1 _ a0_1 a0_2 a0_3 _ (below_size HB.out) (heap_alloc_last _ _) (by decide)) _, pw_below_drewN (below_alloc HB.out _) _⟩
  · have hm : 1 ≤ n := by rcases hm with h | h
                          · exact h.2
                          · cases h
    have c16 : (a0_0 == 16) = true := by simpa using h16
    clear h16
    rcases hn with rfl | rfl | rfl | rfl
    · omega
    all_goals
      clear hm
      go_enter Tryd.func14, Tryd.ntmps14
      go_wp2_with (first | ((with_reducible refine gate_dst (N := 1) rfl ?_); refine box_event ?hg (N := 1) ?hd (cs := #[.int .i64 a0_0, .int .i64 a0_1, .int .i64 a0_2, .int .i64 a0_3, .int .i64 a0_4, .int .i64 a0_5, .string a0_6]) (t := 32) ?hr ?_; (case hd => rfl); (case hg => rfl); (case hr => first | (go_simp; done) | (go_simp; rfl)); intro gb102 hg w4 hbox hb; have n0_ := Aside0.mk (below_step HB.out hb); have n1_ := Aside0.mk (hbox); have n2_ := Aside0.mk ((by rw [hg]; exact (below_size HB.out)) : w.heap.size ≤ gb102); clear HB; have HB := n0_; have BK102 := n1_; have GW102 := n2_; clear n0_ n1_ n2_; clear hb hbox hg; have hcz5_0 : w4.cell? ⟨gb102, 0, none⟩ = some (.int .i64 a0_0) := (blk_cell BK102.out 0).trans rfl; have hcz5_1 : w4.cell? ⟨gb102, 1, none⟩ = some (.int .i64 a0_1) := (blk_cell BK102.out 1).trans rfl; have hcz5_2 : w4.cell? ⟨gb102, 2, none⟩ = some (.int .i64 a0_2) := (blk_cell BK102.out 2).trans rfl; have hcz5_3 : w4.cell? ⟨gb102, 3, none⟩ = some (.int .i64 a0_3) := (blk_cell BK102.out 3).trans rfl) | (go_at_call 28; refine (code_Operands.calls a0_0 _ ok _ HO.out).mono ?_; rintro e w5 ⟨rfl, hb⟩; have n0_ := Aside0.mk (below_step HB.out hb); have n1_ := Aside0.mk (blk_below BK102.out hb); clear HB; have HB := n0_; have BK102 := n1_; clear n0_ n1_; clear hb; have hcz6_0 : w5.cell? ⟨gb102, 0, none⟩ = some (.int .i64 a0_0) := (blk_cell BK102.out 0).trans rfl; have hcz6_1 : w5.cell? ⟨gb102, 1, none⟩ = some (.int .i64 a0_1) := (blk_cell BK102.out 1).trans rfl; have hcz6_2 : w5.cell? ⟨gb102, 2, none⟩ = some (.int .i64 a0_2) := (blk_cell BK102.out 2).trans rfl; have hcz6_3 : w5.cell? ⟨gb102, 3, none⟩ = some (.int .i64 a0_3) := (blk_cell BK102.out 3).trans rfl; have hlt6 := blk_lt BK102.out; have hne6 := Nat.ne_of_lt hlt6) | (go_at_call 27; refine (check_aims.calls a0_0 _ _ HP.out).mono ?_; rintro e w6 ⟨rfl, ⟨nd, rfl⟩⟩))
      go_ret
      exact ⟨_, rfl, Kd.Q_drewN (check_Registers.q (w5.alloc _) w5.heap.size 1 _ a0_1 a0_2 a0_3 _ (below_size HB.out) (heap_alloc_last _ _) (by decide)) _, pw_below_drewN (below_alloc HB.out _) _⟩
  · clear hm
    have c16 : (a0_0 == 16) = false := by simpa using h16
    clear h16
    rcases hn with rfl | rfl | rfl | rfl
    all_goals
      go_enter Tryd.func14, Tryd.ntmps14
      go_wp2_with (first | ((with_reducible refine gate_dst (N := 1) rfl ?_); refine box_event ?hg (N := 1) ?hd (cs := #[.int .i64 a0_0, .int .i64 a0_1, .int .i64 a0_2, .int .i64 a0_3, .int .i64 a0_4, .int .i64 a0_5, .string a0_6]) (t := 32) ?hr ?_; (case hd => rfl); (case hg => rfl); (case hr => first | (go_simp; done) | (go_simp; rfl)); intro gb102 hg w4 hbox hb; have n0_ := Aside0.mk (below_step HB.out hb); have n1_ := Aside0.mk (hbox); have n2_ := Aside0.mk ((by rw [hg]; exact (below_size HB.out)) : w.heap.size ≤ gb102); clear HB; have HB := n0_; have BK102 := n1_; have GW102 := n2_; clear n0_ n1_ n2_; clear hb hbox hg; have hcz5_0 : w4.cell? ⟨gb102, 0, none⟩ = some (.int .i64 a0_0) := (blk_cell BK102.out 0).trans rfl; have hcz5_1 : w4.cell? ⟨gb102, 1, none⟩ = some (.int .i64 a0_1) := (blk_cell BK102.out 1).trans rfl; have hcz5_2 : w4.cell? ⟨gb102, 2, none⟩ = some (.int .i64 a0_2) := (blk_cell BK102.out 2).trans rfl; have hcz5_3 : w4.cell? ⟨gb102, 3, none⟩ = some (.int .i64 a0_3) := (blk_cell BK102.out 3).trans rfl) | (go_at_call 28; refine (code_Operands.calls a0_0 _ ok _ HO.out).mono ?_; rintro e w5 ⟨rfl, hb⟩; have n0_ := Aside0.mk (below_step HB.out hb); have n1_ := Aside0.mk (blk_below BK102.out hb); clear HB; have HB := n0_; have BK102 := n1_; clear n0_ n1_; clear hb; have hcz6_0 : w5.cell? ⟨gb102, 0, none⟩ = some (.int .i64 a0_0) := (blk_cell BK102.out 0).trans rfl; have hcz6_1 : w5.cell? ⟨gb102, 1, none⟩ = some (.int .i64 a0_1) := (blk_cell BK102.out 1).trans rfl; have hcz6_2 : w5.cell? ⟨gb102, 2, none⟩ = some (.int .i64 a0_2) := (blk_cell BK102.out 2).trans rfl; have hcz6_3 : w5.cell? ⟨gb102, 3, none⟩ = some (.int .i64 a0_3) := (blk_cell BK102.out 3).trans rfl; have hlt6 := blk_lt BK102.out; have hne6 := Nat.ne_of_lt hlt6) | (go_at_call 27; refine (check_aims.calls a0_0 _ _ HP.out).mono ?_; rintro e w6 ⟨rfl, ⟨nd, rfl⟩⟩))
      go_ret
      exact ⟨_, rfl, Kd.Q_drewN (check_Registers.q (w5.alloc _) w5.heap.size 0 _ a0_1 a0_2 a0_3 _ (below_size HB.out) (heap_alloc_last _ _) (by decide)) _, pw_below_drewN (below_alloc HB.out _) _⟩
theorem check_Registers.calls (a0_0 a0_1 a0_2 a0_3 a0_4 a0_5 : Int) (a0_6 : ByteArray) (r : List Int) (w : World) (h : check_Registers.f a0_0 a0_1 a0_2 a0_3 a0_4 a0_5 a0_6 = some r) :
    Calls Tryd.prog 14 #[.agg #[.int .i64 a0_0, .int .i64 a0_1, .int .i64 a0_2, .int .i64 a0_3, .int .i64 a0_4, .int .i64 a0_5, .string a0_6]] w fun e w' => ∃ v0_ : Value, e = .returned (v0_) ∧ Kd.Q (Kd.int .i64) 3 w' w.heap.size (fun _ => True) v0_ r ∧ Below w.heap.size w w' := by
  unfold check_Registers.f at h
  obtain ⟨⟨n, ok⟩, ho, h⟩ := Option.bind_eq_some_iff.1 h
  obtain rfl := Option.some.inj h
  have h0 : n = (if 0 < a0_0 ∧ a0_0 ≤ 19 then (code_Operands.n a0_0, true) else (0, false)).1 := by
    unfold code_Operands.f at ho
    exact (congrArg Prod.fst (Option.some.inj ho)).symm
  have hn : n = 0 ∨ n = 1 ∨ n = 2 ∨ n = 3 := by
    rw [h0]
    unfold code_Operands.n
    (repeat' split) <;> simp
  have ha : a0_0 = 9 ∨ a0_0 = 10 ∨ a0_0 = 16 → 1 ≤ n := by
    intro ha
    rw [h0]
    rcases ha with rfl | rfl | rfl <;> decide
  obtain ⟨m, rfl⟩ : ∃ m : Nat, n = m := ⟨n.toNat, by omega⟩
  have := check_Registers.walk m ok (decide (a0_0 = 9 ∨ a0_0 = 10 ∨ a0_0 = 16)) a0_0 a0_1 a0_2 a0_3 a0_4 a0_5 a0_6 w ho (by omega) rfl (fun h => by have := ha (of_decide_eq_true h); omega)
  refine this.mono ?_
  rintro e w' ⟨v, he, hq, hb⟩
  refine ⟨v, he, ?_, hb⟩
  have e1 : ((([a0_1, a0_2, a0_3].take (m : Int).toNat)).drop (if a0_0 = 9 ∨ a0_0 = 10 ∨ a0_0 = 16 then 1 else 0)) = ([a0_1, a0_2, a0_3].drop (cond (decide (a0_0 = 9 ∨ a0_0 = 10 ∨ a0_0 = 16)) 1 0)).take (m - cond (decide (a0_0 = 9 ∨ a0_0 = 10 ∨ a0_0 = 16)) 1 0) := by
    rw [List.drop_take, Int.toNat_natCast]
    by_cases h : a0_0 = 9 ∨ a0_0 = 10 ∨ a0_0 = 16
    · rw [if_pos h, decide_eq_true h]; rfl
    · rw [if_neg h, decide_eq_false h]; rfl
  simp only
  rw [e1]
  exact hq

end Go.Proofs.YtbdmfpgiolaooaaDoor.PAll
