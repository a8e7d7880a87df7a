/- Printed walks of the functions that the laws reach: each function, what it computes, and that it does. No conditions. -/
import Derived.Test.YtjkjkebblkmpkaaDoorPAllx0
import Derived.Test.YtjkjkebblkmpkaaDoorPAllx2
namespace Go.Proofs.YtjkjkebblkmpkaaDoor.PAll
open Go.RowKit Go.Proofs.YtjkjkebblkmpkaaDoor.XW Go.Proofs.YtjkjkebblkmpkaaDoor.XLib Go.Proofs.YtjkjkebblkmpkaaDoorW.PrintWords Go.Proofs.YtjkjkebblkmpkaaDoorW.PrintLast Go.Proofs.YtjkjkebblkmpkaaDoorW.PrintMore
attribute [local go_sem] max2_int min2_int max_two min_two max_three min_three max_four min_four   -- for this text's walks alone
set_option linter.unusedVariables false
set_option linter.unusedSimpArgs false

/-! ### keys_Write: function 40 -/
/-- may a value not be? -/
def oddV (v : S24) : Bool := if v.f0 = 1 then v.f2.toList != [] else if v.f0 = 2 then v.f1 != 0 else true
theorem odd_val (v : S24) : keys_odd.f v.f0 v.f1 v.f2 = some (oddV v) := by
  unfold keys_odd.f oddV; (repeat' split) <;> first | rfl | omega
theorem rd39_at (l : List S24) (i : Nat) (h : i < l.length) : rd_T24 l (i : Int) = l[i] := by
  unfold rd_T24; rw [Int.toNat_natCast, List.getD_eq_getElem?_getD, List.getElem?_eq_getElem h]; rfl
theorem index_odd (l : List S24) (hl : l.length ≤ 140737488355328) : ∀ m i : Nat, i + m = l.length →
    ∃ r, slices_IndexFunc_at_keys_odd.l0 (m + 1) l (l.length : Int) (i : Int) = some r ∧ decide (r ≥ 0) = (l.drop i).any oddV := by
  intro m
  induction m with
  | zero =>
    intro i hi
    refine ⟨-1, ?_, ?_⟩
    · simp only [slices_IndexFunc_at_keys_odd.l0]; rw [if_neg (by omega)]
    · rw [List.drop_eq_nil_of_le (by omega)]; rfl
  | succ m ih =>
    intro i hi
    have hlt : i < l.length := by omega
    simp only [slices_IndexFunc_at_keys_odd.l0]
    rw [if_pos (by omega), if_pos (by omega), if_pos (by omega), rd39_at l i hlt, odd_val, Option.bind_some]
    rw [List.drop_eq_getElem_cons hlt, List.any_cons]
    cases ho : oddV l[i] with
    | true => exact ⟨(i : Int), if_pos rfl, by simp⟩
    | false =>
      rw [if_neg (by decide), IntWalk.wrap64_in _ ⟨by omega, by omega⟩]
      obtain ⟨r, h1, h2⟩ := ih (i + 1) (by omega)
      exact ⟨r, by rw [← h1]; rfl, by rw [h2]; simp⟩
theorem contains_odd (l : List S24) (hl : l.length ≤ 140737488355328) : slices_ContainsFunc_at_keys_odd.f (l.length + 1) l = some (l.any oddV) := by
  obtain ⟨r, h1, h2⟩ := index_odd l hl l.length 0 (by omega)
  unfold slices_ContainsFunc_at_keys_odd.f slices_IndexFunc_at_keys_odd.f
  rw [show (0 : Int) = ((0 : Nat) : Int) from rfl, h1, Option.bind_some]
  exact congrArg some (h2.trans (by simp))
/-- a number's eight bytes -/
def be8 (n : Int) : List UInt8 := [56, 48, 40, 32, 24, 16, 8, 0].map fun i : Int => UInt8.ofNat ((shr .u64 n i) % 256).toNat
theorem byte_back (x : Int) : ((UInt8.ofNat (x % 256).toNat).toNat : Int) = x % 256 := by
  have := Int.emod_nonneg x (show (256 : Int) ≠ 0 by decide)
  have := Int.emod_lt_of_pos x (show (0 : Int) < 256 by decide)
  rw [UInt8.toNat_ofNat']; omega
theorem bi_be8 (n : Int) : bi (be8 n) = [(shr .u64 n 56) % 256, (shr .u64 n 48) % 256, (shr .u64 n 40) % 256, (shr .u64 n 32) % 256, (shr .u64 n 24) % 256, (shr .u64 n 16) % 256, (shr .u64 n 8) % 256, (shr .u64 n 0) % 256] := by
  simp only [bi, be8, List.map_cons, List.map_nil, byte_back]
theorem pack8_go (x : List Int) (n : Int) (j : Nat) (k : Nat) (hj : j < 8) (hx : x.length < 140737488355328) :
    pack_Num.l0 (k + 1) x n (j : Int) = pack_Num.l0 k (x ++ [(shr .u64 n (8 * (j : Int))) % 256]) n ((j : Int) - 1) := by
  simp only [pack_Num.l0]
  rw [if_pos (by omega), IntWalk.wrap64_in (8 * (j : Int)) ⟨by omega, by omega⟩, if_pos (by omega), if_pos hx, IntWalk.wrap64_in ((j : Int) - 1) ⟨by omega, by omega⟩]
theorem pack8 (x : List Int) (n : Int) (hx : x.length + 8 ≤ 140737488355328) : pack_Num.f 9 x n 8 = some (x ++ bi (be8 n)) := by
  have h0 : pack_Num.f 9 x n 8 = pack_Num.l0 9 x n ((7 : Nat) : Int) := by
    unfold pack_Num.f pack_wide.f; rw [Option.bind_some]; rw [show wrap64 (mn (mx 8 1) 8 - 1) = ((7 : Nat) : Int) from by unfold mn mx; simp [wrap64]]
  have step : ∀ (y : List Int) (j k : Nat), j < 8 → y.length < 140737488355328 → pack_Num.l0 (k + 1) y n (j : Int) = pack_Num.l0 k (y ++ [(shr .u64 n (8 * (j : Int))) % 256]) n ((j : Int) - 1) := fun y j k h1 h2 => pack8_go y n j k h1 h2
  rw [h0, step _ 7 8 (by omega) (by omega)]
  rw [show ((7 : Nat) : Int) - 1 = ((6 : Nat) : Int) from rfl, step _ 6 7 (by omega) (by simp; omega)]
  rw [show ((6 : Nat) : Int) - 1 = ((5 : Nat) : Int) from rfl, step _ 5 6 (by omega) (by simp; omega)]
  rw [show ((5 : Nat) : Int) - 1 = ((4 : Nat) : Int) from rfl, step _ 4 5 (by omega) (by simp; omega)]
  rw [show ((4 : Nat) : Int) - 1 = ((3 : Nat) : Int) from rfl, step _ 3 4 (by omega) (by simp; omega)]
  rw [show ((3 : Nat) : Int) - 1 = ((2 : Nat) : Int) from rfl, step _ 2 3 (by omega) (by simp; omega)]
  rw [show ((2 : Nat) : Int) - 1 = ((1 : Nat) : Int) from rfl, step _ 1 2 (by omega) (by simp; omega)]
  rw [show ((1 : Nat) : Int) - 1 = ((0 : Nat) : Int) from rfl, step _ 0 1 (by omega) (by simp; omega)]
  simp only [pack_Num.l0]
  rw [if_neg (by decide), bi_be8]
  simp only [List.append_assoc, List.cons_append, List.nil_append]
  rfl
/-- a value's bytes -/
def encV (v : S24) : List UInt8 := if v.f0 = 1 then 1 :: be8 (Go.bits .xor .u64 (IntKind.u64.wrap v.f1) 9223372036854775808) else 2 :: (esc v.f2.data.toList ++ [0, 1])
def encL (l : List S24) : List UInt8 := l.flatMap encV
def keys_Write.f (l0 : List S24) : Option (ByteArray × Int) :=
  if l0.length ≤ 140737488355328 then (if l0.any oddV = true then some (⟨#[]⟩, 6) else if (encL l0).length ≤ 70368744177000 then some (⟨(encL l0).toArray⟩, 0) else none) else none

theorem next_j (n j : Nat) (h : j < n) (hn : n ≤ 140737488355328) : wrap64 ((j : Int) + 1) = ((j + 1 : Nat) : Int) := (IntWalk.wrap64_in _ ⟨by omega, by omega⟩).trans (by omega)
theorem loop_less (n j : Nat) (h : j < n) (hn : n ≤ 140737488355328) : n - (intOf (.int .i64 (wrap64 ((j : Int) + 1)))).toNat < n - (intOf (.int .i64 (j : Int))).toNat := by
  rw [next_j n j h hn]; simp only [intOf, Int.toNat_natCast]; omega
theorem strOf_bi (l : List UInt8) : strOfNums (bi l) = ⟨l.toArray⟩ := by
  unfold strOfNums bi; rw [List.map_map]; congr 2
  conv => rhs; rw [← List.map_id l]
  apply List.map_congr_left; intro c _; simp
theorem take_enc (l : List S24) (j : Nat) (h : j < l.length) : encL (l.take (j + 1)) = encL (l.take j) ++ encV l[j] := by
  unfold encL; rw [List.take_add_one, List.getElem?_eq_getElem h, Option.toList_some, List.flatMap_append]; simp
theorem encL_take_le (l : List S24) (j : Nat) : (encL (l.take j)).length ≤ (encL l).length := by
  conv => rhs; rw [← List.take_append_drop j l]
  unfold encL; rw [List.flatMap_append, List.length_append]; omega
set_option maxHeartbeats 8000000 in
set_option maxRecDepth 100000 in
theorem keys_Write.calls (A0 : Option Addr) (c0 : Nat) (l0 : List (S24)) (r1 : ByteArray) (r2 : Int) (w : World) (hr0 : Kd.C k24 w A0 l0.length l0) (hc0 : l0.length ≤ c0) (h : keys_Write.f l0 = some (r1, r2)) :
    Calls Tryd.prog 40 #[.slice A0 l0.length c0] w fun e w' => e = .returned (.tuple #[.string r1, .int .i64 r2]) ∧ Below w.heap.size w w' := by
  have huV := Tryd.underlying24
  have HR0 := Aside0.mk hr0
  have HC0 := Aside0.mk hc0
  have HB := Aside0.mk (Below.refl w.heap.size w)
  unfold keys_Write.f at h
  split at h
  case isFalse => cases h
  rename_i hl
  have hany := Aside0.mk (contains_odd l0 hl)
  have HL := Aside0.mk hl
  clear hr0 hc0
  go_enter Tryd.func40, Tryd.ntmps40
  by_cases ho : l0.any oddV = true
  · rw [if_pos ho] at h
    simp only [Option.some.injEq, Prod.mk.injEq] at h
    obtain ⟨rfl, rfl⟩ := h
    rw [ho] at hany
    clear hl ho
    go_wp2_with (go_at_call 56; refine (slices_ContainsFunc_at_keys_odd.calls (l0.length + 1) A0 c0 l0 true _ (Kd.C_below HR0.out (by repeat (first | (with_reducible first | exact HB.out | apply below_alloc | apply pw_below_drewN | apply below_drew1) | exact HB.out))) HC0.out hany.out).mono ?_; rintro e w1 ⟨rfl, hb⟩)
    go_ret2
    exact ⟨rfl, by repeat (first | exact hb | apply below_alloc | apply pw_below_drewN | apply below_drew1)⟩
  · rw [if_neg ho] at h
    replace ho : l0.any oddV = false := by simpa using ho
    rw [ho] at hany
    split at h
    case isFalse => cases h
    rename_i hT
    simp only [Option.some.injEq, Prod.mk.injEq] at h
    obtain ⟨rfl, rfl⟩ := h
    have HT := Aside0.mk hT
    clear hl ho hT
    go_wp2_with (go_at_call 56; refine (slices_ContainsFunc_at_keys_odd.calls (l0.length + 1) A0 c0 l0 false _ (Kd.C_below HR0.out (by repeat (first | (with_reducible first | exact HB.out | apply below_alloc | apply pw_below_drewN | apply below_drew1) | exact HB.out))) HC0.out hany.out).mono ?_; rintro e w1 ⟨rfl, hb⟩)
    go_loopw [4, 11] (fun b x wx => ∃ j : Nat, j ≤ l0.length ∧ x = .int .i64 (j : Int) ∧ Aside0 (Kd.R (Kd.int .u8) 5 wx w.heap.size (fun _ => True) b (bi (encL (l0.take j)))) ∧ Aside0 (Below w.heap.size w wx)) (fun _ x _ => l0.length - (intOf x).toNat)
    case atStart => exact ⟨0, Nat.zero_le _, rfl, ⟨Kd.R_nil _ _ _ _ _⟩, ⟨by repeat (first | exact hb | apply below_alloc | apply pw_below_drewN | apply below_drew1)⟩⟩
    case round =>
      obtain ⟨j, hj, rfl, HO, HBr⟩ := hrel
      by_cases hlt : j < l0.length
      · have p0 : 0 ≤ (j : Int) := by omega
        have q0 : (j : Int) < (l0.length : Int) := by omega
        obtain ⟨ad, e1, hx0, hx1, hx2⟩ := at_T24 HR0.out (j : Int) p0 q0
        cases e1
        rw [rd39_at l0 j hlt] at hx0 hx1 hx2
        obtain ⟨v, hv⟩ : ∃ v, l0[j] = v := ⟨_, rfl⟩
        rw [hv] at hx0 hx1 hx2
        have HN := Aside0.mk (take_enc l0 j hlt)
        rw [hv] at HN
        clear hv
        rw [Int.toNat_natCast] at hx0 hx1 hx2
        replace hx0 := (HBr.out.cell (World.block_lt_of_cell? w _ hx0)).trans hx0
        replace hx1 := (HBr.out.cell (World.block_lt_of_cell? w _ hx1)).trans hx1
        replace hx2 := (HBr.out.cell (World.block_lt_of_cell? w _ hx2)).trans hx2
        by_cases h1 : v.f0 = 1
        · have h1b : (v.f0 == 1) = true := beq_iff_eq.mpr h1
          go_wp2_with fail
          generalize hW0 : wr.alloc (Obj.cells #[Value.int IntKind.i64 1, Value.int IntKind.i64 v.f1, Value.string v.f2] 24) = W0
          have hc1 : W0.cell? ⟨wr.heap.size, 1, none⟩ = some (.int .i64 v.f1) := by rw [← hW0]; simp [go_sem]
          have HOw : Aside0 (Kd.R (Kd.int .u8) 5 W0 w.heap.size (fun k => k ≠ wr.heap.size) u4 (bi (encL (l0.take j)))) := ⟨by
            rw [← hW0]; exact Kd.R_alloc (Kd.R_of_own (Kd.own_of_R HO.out) (fun k hk => Nat.ne_of_lt (Kd.R_lt HO.out k hk))) _⟩
          have HBw : Aside0 (Below w.heap.size w W0) := ⟨by rw [← hW0]; exact below_alloc HBr.out _⟩
          have hlt0 : wr.heap.size < W0.heap.size := by rw [← hW0]; simp
          have hbr := HBr.out.size
          have hlen : (bi (encL (l0.take j))).length ≤ 70368744177000 := by rw [bi_len]; exact Nat.le_trans (encL_take_le l0 j) HT.out
          have HP := Aside0.mk (pack8 (bi (encL (l0.take j)) ++ bi [1]) (Go.bits .xor .u64 (IntKind.u64.wrap v.f1) 9223372036854775808) (by rw [List.length_append, bi_len [1]]; simp; omega))
          clear hW0 hx0 hx1 hx2
          go_region_held3 (fun w' => w'.cell? ⟨wr.heap.size, 1, none⟩ = some (.int .i64 v.f1)) (first | exact hc1 | exact (World.cell?_alloc_lt _ _ _ hlt0).trans hc1 | exact hcA | exact (World.cell?_alloc_lt _ _ _ hltA).trans hcA | exact hcB) (first | (refine R_lies_step w.heap.size (by rfl) _ _ 60 5 (by rfl) Tryd.underlying60 info5 u4 _ [1] _ 1 1 (0,0) 5 (by rfl) (by rfl) (fun k => k ≠ wr.heap.size) (fun k hk => by (try simp at hk); omega) (by (with_reducible repeat (first | apply Kd.R_alloc | apply Kd.R_drewN | apply Kd.R_drew)); exact HOw.out) (heap_alloc_new _ _) rfl (by decide) ?_ ?_ ?_; (simp; omega); omega; intro vA wA HOA hbA hgA; have hltA : wr.heap.size < wA.heap.size := Nat.lt_of_lt_of_le hlt0 (Nat.le_trans (by simp) hbA.size); have hcA := (hgA.cell_far ⟨wr.heap.size, 1, none⟩ (Nat.lt_of_lt_of_le hlt0 (by simp)) (fun hk => HOw.out.1 _ hk.symm rfl)).trans ((World.cell?_alloc_lt _ _ _ hlt0).trans hc1); have HBA := Aside0.mk (Below.trans (by repeat (first | (with_reducible first | exact HBw.out | apply below_alloc | apply pw_below_drewN | apply below_drew1) | exact HBw.out)) hbA)) | (go_at_call 35; refine (pack_Num.calls 9 (fun k => k ≠ wr.heap.size) vA _ _ 8 _ w _ (by repeat (first | (with_reducible first | exact HBA.out | apply below_alloc | apply pw_below_drewN | apply below_drew1) | exact HBA.out)) (by (with_reducible repeat (first | apply Kd.R_alloc | apply Kd.R_drewN | apply Kd.R_drew)); exact HOA) HP.out).mono ?_; rintro e wB ⟨vB, rfl, HOB, HBB, HKB⟩; have hcB := (World.cell?_of_block (a := (⟨wr.heap.size, 1, none⟩ : Addr)) (HKB.2 _ hltA (fun h => h rfl))).trans hcA))
          go_wp2
          have hl := HL.out
          have hw1 : wrap64 ((j : Int) + 1) = ((j + 1 : Nat) : Int) := next_j _ _ hlt hl
          go_roundw
          case rel => exact ⟨j + 1, hlt, by rw [hw1], ⟨Kd.R_mono (by rw [HN.out, bi_app]; rw [show bi (encV v) = bi [1] ++ bi (be8 (Go.bits .xor .u64 (IntKind.u64.wrap v.f1) 9223372036854775808)) from by unfold encV; rw [if_pos h1]; rfl, ← List.append_assoc]; exact HOB) (fun _ _ => trivial)⟩, ⟨HBB⟩⟩
          case measure => exact loop_less _ _ hlt hl
        · have h1b : (v.f0 == 1) = false := beq_eq_false_iff_ne.mpr h1
          go_wp2_with fail
          generalize hW0 : wr.alloc (Obj.cells #[Value.int IntKind.i64 v.f0, Value.int IntKind.i64 v.f1, Value.string v.f2] 24) = W0
          have hc1 : W0.cell? ⟨wr.heap.size, 2, none⟩ = some (.string v.f2) := by rw [← hW0]; simp [go_sem]
          have HOw : Aside0 (Kd.R (Kd.int .u8) 5 W0 w.heap.size (fun k => k ≠ wr.heap.size) u4 (bi (encL (l0.take j)))) := ⟨by
            rw [← hW0]; exact Kd.R_alloc (Kd.R_of_own (Kd.own_of_R HO.out) (fun k hk => Nat.ne_of_lt (Kd.R_lt HO.out k hk))) _⟩
          have HBw : Aside0 (Below w.heap.size w W0) := ⟨by rw [← hW0]; exact below_alloc HBr.out _⟩
          have hlt0 : wr.heap.size < W0.heap.size := by rw [← hW0]; simp
          have hbr := HBr.out.size
          have hlen : (bi (encL (l0.take j))).length ≤ 70368744177000 := by rw [bi_len]; exact Nat.le_trans (encL_take_le l0 j) HT.out
          have hle : (encL (l0.take j)).length + (encV v).length ≤ 70368744177000 := by rw [← List.length_append, ← HN.out]; exact Nat.le_trans (encL_take_le l0 (j + 1)) HT.out
          have hev : encV v = [2] ++ esc v.f2.data.toList ++ [0, 1] := by unfold encV; rw [if_neg h1]; simp
          have hel : (encV v).length = v.f2.data.toList.length + Lib.countByte v.f2.data.toList 0 + 3 := by rw [hev]; simp [esc_length]
          have hfs : v.f2.data.toList.length = v.f2.size := (Lib.size_eq _).symm
          have HP : Aside0 (strings_ReplaceAll.f v.f2 ⟨#[0]⟩ ⟨#[0, 255]⟩ = some ⟨(esc v.f2.data.toList).toArray⟩) := ⟨by unfold strings_ReplaceAll.f; rw [if_pos ⟨rfl, rfl, by omega⟩]⟩
          have HEV := Aside0.mk hev
          have hsz : (⟨(esc v.f2.data.toList).toArray⟩ : ByteArray).size = v.f2.size + Lib.countByte v.f2.data.toList 0 := by rw [Lib.size_eq]; simp [esc_length, hfs]
          clear hev
          have hWr := HBw.out.size
          clear hW0 hx0 hx1 hx2
          go_region_held3 (fun w' => w'.cell? ⟨wr.heap.size, 2, none⟩ = some (.string v.f2)) (first | exact hc1 | exact (World.cell?_alloc_lt _ _ _ hlt0).trans hc1 | exact hcA | exact (World.cell?_alloc_lt _ _ _ hltA).trans hcA | exact hcB | exact hcC) (first | (refine R_lies_step w.heap.size (by rfl) _ _ 60 5 (by rfl) Tryd.underlying60 info5 u4 _ [2] _ 1 1 (0,0) 5 (by rfl) (by rfl) (fun k => k ≠ wr.heap.size) (fun k hk => by (try simp at hk); omega) (by (with_reducible repeat (first | apply Kd.R_alloc | apply Kd.R_drewN | apply Kd.R_drew)); exact HOw.out) (heap_alloc_new _ _) rfl (by decide) ?_ ?_ ?_; (simp; omega); omega; intro vA wA HOA hbA hgA; have hltA : wr.heap.size < wA.heap.size := Nat.lt_of_lt_of_le hlt0 (Nat.le_trans (by simp) hbA.size); have hcA := (hgA.cell_far ⟨wr.heap.size, 2, none⟩ (Nat.lt_of_lt_of_le hlt0 (by simp)) (fun hk => HOw.out.1 _ hk.symm rfl)).trans ((World.cell?_alloc_lt _ _ _ hlt0).trans hc1); have HBA := Aside0.mk (Below.trans (by repeat (first | (with_reducible first | exact HBw.out | apply below_alloc | apply pw_below_drewN | apply below_drew1) | exact HBw.out)) hbA)) | (go_at_call 58; refine (strings_ReplaceAll.calls v.f2 ⟨#[0]⟩ ⟨#[0, 255]⟩ _ _ HP.out).mono ?_; rintro e wB ⟨rfl, hbB⟩; have hltB : wr.heap.size < wB.heap.size := Nat.lt_of_lt_of_le hltA hbB.size; have hcB := (hbB.cell (World.block_lt_of_cell? _ _ hcA)).trans hcA; have HOB := Aside0.mk (Kd.R_below (by (with_reducible repeat (first | apply Kd.R_alloc | apply Kd.R_drewN | apply Kd.R_drew)); exact HOA) hbB); have HBB := Aside0.mk (below_step (by repeat (first | (with_reducible first | exact HBA.out | apply below_alloc | apply pw_below_drewN | apply below_drew1) | exact HBA.out)) hbB)) | (refine R_str_step w.heap.size (by rfl) _ _ 60 9 5 (by rfl) Tryd.underlying60 Tryd.underlying9 info5 vA _ ⟨(esc v.f2.data.toList).toArray⟩ (by rfl) (by rfl) (fun k => k ≠ wr.heap.size) HOB.out (Nat.le_trans HBA.out.size hbB.size) (by rw [List.length_append, hsz, bi_len [2]]; simp; omega) ?_; intro vC wC HOC hbC hgC; have hcC := (hgC.cell_far ⟨wr.heap.size, 2, none⟩ hltB (fun hk => HOB.out.1 _ hk.symm rfl)).trans hcB))
          have hCb := hbC.size
          have hBs := HBB.out.size
          have HBC := Aside0.mk (HBB.out.trans hbC)
          have hq := bi_len (encL (l0.take j))
          have hlC : (bi (encL (l0.take j)) ++ bi [2] ++ bytesOf ⟨(esc v.f2.data.toList).toArray⟩).length ≤ 70368744177664 := by rw [List.length_append, List.length_append, bytesOf_length, hsz, bi_len [2]]; simp; omega
          go_wp2_with (first | ((with_reducible refine gate_builtin (b := .append) (xs := #[.tmp 33, .tmp 34]) rfl ?_); at_builtin; refine R_lies_plain w.heap.size (by rfl) (.tmp 33) (.tmp 34) 60 5 (by rfl) Tryd.underlying60 info5 vC _ [0, 1] _ 2 2 (0, 0) 5 (by rfl) (by rfl) (fun _ => True) (fun _ _ => trivial) (by (with_reducible repeat (first | apply Kd.R_alloc | apply Kd.R_drewN | apply Kd.R_drew)); exact HOC) (heap_alloc_new _ _) rfl (by decide) ?_ ?_ ?_; (simp; omega); omega; intro vD wD HOD hbD hgD))
          have hl := HL.out
          have hw1 : wrap64 ((j : Int) + 1) = ((j + 1 : Nat) : Int) := next_j _ _ hlt hl
          go_roundw
          case rel => exact ⟨j + 1, hlt, by rw [hw1], ⟨by rw [HN.out, bi_app, HEV.out]; rw [bi_app, bi_app, ← List.append_assoc, ← List.append_assoc]; exact HOD⟩, ⟨Below.trans (by repeat (first | exact HBC.out | apply below_alloc | apply pw_below_drewN | apply below_drew1)) hbD⟩⟩
          case measure => exact loop_less _ _ hlt hl
      · have hje : j = l0.length := by omega
        subst hje
        have hcv := own_string (P := Tryd.prog) Tryd.underlying60 Tryd.underlying5 Tryd.underlying9 (Kd.own_of_R HO.out)
        go_wp2
        go_ret2
        exact ⟨by rw [← strOf_bi]; (try rw [List.take_length]); rfl, HBr.out⟩

/-! ### effects_odd: function 24 -/
def effects_odd.f (a0_0 : Int) (a0_1 : Int) (a0_2 : ByteArray) : Option (Bool) := (keys_Write.f (([(⟨a0_0, a0_1, a0_2⟩ : S24)] : List (S24)))).bind fun bt113 => (if bt113.2 = 0 then (some (decide ((a0_2.size : Int) > 10))) else (some true))
set_option maxHeartbeats 8000000 in
set_option maxRecDepth 100000 in
theorem effects_odd.calls (a0_0 : Int) (a0_1 : Int) (a0_2 : ByteArray) (r : Bool) (w : World) (h : effects_odd.f a0_0 a0_1 a0_2 = some r) :
    Calls Tryd.prog 24 #[.agg #[.int .i64 a0_0, .int .i64 a0_1, .string a0_2]] w fun e w' => e = .returned (.bool r) ∧ Below w.heap.size w w' := by
  have hu24 := Tryd.underlying24
  have HB := Aside0.mk (Below.refl w.heap.size w)
  have H : ((keys_Write.f (([(⟨a0_0, a0_1, a0_2⟩ : S24)] : List (S24)))).bind fun bt113 => (if bt113.2 = 0 then (some (decide ((a0_2.size : Int) > 10))) else (some true))) = some r := h
  clear h
  obtain ⟨y110, hy110⟩ : ∃ y_ : List (S24), y_ = (([(⟨a0_0, a0_1, a0_2⟩ : S24)] : List (S24))) := ⟨_, rfl⟩
  replace H : ((keys_Write.f y110).bind fun bt113 => (if bt113.2 = 0 then (some (decide ((a0_2.size : Int) > 10))) else (some true))) = some r := by first | (rw [hy110]; with_reducible exact H) | (have H2_ := (Option.bind_some _ _).symm.trans H; rw [hy110]; with_reducible exact H2_) | (have H2_ := (Option.bind_some _ _).symm.trans H; with_reducible exact H2_) | with_reducible exact H | (rw [hy110]; exact H) | exact H
  have Ny110 := Aside0.mk hy110
  clear hy110
  replace H := Option.bind_eq_some_iff.mp H
  obtain ⟨⟨t113, t114⟩, A20, H⟩ := H
  replace H : (if t114 = 0 then (some (decide ((a0_2.size : Int) > 10))) else (some true)) = some r := H
  have A2 := Aside0.mk A20
  clear A20
  by_cases c3 : t114 = 0
  · rw [if_pos c3] at H
    have c3b0 : (t114 == 0) = true := beq_iff_eq.mpr c3
    have c3b1 : (t114 != 0) = false := bne_eq_false_iff_eq.mpr c3
    clear c3
    obtain rfl := Option.some.inj H
    go_enter Tryd.func24, Tryd.ntmps24
    go_wp2_with (first | ((with_reducible refine gate_dst (N := 1) rfl ?_); (try (refine gate_guard (by rfl) ?_; dsimp only)); refine box_event ?hg (N := 1) ?hd (cs := #[.int .i64 a0_0, .int .i64 a0_1, .string a0_2]) (t := 24) ?hr ?_; (case hd => rfl); (case hg => rfl); (case hr => first | (go_simp; done) | (go_simp; rfl)); intro gb109 hg w4 hbox hb; have n0_ := Aside0.mk (below_step (by repeat (first | (with_reducible first | exact HB.out | apply below_alloc | apply pw_below_drewN | apply below_drew1) | exact HB.out)) hb); have n1_ := Aside0.mk (hbox); have n2_ := Aside0.mk ((by rw [hg]; exact (below_size (by repeat (first | (with_reducible first | exact HB.out | apply below_alloc | apply pw_below_drewN | apply below_drew1) | exact HB.out))) : w.heap.size ≤ gb109)); have n3_ := Aside0.mk ((by rw [hg]; exact (below_size (by repeat (first | (with_reducible first | exact HB.out | apply below_alloc | apply pw_below_drewN | apply below_drew1) | exact HB.out))) : w.heap.size ≤ gb109)); clear HB; have HB := n0_; have BK109 := n1_; have GW109 := n2_; have GE109 := n3_; clear n0_ n1_ n2_ n3_; clear hb hbox hg; have hcz5_0 : w4.cell? ⟨gb109, 0, none⟩ = some (.int .i64 a0_0) := (blk_cell BK109.out 0).trans rfl; have hcz5_1 : w4.cell? ⟨gb109, 1, none⟩ = some (.int .i64 a0_1) := (blk_cell BK109.out 1).trans rfl; have hcz5_2 : w4.cell? ⟨gb109, 2, none⟩ = some (.string a0_2) := (blk_cell BK109.out 2).trans rfl; have hfz5_0 := blk_frozen BK109.out 0; have hfz5_1 := blk_frozen BK109.out 1; have hfz5_2 := blk_frozen BK109.out 2) | ((with_reducible refine gate_dst (N := 7) rfl ?_); (try (refine gate_guard (by rfl) ?_; dsimp only)); refine Kd.R_lit k24 _ 24 ?hg (N := 7) ?hd (xs := ([(⟨a0_0, a0_1, a0_2⟩ : S24)] : List (S24))) (inner := [.int .i64 a0_0, .int .i64 a0_1, .string a0_2]) (ok := fun _ => True) (okp := fun _ => True) ?hr ?hp (fun _ hk => hk) trivial (Below.refl _ _) (Nat.le_refl _) (by simp) ?_; (case hd => rfl); (case hg => rfl); (case hr => first | (go_simp; done) | (go_simp; rfl)); (case hp => exact (Reps.c3 (show Kd.M k24 _ _ _ (⟨a0_0, a0_1, a0_2⟩ : S24) [.int .i64 a0_0, .int .i64 a0_1, .string a0_2] from (k24_mkM _ _ _ (⟨a0_0, a0_1, a0_2⟩ : S24) )) (Reps.none _ _))); intro v111 w6 ho7 hb hg_ hnew_; clear hg_ hnew_; (first | rw [← Ny110.out] at ho7 | (simp only [Int.reduceToNat] at ho7; rw [← Ny110.out] at ho7)); have n0_ := Aside0.mk (Kd.R_lower (Kd.R_newB ho7 (g := gb109) (o := .cells #[.int .i64 a0_0, .int .i64 a0_1, .string a0_2] 24 (0, 0)) (by (with_reducible repeat (first | refine blk_drewN ?_ _ | refine blk_drew ?_ | refine blk_alloc ?_ _)); exact BK109.out)) (below_size (by repeat (first | (with_reducible first | exact HB.out | apply below_alloc | apply pw_below_drewN | apply below_drew1 | refine below_set ?_ GE109.out) | exact HB.out)))); have n1_ := Aside0.mk (blk_below (g := gb109) (o := .cells #[.int .i64 a0_0, .int .i64 a0_1, .string a0_2] 24 (0, 0)) (by (with_reducible repeat (first | refine blk_drewN ?_ _ | refine blk_drew ?_ | refine blk_alloc ?_ _)); exact BK109.out) hb); have n2_ := Aside0.mk (below_step (by repeat (first | (with_reducible first | exact HB.out | apply below_alloc | apply pw_below_drewN | apply below_drew1 | refine below_set ?_ GE109.out) | exact HB.out)) hb); clear BK109; clear HB; have HO112 := n0_; have BK109 := n1_; have HB := n2_; clear n0_ n1_ n2_; clear hb ho7; obtain ⟨Ao8, co8, eo8⟩ := Kd.R_slice HO112.out; subst eo8) | ((with_reducible refine gate_callee (f := 40) rfl ?_); refine goesL_ (some 8) rfl rfl Tryd.func40 (by kernel_rfl) rfl #[.slice Ao8 y110.length co8] rfl (by (try simp only [List.map_toArray, List.map_cons, List.map_nil]); first | done | rfl | (simp only [List.length_drop, List.length_take]; rfl) | (simp (disch := omega) only [u64_in]; rfl)) ?_; (with_reducible refine (keys_Write.calls _ _ y110 t113 t114 _ ?side1 ?side2 A2.out).mono ?_); (case side1 => repeat (first | exact (Kd.R_reads' HO112.out).2.2 | (with_reducible refine Kd.C_alloc ?_ _) | (with_reducible refine Kd.C_drewN ?_ _) | (with_reducible refine Kd.C_drew ?_))); (case side2 => exact (Kd.R_reads' HO112.out).2.1); rintro e w9 ⟨rfl, hb⟩; refine ⟨_, rfl, ?_⟩; have n0_ := Aside0.mk (Kd.R_below (by (with_reducible repeat (first | apply Kd.R_alloc | apply Kd.R_drewN | apply Kd.R_drew)); exact HO112.out) hb); have n1_ := Aside0.mk (blk_below (g := gb109) (o := .cells #[.int .i64 a0_0, .int .i64 a0_1, .string a0_2] 24 (0, 0)) (by (with_reducible repeat (first | refine blk_drewN ?_ _ | refine blk_drew ?_ | refine blk_alloc ?_ _)); exact BK109.out) hb); have n2_ := Aside0.mk (below_step (by repeat (first | (with_reducible first | exact HB.out | apply below_alloc | apply pw_below_drewN | apply below_drew1 | refine below_set ?_ GE109.out) | exact HB.out)) hb); clear HO112; clear BK109; clear HB; have HO112 := n0_; have BK109 := n1_; have HB := n2_; clear n0_ n1_ n2_; (try clear hb); (try clear hb2); (try clear hk); (try clear hi); have hcz10_0 : w9.cell? ⟨gb109, 0, none⟩ = some (.int .i64 a0_0) := (blk_cell BK109.out 0).trans rfl; have hcz10_1 : w9.cell? ⟨gb109, 1, none⟩ = some (.int .i64 a0_1) := (blk_cell BK109.out 1).trans rfl; have hcz10_2 : w9.cell? ⟨gb109, 2, none⟩ = some (.string a0_2) := (blk_cell BK109.out 2).trans rfl; have hfz10_0 := blk_frozen BK109.out 0; have hfz10_1 := blk_frozen BK109.out 1; have hfz10_2 := blk_frozen BK109.out 2))
    go_ret
    exact ⟨by first | (with_reducible rfl) | (simp only [isEmpty_bne, Bool.not_not] <;> with_reducible rfl) | (simp [errW_none, errW_some] <;> with_reducible rfl) | (simp only [isEmpty_bne, Bool.not_not] <;> rfl) | rfl | (simp [errW_none, errW_some] <;> rfl) | (simp [*, errW_none, errW_some] <;> rfl), by repeat (first | (with_reducible first | exact HB.out | apply below_alloc | apply pw_below_drewN | apply below_drew1 | refine below_set ?_ GE109.out) | exact HB.out)⟩
  · rw [if_neg c3] at H
    have c3b0 : (t114 == 0) = false := beq_eq_false_iff_ne.mpr c3
    have c3b1 : (t114 != 0) = true := bne_iff_ne.mpr c3
    obtain rfl := Option.some.inj H
    go_enter Tryd.func24, Tryd.ntmps24
    go_wp2_with (first | ((with_reducible refine gate_dst (N := 1) rfl ?_); (try (refine gate_guard (by rfl) ?_; dsimp only)); refine box_event ?hg (N := 1) ?hd (cs := #[.int .i64 a0_0, .int .i64 a0_1, .string a0_2]) (t := 24) ?hr ?_; (case hd => rfl); (case hg => rfl); (case hr => first | (go_simp; done) | (go_simp; rfl)); intro gb109 hg w11 hbox hb; have n0_ := Aside0.mk (below_step (by repeat (first | (with_reducible first | exact HB.out | apply below_alloc | apply pw_below_drewN | apply below_drew1) | exact HB.out)) hb); have n1_ := Aside0.mk (hbox); have n2_ := Aside0.mk ((by rw [hg]; exact (below_size (by repeat (first | (with_reducible first | exact HB.out | apply below_alloc | apply pw_below_drewN | apply below_drew1) | exact HB.out))) : w.heap.size ≤ gb109)); have n3_ := Aside0.mk ((by rw [hg]; exact (below_size (by repeat (first | (with_reducible first | exact HB.out | apply below_alloc | apply pw_below_drewN | apply below_drew1) | exact HB.out))) : w.heap.size ≤ gb109)); clear HB; have HB := n0_; have BK109 := n1_; have GW109 := n2_; have GE109 := n3_; clear n0_ n1_ n2_ n3_; clear hb hbox hg; have hcz12_0 : w11.cell? ⟨gb109, 0, none⟩ = some (.int .i64 a0_0) := (blk_cell BK109.out 0).trans rfl; have hcz12_1 : w11.cell? ⟨gb109, 1, none⟩ = some (.int .i64 a0_1) := (blk_cell BK109.out 1).trans rfl; have hcz12_2 : w11.cell? ⟨gb109, 2, none⟩ = some (.string a0_2) := (blk_cell BK109.out 2).trans rfl; have hfz12_0 := blk_frozen BK109.out 0; have hfz12_1 := blk_frozen BK109.out 1; have hfz12_2 := blk_frozen BK109.out 2) | ((with_reducible refine gate_dst (N := 7) rfl ?_); (try (refine gate_guard (by rfl) ?_; dsimp only)); refine Kd.R_lit k24 _ 24 ?hg (N := 7) ?hd (xs := ([(⟨a0_0, a0_1, a0_2⟩ : S24)] : List (S24))) (inner := [.int .i64 a0_0, .int .i64 a0_1, .string a0_2]) (ok := fun _ => True) (okp := fun _ => True) ?hr ?hp (fun _ hk => hk) trivial (Below.refl _ _) (Nat.le_refl _) (by simp) ?_; (case hd => rfl); (case hg => rfl); (case hr => first | (go_simp; done) | (go_simp; rfl)); (case hp => exact (Reps.c3 (show Kd.M k24 _ _ _ (⟨a0_0, a0_1, a0_2⟩ : S24) [.int .i64 a0_0, .int .i64 a0_1, .string a0_2] from (k24_mkM _ _ _ (⟨a0_0, a0_1, a0_2⟩ : S24) )) (Reps.none _ _))); intro v111 w13 ho14 hb hg_ hnew_; clear hg_ hnew_; (first | rw [← Ny110.out] at ho14 | (simp only [Int.reduceToNat] at ho14; rw [← Ny110.out] at ho14)); have n0_ := Aside0.mk (Kd.R_lower (Kd.R_newB ho14 (g := gb109) (o := .cells #[.int .i64 a0_0, .int .i64 a0_1, .string a0_2] 24 (0, 0)) (by (with_reducible repeat (first | refine blk_drewN ?_ _ | refine blk_drew ?_ | refine blk_alloc ?_ _)); exact BK109.out)) (below_size (by repeat (first | (with_reducible first | exact HB.out | apply below_alloc | apply pw_below_drewN | apply below_drew1 | refine below_set ?_ GE109.out) | exact HB.out)))); have n1_ := Aside0.mk (blk_below (g := gb109) (o := .cells #[.int .i64 a0_0, .int .i64 a0_1, .string a0_2] 24 (0, 0)) (by (with_reducible repeat (first | refine blk_drewN ?_ _ | refine blk_drew ?_ | refine blk_alloc ?_ _)); exact BK109.out) hb); have n2_ := Aside0.mk (below_step (by repeat (first | (with_reducible first | exact HB.out | apply below_alloc | apply pw_below_drewN | apply below_drew1 | refine below_set ?_ GE109.out) | exact HB.out)) hb); clear BK109; clear HB; have HO112 := n0_; have BK109 := n1_; have HB := n2_; clear n0_ n1_ n2_; clear hb ho14; obtain ⟨Ao15, co15, eo15⟩ := Kd.R_slice HO112.out; subst eo15) | ((with_reducible refine gate_callee (f := 40) rfl ?_); refine goesL_ (some 8) rfl rfl Tryd.func40 (by kernel_rfl) rfl #[.slice Ao15 y110.length co15] rfl (by (try simp only [List.map_toArray, List.map_cons, List.map_nil]); first | done | rfl | (simp only [List.length_drop, List.length_take]; rfl) | (simp (disch := omega) only [u64_in]; rfl)) ?_; (with_reducible refine (keys_Write.calls _ _ y110 t113 t114 _ ?side1 ?side2 A2.out).mono ?_); (case side1 => repeat (first | exact (Kd.R_reads' HO112.out).2.2 | (with_reducible refine Kd.C_alloc ?_ _) | (with_reducible refine Kd.C_drewN ?_ _) | (with_reducible refine Kd.C_drew ?_))); (case side2 => exact (Kd.R_reads' HO112.out).2.1); rintro e w16 ⟨rfl, hb⟩; refine ⟨_, rfl, ?_⟩; have n0_ := Aside0.mk (Kd.R_below (by (with_reducible repeat (first | apply Kd.R_alloc | apply Kd.R_drewN | apply Kd.R_drew)); exact HO112.out) hb); have n1_ := Aside0.mk (blk_below (g := gb109) (o := .cells #[.int .i64 a0_0, .int .i64 a0_1, .string a0_2] 24 (0, 0)) (by (with_reducible repeat (first | refine blk_drewN ?_ _ | refine blk_drew ?_ | refine blk_alloc ?_ _)); exact BK109.out) hb); have n2_ := Aside0.mk (below_step (by repeat (first | (with_reducible first | exact HB.out | apply below_alloc | apply pw_below_drewN | apply below_drew1 | refine below_set ?_ GE109.out) | exact HB.out)) hb); clear HO112; clear BK109; clear HB; have HO112 := n0_; have BK109 := n1_; have HB := n2_; clear n0_ n1_ n2_; (try clear hb); (try clear hb2); (try clear hk); (try clear hi)))
    go_ret
    exact ⟨by first | (with_reducible rfl) | (simp only [isEmpty_bne, Bool.not_not] <;> with_reducible rfl) | (simp [errW_none, errW_some] <;> with_reducible rfl) | (simp only [isEmpty_bne, Bool.not_not] <;> rfl) | rfl | (simp [errW_none, errW_some] <;> rfl) | (simp [*, errW_none, errW_some] <;> rfl), by repeat (first | (with_reducible first | exact HB.out | apply below_alloc | apply pw_below_drewN | apply below_drew1 | refine below_set ?_ GE109.out) | exact HB.out)⟩

/-! ### pack_Str: function 41 -/
def pack_Str.f (l0 : List Int) (a1 : ByteArray) : Option (List Int) := if 0 ≤ (mn (a1.size : Int) 255) then (if (mn (a1.size : Int) 255) ≤ (a1.size : Int) then (if l0.length < 140737488355328 then ((some (l0 ++ [(((a1.extract 0 ((mn (a1.size : Int) 255) : Int).toNat).size : Int)) % 256] : List Int)).bind fun y115 => (if y115.length + (a1.extract 0 ((mn (a1.size : Int) 255) : Int).toNat).size < 140737488355328 then (some (y115 ++ bytesOf (a1.extract 0 ((mn (a1.size : Int) 255) : Int).toNat))) else (none))) else (none)) else (none)) else (none)
set_option maxHeartbeats 8000000 in
set_option maxRecDepth 100000 in
theorem pack_Str.calls (P0_ : Nat → Prop) (u9000_ : Value) (l0 : List Int) (a1 : ByteArray) (r : List Int) (w0 w : World) (hB : Below w0.heap.size w0 w) (ho0 : Kd.R (Kd.int .u8) 5 w w0.heap.size P0_ u9000_ l0) (h : pack_Str.f l0 a1 = some r) :
    Calls Tryd.prog 41 #[u9000_, .string a1] w fun e w' => ∃ v0_ : Value, e = .returned (v0_) ∧ Kd.R (Kd.int .u8) 5 w' w0.heap.size (fun k_ => (P0_ k_ ∨ w.heap.size ≤ k_)) v0_ r ∧ Below w0.heap.size w0 w' ∧ Kept w w' (fun k_ => P0_ k_) := by
  have HO0 := Aside0.mk (show Kd.R (Kd.int .u8) 5 w w0.heap.size (fun k_ => (P0_ k_ ∨ w.heap.size ≤ k_)) u9000_ l0 from Kd.R_mono ho0 (fun k_ hk => (.inl hk)))
  have HK := Aside0.mk (Kept.refl w (fun k_ => P0_ k_))
  have HW0 := Aside0.mk hB.size
  have HB := Aside0.mk hB
  clear hB
  have H : (if 0 ≤ (mn (a1.size : Int) 255) then (if (mn (a1.size : Int) 255) ≤ (a1.size : Int) then (if l0.length < 140737488355328 then ((some (l0 ++ [(((a1.extract 0 ((mn (a1.size : Int) 255) : Int).toNat).size : Int)) % 256] : List Int)).bind fun y115 => (if y115.length + (a1.extract 0 ((mn (a1.size : Int) 255) : Int).toNat).size < 140737488355328 then (some (y115 ++ bytesOf (a1.extract 0 ((mn (a1.size : Int) 255) : Int).toNat))) else (none))) else (none)) else (none)) else (none)) = some r := h
  clear h
  obtain ⟨ji3, hji3⟩ : ∃ j_ : Int, (mn (a1.size : Int) 255) = j_ := ⟨_, rfl⟩
  replace H : (if 0 ≤ (ji3) then (if (ji3) ≤ (a1.size : Int) then (if l0.length < 140737488355328 then ((some (l0 ++ [(((a1.extract 0 ((ji3) : Int).toNat).size : Int)) % 256] : List Int)).bind fun y115 => (if y115.length + (a1.extract 0 ((ji3) : Int).toNat).size < 140737488355328 then (some (y115 ++ bytesOf (a1.extract 0 ((ji3) : Int).toNat))) else (none))) else (none)) else (none)) else (none)) = some r := by first | (rw [hji3] at H; exact H) | (simp only [hji3] at H ⊢; exact H)
  (try (have hji3h : ji3 ≤ 255 := by (rw [← hji3]; unfold mn; (repeat' split) <;> omega)))
  (try (have hji3g : ji3 ≤ 64 := by omega))
  (try (have hji3l : 0 ≤ ji3 := by (rw [← hji3]; unfold mn; (repeat' split) <;> omega)))
  (try (have hji3m : 0 ≤ ji3 := by omega))
  have hji3_ : (if 255 < (a1.size : Int) then 255 else (a1.size : Int)) = ji3 := hji3
  by_cases c4 : 0 ≤ (ji3)
  · rw [if_pos c4] at H
    have c4b0 := eq_true c4
    have c4b1 : decide (0 ≤ (ji3)) = true := decide_eq_true c4
    clear c4
    by_cases c5 : (ji3) ≤ (a1.size : Int)
    · rw [if_pos c5] at H
      have c5b0 := eq_true c5
      have c5b1 : decide ((ji3) ≤ (a1.size : Int)) = true := decide_eq_true c5
      clear c5
      by_cases c6 : l0.length < 140737488355328
      · rw [if_pos c6] at H
        have LMc6 := Aside0.mk c6
        clear c6
        obtain ⟨y115, hy115⟩ : ∃ y_ : List Int, y_ = (l0 ++ [(((a1.extract 0 ((ji3) : Int).toNat).size : Int)) % 256]) := ⟨_, rfl⟩
        replace H : (if y115.length + (a1.extract 0 ((ji3) : Int).toNat).size < 140737488355328 then (some (y115 ++ bytesOf (a1.extract 0 ((ji3) : Int).toNat))) else (none)) = some r := by first | (rw [hy115]; with_reducible exact H) | (have H2_ := (Option.bind_some _ _).symm.trans H; rw [hy115]; with_reducible exact H2_) | (have H2_ := (Option.bind_some _ _).symm.trans H; with_reducible exact H2_) | with_reducible exact H | (rw [hy115]; exact H) | exact H
        have Ny115 := Aside0.mk hy115
        clear hy115
        by_cases c7 : y115.length + (a1.extract 0 ((ji3) : Int).toNat).size < 140737488355328
        · rw [if_pos c7] at H
          have LMc7 := Aside0.mk c7
          clear c7
          obtain ⟨y118, hy118⟩ : ∃ y_ : List Int, y_ = (y115 ++ bytesOf (a1.extract 0 ((ji3) : Int).toNat)) := ⟨_, rfl⟩
          replace H : (some y118) = some r := by first | (rw [hy118]; with_reducible exact H) | (have H2_ := (Option.bind_some _ _).symm.trans H; rw [hy118]; with_reducible exact H2_) | (have H2_ := (Option.bind_some _ _).symm.trans H; with_reducible exact H2_) | with_reducible exact H | (rw [hy118]; exact H) | exact H
          have Ny118 := Aside0.mk hy118
          clear hy118
          obtain rfl := Option.some.inj H
          have hmx_ : (((a1.extract 0 (ji3).toNat).size : Int)) % 256 = max ji3 0 := by
            have h1_ : 0 ≤ ji3 := by first | assumption | omega
            have h2_ : ji3 ≤ (a1.size : Int) := by first | assumption | (apply of_decide_eq_true; assumption) | omega
            rw [ByteArray.size_extract]; omega
          go_enter Tryd.func41, Tryd.ntmps41
          go_wp2_with (first | ((with_reducible refine gate_builtin (b := .append) (xs := #[.tmp 10, .tmp 14]) rfl ?_); at_builtin; refine Kd.R_append (Kd.int .u8) (w0 := w0) w0.heap.size rfl (.tmp 10) (.tmp 14) 60 5 (.int .u8 0) 1 rfl Tryd.underlying60 info5 rfl (by decide) (by omega) u9000_ l0 (max ji3 0) [.int .u8 (max ji3 0)] (fun k_ => (P0_ k_ ∨ w.heap.size ≤ k_)) (fun _ => False) rfl rfl ?aP (fun _ hk => hk.elim) ?aF ?aO ?aB ?aS ?aL ?_; (case aP => exact rfl); (case aB => exact (by repeat (first | (with_reducible first | exact HB.out | apply below_alloc | apply pw_below_drewN | apply below_drew1) | exact HB.out))); (case aF => exact (fun k_ hk => (.inr (Nat.le_trans (by first | exact HK.out.1 | exact (show Kept w _ (fun k_ => P0_ k_) from by repeat (first | (with_reducible first | exact HK.out | apply Kept.alloc | apply Kept.drewN | apply Kept.drew) | exact HK.out)).1) hk)))); (case aO => exact (by (with_reducible repeat (first | apply Kd.R_alloc | apply Kd.R_drewN | apply Kd.R_drew)); exact HO0.out)); (case aS => exact (below_size (by repeat (first | (with_reducible first | exact HB.out | apply below_alloc | apply pw_below_drewN | apply below_drew1) | exact HB.out)))); (case aL => have := LMc6.out; omega); intro v116 w8 ho hb hg hat; rw [← hmx_, ← Ny115.out] at ho; have n0_ := Aside0.mk (hb); have n1_ := Aside0.mk (Kept.of_grown (S := (fun k_ => P0_ k_)) hg (by repeat (first | (with_reducible first | exact HK.out | apply Kept.alloc | apply Kept.drewN | apply Kept.drew) | exact HK.out)) (fun k_ e_ => (HO0.out.1 k_ e_))); have n2_ := Aside0.mk (ho); clear HB; clear HK; clear HO0; have HB := n0_; have HK := n1_; have HO117 := n2_; clear n0_ n1_ n2_; clear ho hb hg hat) | (at_builtin; refine R_strP (w0 := w0) w0.heap.size rfl (.tmp 15) _ 60 9 5 rfl Tryd.underlying60 Tryd.underlying9 info5 v116 y115 (a1.extract 0 ((ji3) : Int).toNat) (fun k_ => (P0_ k_ ∨ w.heap.size ≤ k_)) rfl rfl ?aF ?aO ?aB ?aS ?aL ?_; (case aB => exact (by repeat (first | (with_reducible first | exact HB.out | apply below_alloc | apply pw_below_drewN | apply below_drew1) | exact HB.out))); (case aF => exact (fun k_ hk => (.inr (Nat.le_trans (by first | exact HK.out.1 | exact (show Kept w _ (fun k_ => P0_ k_) from by repeat (first | (with_reducible first | exact HK.out | apply Kept.alloc | apply Kept.drewN | apply Kept.drew) | exact HK.out)).1) hk)))); (case aO => exact (by (with_reducible repeat (first | apply Kd.R_alloc | apply Kd.R_drewN | apply Kd.R_drew)); exact HO117.out)); (case aS => exact (below_size (by repeat (first | (with_reducible first | exact HB.out | apply below_alloc | apply pw_below_drewN | apply below_drew1) | exact HB.out)))); (case aL => have := LMc7.out; omega); intro v119 w9 ho hb hg hat; rw [← Ny118.out] at ho; have n0_ := Aside0.mk (hb); have n1_ := Aside0.mk (Kept.of_grown (S := (fun k_ => P0_ k_)) hg (by repeat (first | (with_reducible first | exact HK.out | apply Kept.alloc | apply Kept.drewN | apply Kept.drew) | exact HK.out)) (fun k_ e_ => (HO117.out.1 k_ e_))); have n2_ := Aside0.mk (ho); clear HB; clear HK; clear HO117; have HB := n0_; have HK := n1_; have HO120 := n2_; clear n0_ n1_ n2_; clear ho hb hg hat))
          go_ret
          exact ⟨_, by first | (with_reducible rfl) | (simp only [isEmpty_bne, Bool.not_not] <;> with_reducible rfl) | (simp [errW_none, errW_some] <;> with_reducible rfl) | (simp only [isEmpty_bne, Bool.not_not] <;> rfl) | rfl | (simp [errW_none, errW_some] <;> rfl) | (simp only [← hji3]; first | rfl | (simp [errW_none, errW_some] <;> rfl)) | (simp [*, errW_none, errW_some] <;> rfl), by (with_reducible repeat (first | apply Kd.R_alloc | apply Kd.R_drewN | apply Kd.R_drew)); exact HO120.out, by repeat (first | (with_reducible first | exact HB.out | apply below_alloc | apply pw_below_drewN | apply below_drew1) | exact HB.out), by repeat (first | (with_reducible first | exact HK.out | apply Kept.alloc | apply Kept.drewN | apply Kept.drew) | exact HK.out)⟩
        · rw [if_neg c7] at H
          exact absurd H (by simp)
      · rw [if_neg c6] at H
        exact absurd H (by simp)
    · rw [if_neg c5] at H
      exact absurd H (by simp)
  · rw [if_neg c4] at H
    exact absurd H (by simp)

/-! ### effects_put: function 25 -/
def effects_put.f (k : Nat) (l0 : List Int) (a1_0 : Int) (a1_1 : Int) (a1_2 : ByteArray) : Option (List Int) := if l0.length < 140737488355328 then ((some (l0 ++ [(a1_0) % 256] : List Int)).bind fun y122 => (if a1_0 = 1 then ((pack_Num.f k y122 (IntKind.u64.wrap (a1_1)) 8).bind fun t125 => (some t125)) else ((pack_Str.f y122 a1_2).bind fun t128 => (some t128)))) else (none)
theorem effects_put.mono : ∀ a0 a1 a2 a3 k, LeO (effects_put.f k a0 a1 a2 a3) (effects_put.f (k + 1) a0 a1 a2 a3) := by
  intro a0 a1 a2 a3 k
  unfold effects_put.f
  repeat' first
      | (with_reducible exact pack_Num.mono _ _ _ _)
      | (with_reducible exact LeO.refl _)
      | (with_reducible exact LeO.none _)
      | (with_reducible refine LeO.ite ?_ ?_)
      | (with_reducible refine LeO.bind ?_ (fun _ => ?_))
      | exact pack_Num.mono _ _ _ _
      | exact LeO.none _
      | refine LeO.ite ?_ ?_
      | refine LeO.bind ?_ (fun _ => ?_)
set_option maxHeartbeats 8000000 in
set_option maxRecDepth 100000 in
theorem effects_put.calls (k : Nat) (P0_ : Nat → Prop) (u9000_ : Value) (l0 : List Int) (a1_0 : Int) (a1_1 : Int) (a1_2 : ByteArray) (r : List Int) (w0 w : World) (hB : Below w0.heap.size w0 w) (ho0 : Kd.R (Kd.int .u8) 5 w w0.heap.size P0_ u9000_ l0) (h : effects_put.f k l0 a1_0 a1_1 a1_2 = some r) :
    Calls Tryd.prog 25 #[u9000_, .agg #[.int .i64 a1_0, .int .i64 a1_1, .string a1_2]] w fun e w' => ∃ v0_ : Value, e = .returned (v0_) ∧ Kd.R (Kd.int .u8) 5 w' w0.heap.size (fun k_ => (P0_ k_ ∨ w.heap.size ≤ k_)) v0_ r ∧ Below w0.heap.size w0 w' ∧ Kept w w' (fun k_ => P0_ k_) := by
  have hu24 := Tryd.underlying24
  have HO0 := Aside0.mk (show Kd.R (Kd.int .u8) 5 w w0.heap.size (fun k_ => (P0_ k_ ∨ w.heap.size ≤ k_)) u9000_ l0 from Kd.R_mono ho0 (fun k_ hk => (.inl hk)))
  have HK := Aside0.mk (Kept.refl w (fun k_ => P0_ k_))
  have HW0 := Aside0.mk hB.size
  have HB := Aside0.mk hB
  clear hB
  have H : (if l0.length < 140737488355328 then ((some (l0 ++ [(a1_0) % 256] : List Int)).bind fun y122 => (if a1_0 = 1 then ((pack_Num.f k y122 (IntKind.u64.wrap (a1_1)) 8).bind fun t125 => (some t125)) else ((pack_Str.f y122 a1_2).bind fun t128 => (some t128)))) else (none)) = some r := h
  clear h
  by_cases c3 : l0.length < 140737488355328
  · rw [if_pos c3] at H
    have LMc3 := Aside0.mk c3
    clear c3
    obtain ⟨y122, hy122⟩ : ∃ y_ : List Int, y_ = (l0 ++ [(a1_0) % 256]) := ⟨_, rfl⟩
    replace H : (if a1_0 = 1 then ((pack_Num.f k y122 (IntKind.u64.wrap (a1_1)) 8).bind fun t125 => (some t125)) else ((pack_Str.f y122 a1_2).bind fun t128 => (some t128))) = some r := by first | (rw [hy122]; with_reducible exact H) | (have H2_ := (Option.bind_some _ _).symm.trans H; rw [hy122]; with_reducible exact H2_) | (have H2_ := (Option.bind_some _ _).symm.trans H; with_reducible exact H2_) | with_reducible exact H | (rw [hy122]; exact H) | exact H
    have Ny122 := Aside0.mk hy122
    clear hy122
    by_cases c4 : a1_0 = 1
    · rw [if_pos c4] at H
      have c4b0 : (a1_0 == 1) = true := beq_iff_eq.mpr c4
      have c4b1 : (a1_0 != 1) = false := bne_eq_false_iff_eq.mpr c4
      clear c4
      replace H := Option.bind_eq_some_iff.mp H
      obtain ⟨t125, A50, H⟩ := H
      replace H : (some t125) = some r := H
      have A5 := Aside0.mk A50
      clear A50
      obtain rfl := Option.some.inj H
      go_enter Tryd.func25, Tryd.ntmps25
      go_wp2_with (first | ((with_reducible refine gate_dst (N := 3) rfl ?_); refine box_event ?hg (N := 3) ?hd (cs := #[.int .i64 a1_0, .int .i64 a1_1, .string a1_2]) (t := 24) ?hr ?_; (case hd => rfl); (case hg => rfl); (case hr => first | (go_simp; done) | (go_simp; rfl)); intro gb121 hg w6 hbox hb; have n0_ := Aside0.mk (Kd.R_below (by (with_reducible repeat (first | apply Kd.R_alloc | apply Kd.R_drewN | apply Kd.R_drew)); exact HO0.out) hb); have n1_ := Aside0.mk (Kept.below (S := (fun k_ => P0_ k_)) (by repeat (first | (with_reducible first | exact HK.out | apply Kept.alloc | apply Kept.drewN | apply Kept.drew) | exact HK.out)) hb); have n2_ := Aside0.mk (below_step (by repeat (first | (with_reducible first | exact HB.out | apply below_alloc | apply pw_below_drewN | apply below_drew1) | exact HB.out)) hb); have n3_ := Aside0.mk (hbox); have n4_ := Aside0.mk ((by rw [hg]; exact (by first | exact HK.out.1 | exact (show Kept w _ (fun k_ => P0_ k_) from by repeat (first | (with_reducible first | exact HK.out | apply Kept.alloc | apply Kept.drewN | apply Kept.drew) | exact HK.out)).1) : w.heap.size ≤ gb121)); have n5_ := Aside0.mk ((by rw [hg]; exact (below_size (by repeat (first | (with_reducible first | exact HB.out | apply below_alloc | apply pw_below_drewN | apply below_drew1) | exact HB.out))) : w0.heap.size ≤ gb121)); clear HO0; clear HK; clear HB; have HO0 := n0_; have HK := n1_; have HB := n2_; have BK121 := n3_; have GW121 := n4_; have GE121 := n5_; clear n0_ n1_ n2_ n3_ n4_ n5_; clear hb hbox hg; have hcz7_0 : w6.cell? ⟨gb121, 0, none⟩ = some (.int .i64 a1_0) := (blk_cell BK121.out 0).trans rfl; have hcz7_1 : w6.cell? ⟨gb121, 1, none⟩ = some (.int .i64 a1_1) := (blk_cell BK121.out 1).trans rfl; have hcz7_2 : w6.cell? ⟨gb121, 2, none⟩ = some (.string a1_2) := (blk_cell BK121.out 2).trans rfl; have hfz7_0 := blk_frozen BK121.out 0; have hfz7_1 := blk_frozen BK121.out 1; have hfz7_2 := blk_frozen BK121.out 2) | ((with_reducible refine gate_builtin (b := .append) (xs := #[.tmp 5, .tmp 9]) rfl ?_); at_builtin; refine Kd.R_append (Kd.int .u8) (w0 := w0) w0.heap.size rfl (.tmp 5) (.tmp 9) 60 5 (.int .u8 0) 1 rfl Tryd.underlying60 info5 rfl (by decide) (by omega) u9000_ l0 ((a1_0) % 256) [.int .u8 ((a1_0) % 256)] (fun k_ => (P0_ k_ ∨ w.heap.size ≤ k_)) (fun _ => False) rfl rfl ?aP (fun _ hk => hk.elim) ?aF ?aO ?aB ?aS ?aL ?_; (case aP => exact rfl); (case aB => exact (by repeat (first | (with_reducible first | exact HB.out | apply below_alloc | apply pw_below_drewN | apply below_drew1 | refine below_set ?_ GE121.out) | exact HB.out))); (case aF => exact (fun k_ hk => (.inr (Nat.le_trans (by first | exact HK.out.1 | exact (show Kept w _ (fun k_ => P0_ k_) from by repeat (first | (with_reducible first | exact HK.out | apply Kept.alloc | apply Kept.drewN | apply Kept.drew | refine Kept.setCell ?_ (.inr GW121.out) _) | exact HK.out)).1) hk)))); (case aO => exact (by (with_reducible repeat (first | apply Kd.R_alloc | apply Kd.R_drewN | apply Kd.R_drew)); exact HO0.out)); (case aS => exact (below_size (by repeat (first | (with_reducible first | exact HB.out | apply below_alloc | apply pw_below_drewN | apply below_drew1 | refine below_set ?_ GE121.out) | exact HB.out)))); (case aL => have := LMc3.out; omega); intro v123 w8 ho hb hg hat; rw [← Ny122.out] at ho; have n0_ := Aside0.mk (blk_grown (g := gb121) (o := .cells #[.int .i64 a1_0, .int .i64 a1_1, .string a1_2] 24 (0, 0)) (by (with_reducible repeat (first | refine blk_drewN ?_ _ | refine blk_drew ?_ | refine blk_alloc ?_ _)); exact BK121.out) hg (Kd.R_ne HO0.out BK121.out (by decide))); have n1_ := Aside0.mk (hb); have n2_ := Aside0.mk (Kept.of_grown (S := (fun k_ => P0_ k_)) hg (by repeat (first | (with_reducible first | exact HK.out | apply Kept.alloc | apply Kept.drewN | apply Kept.drew | refine Kept.setCell ?_ (.inr GW121.out) _) | exact HK.out)) (fun k_ e_ => (HO0.out.1 k_ e_))); have n3_ := Aside0.mk (ho); clear BK121; clear HB; clear HK; clear HO0; have BK121 := n0_; have HB := n1_; have HK := n2_; have HO124 := n3_; clear n0_ n1_ n2_ n3_; clear ho hb hg hat; have hcz9_0 : w8.cell? ⟨gb121, 0, none⟩ = some (.int .i64 a1_0) := (blk_cell BK121.out 0).trans rfl; have hcz9_1 : w8.cell? ⟨gb121, 1, none⟩ = some (.int .i64 a1_1) := (blk_cell BK121.out 1).trans rfl; have hcz9_2 : w8.cell? ⟨gb121, 2, none⟩ = some (.string a1_2) := (blk_cell BK121.out 2).trans rfl; have hfz9_0 := blk_frozen BK121.out 0; have hfz9_1 := blk_frozen BK121.out 1; have hfz9_2 := blk_frozen BK121.out 2; obtain ⟨Ao10, co10, eo10⟩ := Kd.R_slice HO124.out; subst eo10) | ((with_reducible refine gate_callee (f := 35) rfl ?_); refine goesL_ (some 18) rfl rfl Tryd.func35 (by kernel_rfl) rfl #[.slice Ao10 y122.length co10, .int .u64 (IntKind.u64.wrap (a1_1)), .int .i64 8] rfl (by (try simp only [List.map_toArray, List.map_cons, List.map_nil]); first | done | rfl | (simp only [List.length_drop, List.length_take]; rfl) | (simp (disch := omega) only [u64_in]; rfl)) ?_; (with_reducible refine (pack_Num.calls k (fun k_ => some k_ = (.slice Ao10 y122.length co10 : Value).ownBlock) (.slice Ao10 y122.length co10) y122 (IntKind.u64.wrap (a1_1)) 8 t125 w0 _ ?side1 ?side2 A5.out).mono ?_); (case side1 => repeat (first | (with_reducible first | exact HB.out | apply below_alloc | apply pw_below_drewN | apply below_drew1 | refine below_set ?_ GE121.out) | exact HB.out)); (case side2 => exact Kd.R_tight rfl HO124.out); rintro e w11 ⟨v126, rfl, ho0, hb, hkp⟩; refine ⟨_, rfl, ?_⟩; have n0_ := Aside0.mk (blk_kept (by (with_reducible repeat (first | refine blk_drewN ?_ _ | refine blk_drew ?_ | refine blk_alloc ?_ _)); exact BK121.out) hkp (fun hs_ => (fun e_ => (Kd.R_ne HO124.out BK121.out (by decide)) e_) hs_)); have n1_ := Aside0.mk (Kd.R_mono (ok' := fun k_ => (P0_ k_ ∨ w.heap.size ≤ k_)) ho0 (fun k_ hk_ => Or.elim hk_ (fun hs_ => (HO124.out.1 k_ (hs_).symm)) (fun hn_ => (.inr (Nat.le_trans (by first | exact HK.out.1 | exact (show Kept w _ (fun k_ => P0_ k_) from by repeat (first | (with_reducible first | exact HK.out | apply Kept.alloc | apply Kept.drewN | apply Kept.drew | refine Kept.setCell ?_ (.inr GW121.out) _) | exact HK.out)).1) hn_))))); have n2_ := Aside0.mk (Kept.then_ (S := (fun k_ => P0_ k_)) (by repeat (first | (with_reducible first | exact HK.out | apply Kept.alloc | apply Kept.drewN | apply Kept.drew | refine Kept.setCell ?_ (.inr GW121.out) _) | exact HK.out)) hkp (fun k_ hs_ => (fun e_ => (HO124.out.1 k_ e_.symm)) hs_)); have n3_ := Aside0.mk (hb); clear BK121; clear HK; clear HB; clear HO124; have BK121 := n0_; have HO127 := n1_; have HK := n2_; have HB := n3_; clear n0_ n1_ n2_ n3_; (try clear hb); (try clear hkp); (try clear ho0)))
      go_ret
      exact ⟨_, by first | (with_reducible rfl) | (simp only [isEmpty_bne, Bool.not_not] <;> with_reducible rfl) | (simp [errW_none, errW_some] <;> with_reducible rfl) | (simp only [isEmpty_bne, Bool.not_not] <;> rfl) | rfl | (simp [errW_none, errW_some] <;> rfl) | (simp [*, errW_none, errW_some] <;> rfl), by (with_reducible repeat (first | apply Kd.R_alloc | apply Kd.R_drewN | apply Kd.R_drew)); exact HO127.out, by repeat (first | (with_reducible first | exact HB.out | apply below_alloc | apply pw_below_drewN | apply below_drew1 | refine below_set ?_ GE121.out) | exact HB.out), by repeat (first | (with_reducible first | exact HK.out | apply Kept.alloc | apply Kept.drewN | apply Kept.drew | refine Kept.setCell ?_ (.inr GW121.out) _) | exact HK.out)⟩
    · rw [if_neg c4] at H
      have c4b0 : (a1_0 == 1) = false := beq_eq_false_iff_ne.mpr c4
      have c4b1 : (a1_0 != 1) = true := bne_iff_ne.mpr c4
      replace H := Option.bind_eq_some_iff.mp H
      obtain ⟨t128, A120, H⟩ := H
      replace H : (some t128) = some r := H
      have A12 := Aside0.mk A120
      clear A120
      obtain rfl := Option.some.inj H
      go_enter Tryd.func25, Tryd.ntmps25
      go_wp2_with (first | ((with_reducible refine gate_dst (N := 3) rfl ?_); refine box_event ?hg (N := 3) ?hd (cs := #[.int .i64 a1_0, .int .i64 a1_1, .string a1_2]) (t := 24) ?hr ?_; (case hd => rfl); (case hg => rfl); (case hr => first | (go_simp; done) | (go_simp; rfl)); intro gb121 hg w13 hbox hb; have n0_ := Aside0.mk (Kd.R_below (by (with_reducible repeat (first | apply Kd.R_alloc | apply Kd.R_drewN | apply Kd.R_drew)); exact HO0.out) hb); have n1_ := Aside0.mk (Kept.below (S := (fun k_ => P0_ k_)) (by repeat (first | (with_reducible first | exact HK.out | apply Kept.alloc | apply Kept.drewN | apply Kept.drew) | exact HK.out)) hb); have n2_ := Aside0.mk (below_step (by repeat (first | (with_reducible first | exact HB.out | apply below_alloc | apply pw_below_drewN | apply below_drew1) | exact HB.out)) hb); have n3_ := Aside0.mk (hbox); have n4_ := Aside0.mk ((by rw [hg]; exact (by first | exact HK.out.1 | exact (show Kept w _ (fun k_ => P0_ k_) from by repeat (first | (with_reducible first | exact HK.out | apply Kept.alloc | apply Kept.drewN | apply Kept.drew) | exact HK.out)).1) : w.heap.size ≤ gb121)); have n5_ := Aside0.mk ((by rw [hg]; exact (below_size (by repeat (first | (with_reducible first | exact HB.out | apply below_alloc | apply pw_below_drewN | apply below_drew1) | exact HB.out))) : w0.heap.size ≤ gb121)); clear HO0; clear HK; clear HB; have HO0 := n0_; have HK := n1_; have HB := n2_; have BK121 := n3_; have GW121 := n4_; have GE121 := n5_; clear n0_ n1_ n2_ n3_ n4_ n5_; clear hb hbox hg; have hcz14_0 : w13.cell? ⟨gb121, 0, none⟩ = some (.int .i64 a1_0) := (blk_cell BK121.out 0).trans rfl; have hcz14_1 : w13.cell? ⟨gb121, 1, none⟩ = some (.int .i64 a1_1) := (blk_cell BK121.out 1).trans rfl; have hcz14_2 : w13.cell? ⟨gb121, 2, none⟩ = some (.string a1_2) := (blk_cell BK121.out 2).trans rfl; have hfz14_0 := blk_frozen BK121.out 0; have hfz14_1 := blk_frozen BK121.out 1; have hfz14_2 := blk_frozen BK121.out 2) | ((with_reducible refine gate_builtin (b := .append) (xs := #[.tmp 5, .tmp 9]) rfl ?_); at_builtin; refine Kd.R_append (Kd.int .u8) (w0 := w0) w0.heap.size rfl (.tmp 5) (.tmp 9) 60 5 (.int .u8 0) 1 rfl Tryd.underlying60 info5 rfl (by decide) (by omega) u9000_ l0 ((a1_0) % 256) [.int .u8 ((a1_0) % 256)] (fun k_ => (P0_ k_ ∨ w.heap.size ≤ k_)) (fun _ => False) rfl rfl ?aP (fun _ hk => hk.elim) ?aF ?aO ?aB ?aS ?aL ?_; (case aP => exact rfl); (case aB => exact (by repeat (first | (with_reducible first | exact HB.out | apply below_alloc | apply pw_below_drewN | apply below_drew1 | refine below_set ?_ GE121.out) | exact HB.out))); (case aF => exact (fun k_ hk => (.inr (Nat.le_trans (by first | exact HK.out.1 | exact (show Kept w _ (fun k_ => P0_ k_) from by repeat (first | (with_reducible first | exact HK.out | apply Kept.alloc | apply Kept.drewN | apply Kept.drew | refine Kept.setCell ?_ (.inr GW121.out) _) | exact HK.out)).1) hk)))); (case aO => exact (by (with_reducible repeat (first | apply Kd.R_alloc | apply Kd.R_drewN | apply Kd.R_drew)); exact HO0.out)); (case aS => exact (below_size (by repeat (first | (with_reducible first | exact HB.out | apply below_alloc | apply pw_below_drewN | apply below_drew1 | refine below_set ?_ GE121.out) | exact HB.out)))); (case aL => have := LMc3.out; omega); intro v123 w15 ho hb hg hat; rw [← Ny122.out] at ho; have n0_ := Aside0.mk (blk_grown (g := gb121) (o := .cells #[.int .i64 a1_0, .int .i64 a1_1, .string a1_2] 24 (0, 0)) (by (with_reducible repeat (first | refine blk_drewN ?_ _ | refine blk_drew ?_ | refine blk_alloc ?_ _)); exact BK121.out) hg (Kd.R_ne HO0.out BK121.out (by decide))); have n1_ := Aside0.mk (hb); have n2_ := Aside0.mk (Kept.of_grown (S := (fun k_ => P0_ k_)) hg (by repeat (first | (with_reducible first | exact HK.out | apply Kept.alloc | apply Kept.drewN | apply Kept.drew | refine Kept.setCell ?_ (.inr GW121.out) _) | exact HK.out)) (fun k_ e_ => (HO0.out.1 k_ e_))); have n3_ := Aside0.mk (ho); clear BK121; clear HB; clear HK; clear HO0; have BK121 := n0_; have HB := n1_; have HK := n2_; have HO124 := n3_; clear n0_ n1_ n2_ n3_; clear ho hb hg hat; have hcz16_0 : w15.cell? ⟨gb121, 0, none⟩ = some (.int .i64 a1_0) := (blk_cell BK121.out 0).trans rfl; have hcz16_1 : w15.cell? ⟨gb121, 1, none⟩ = some (.int .i64 a1_1) := (blk_cell BK121.out 1).trans rfl; have hcz16_2 : w15.cell? ⟨gb121, 2, none⟩ = some (.string a1_2) := (blk_cell BK121.out 2).trans rfl; have hfz16_0 := blk_frozen BK121.out 0; have hfz16_1 := blk_frozen BK121.out 1; have hfz16_2 := blk_frozen BK121.out 2; obtain ⟨Ao17, co17, eo17⟩ := Kd.R_slice HO124.out; subst eo17) | ((with_reducible refine gate_callee (f := 41) rfl ?_); refine goesL_ (some 22) rfl rfl Tryd.func41 (by kernel_rfl) rfl #[.slice Ao17 y122.length co17, .string a1_2] rfl (by (try simp only [List.map_toArray, List.map_cons, List.map_nil]); first | done | rfl | (simp only [List.length_drop, List.length_take]; rfl) | (simp (disch := omega) only [u64_in]; rfl)) ?_; (with_reducible refine (pack_Str.calls (fun k_ => some k_ = (.slice Ao17 y122.length co17 : Value).ownBlock) (.slice Ao17 y122.length co17) y122 a1_2 t128 w0 _ ?side1 ?side2 A12.out).mono ?_); (case side1 => repeat (first | (with_reducible first | exact HB.out | apply below_alloc | apply pw_below_drewN | apply below_drew1 | refine below_set ?_ GE121.out) | exact HB.out)); (case side2 => exact Kd.R_tight rfl HO124.out); rintro e w18 ⟨v129, rfl, ho0, hb, hkp⟩; refine ⟨_, rfl, ?_⟩; have n0_ := Aside0.mk (blk_kept (by (with_reducible repeat (first | refine blk_drewN ?_ _ | refine blk_drew ?_ | refine blk_alloc ?_ _)); exact BK121.out) hkp (fun hs_ => (fun e_ => (Kd.R_ne HO124.out BK121.out (by decide)) e_) hs_)); have n1_ := Aside0.mk (Kd.R_mono (ok' := fun k_ => (P0_ k_ ∨ w.heap.size ≤ k_)) ho0 (fun k_ hk_ => Or.elim hk_ (fun hs_ => (HO124.out.1 k_ (hs_).symm)) (fun hn_ => (.inr (Nat.le_trans (by first | exact HK.out.1 | exact (show Kept w _ (fun k_ => P0_ k_) from by repeat (first | (with_reducible first | exact HK.out | apply Kept.alloc | apply Kept.drewN | apply Kept.drew | refine Kept.setCell ?_ (.inr GW121.out) _) | exact HK.out)).1) hn_))))); have n2_ := Aside0.mk (Kept.then_ (S := (fun k_ => P0_ k_)) (by repeat (first | (with_reducible first | exact HK.out | apply Kept.alloc | apply Kept.drewN | apply Kept.drew | refine Kept.setCell ?_ (.inr GW121.out) _) | exact HK.out)) hkp (fun k_ hs_ => (fun e_ => (HO124.out.1 k_ e_.symm)) hs_)); have n3_ := Aside0.mk (hb); clear BK121; clear HK; clear HB; clear HO124; have BK121 := n0_; have HO130 := n1_; have HK := n2_; have HB := n3_; clear n0_ n1_ n2_ n3_; (try clear hb); (try clear hkp); (try clear ho0)))
      go_ret
      exact ⟨_, by first | (with_reducible rfl) | (simp only [isEmpty_bne, Bool.not_not] <;> with_reducible rfl) | (simp [errW_none, errW_some] <;> with_reducible rfl) | (simp only [isEmpty_bne, Bool.not_not] <;> rfl) | rfl | (simp [errW_none, errW_some] <;> rfl) | (simp [*, errW_none, errW_some] <;> rfl), by (with_reducible repeat (first | apply Kd.R_alloc | apply Kd.R_drewN | apply Kd.R_drew)); exact HO130.out, by repeat (first | (with_reducible first | exact HB.out | apply below_alloc | apply pw_below_drewN | apply below_drew1 | refine below_set ?_ GE121.out) | exact HB.out), by repeat (first | (with_reducible first | exact HK.out | apply Kept.alloc | apply Kept.drewN | apply Kept.drew | refine Kept.setCell ?_ (.inr GW121.out) _) | exact HK.out)⟩
  · rw [if_neg c3] at H
    exact absurd H (by simp)

/-! ### effects_Value: function 9 -/
def effects_Value.f (k : Nat) (a0_0 : Int) (a0_1 : Int) (a0_2 : ByteArray) : Option (ByteArray × Int) := (effects_odd.f a0_0 a0_1 a0_2).bind fun t132 => (if t132 = true then (some ((⟨#[]⟩ : ByteArray), 6)) else ((effects_put.f k ([] : List Int) a0_0 a0_1 a0_2).bind fun t133 => (some (strOfNums t133, 0))))
theorem effects_Value.mono : ∀ a0 a1 a2 k, LeO (effects_Value.f k a0 a1 a2) (effects_Value.f (k + 1) a0 a1 a2) := by
  intro a0 a1 a2 k
  unfold effects_Value.f
  repeat' first
      | (with_reducible exact effects_put.mono _ _ _ _ _)
      | (with_reducible exact LeO.refl _)
      | (with_reducible exact LeO.none _)
      | (with_reducible refine LeO.ite ?_ ?_)
      | (with_reducible refine LeO.bind ?_ (fun _ => ?_))
      | exact effects_put.mono _ _ _ _ _
      | exact LeO.none _
      | refine LeO.ite ?_ ?_
      | refine LeO.bind ?_ (fun _ => ?_)
set_option maxHeartbeats 8000000 in
set_option maxRecDepth 100000 in
theorem effects_Value.calls (k : Nat) (a0_0 : Int) (a0_1 : Int) (a0_2 : ByteArray) (r1 : ByteArray) (r2 : Int) (w : World) (h : effects_Value.f k a0_0 a0_1 a0_2 = some (r1, r2)) :
    Calls Tryd.prog 9 #[.agg #[.int .i64 a0_0, .int .i64 a0_1, .string a0_2]] w fun e w' => e = .returned (.tuple #[.string r1, .int .i64 r2]) ∧ Below w.heap.size w w' := by
  have hu24 := Tryd.underlying24
  have HB := Aside0.mk (Below.refl w.heap.size w)
  have H : ((effects_odd.f a0_0 a0_1 a0_2).bind fun t132 => (if t132 = true then (some ((⟨#[]⟩ : ByteArray), 6)) else ((effects_put.f k ([] : List Int) a0_0 a0_1 a0_2).bind fun t133 => (some (strOfNums t133, 0))))) = some (r1, r2) := h
  clear h
  replace H := Option.bind_eq_some_iff.mp H
  obtain ⟨t132, A20, H⟩ := H
  replace H : (if t132 = true then (some ((⟨#[]⟩ : ByteArray), 6)) else ((effects_put.f k ([] : List Int) a0_0 a0_1 a0_2).bind fun t133 => (some (strOfNums t133, 0)))) = some (r1, r2) := H
  have A2 := Aside0.mk A20
  clear A20
  by_cases c3 : t132 = true
  · subst c3
    have H1 : (some ((⟨#[]⟩ : ByteArray), 6)) = some (r1, r2) := by rw [if_pos rfl] at H; exact H
    clear H
    have H := H1
    clear H1
    simp only [Option.some.injEq, Prod.mk.injEq] at H
    obtain ⟨rfl, rfl⟩ := H
    go_enter Tryd.func9, Tryd.ntmps9
    go_wp2_with (first | ((with_reducible refine gate_dst (N := 1) rfl ?_); refine box_event ?hg (N := 1) ?hd (cs := #[.int .i64 a0_0, .int .i64 a0_1, .string a0_2]) (t := 24) ?hr ?_; (case hd => rfl); (case hg => rfl); (case hr => first | (go_simp; done) | (go_simp; rfl)); intro gb131 hg w4 hbox hb; have n0_ := Aside0.mk (below_step (by repeat (first | (with_reducible first | exact HB.out | apply below_alloc | apply pw_below_drewN | apply below_drew1) | exact HB.out)) hb); have n1_ := Aside0.mk (hbox); have n2_ := Aside0.mk ((by rw [hg]; exact (below_size (by repeat (first | (with_reducible first | exact HB.out | apply below_alloc | apply pw_below_drewN | apply below_drew1) | exact HB.out))) : w.heap.size ≤ gb131)); have n3_ := Aside0.mk ((by rw [hg]; exact (below_size (by repeat (first | (with_reducible first | exact HB.out | apply below_alloc | apply pw_below_drewN | apply below_drew1) | exact HB.out))) : w.heap.size ≤ gb131)); clear HB; have HB := n0_; have BK131 := n1_; have GW131 := n2_; have GE131 := n3_; clear n0_ n1_ n2_ n3_; clear hb hbox hg; have hcz5_0 : w4.cell? ⟨gb131, 0, none⟩ = some (.int .i64 a0_0) := (blk_cell BK131.out 0).trans rfl; have hcz5_1 : w4.cell? ⟨gb131, 1, none⟩ = some (.int .i64 a0_1) := (blk_cell BK131.out 1).trans rfl; have hcz5_2 : w4.cell? ⟨gb131, 2, none⟩ = some (.string a0_2) := (blk_cell BK131.out 2).trans rfl; have hfz5_0 := blk_frozen BK131.out 0; have hfz5_1 := blk_frozen BK131.out 1; have hfz5_2 := blk_frozen BK131.out 2) | ((with_reducible refine gate_callee (f := 24) rfl ?_); refine goesL_ (some 5) rfl rfl Tryd.func24 (by kernel_rfl) rfl #[.agg #[.int .i64 a0_0, .int .i64 a0_1, .string a0_2]] rfl (by (try simp only [List.map_toArray, List.map_cons, List.map_nil]); first | done | rfl | (simp only [List.length_drop, List.length_take]; rfl) | (simp (disch := omega) only [u64_in]; rfl)) ?_; (with_reducible refine (effects_odd.calls a0_0 a0_1 a0_2 true _ A2.out).mono ?_); rintro e w6 ⟨rfl, hb⟩; refine ⟨_, rfl, ?_⟩; have n0_ := Aside0.mk (blk_below (g := gb131) (o := .cells #[.int .i64 a0_0, .int .i64 a0_1, .string a0_2] 24 (0, 0)) (by (with_reducible repeat (first | refine blk_drewN ?_ _ | refine blk_drew ?_ | refine blk_alloc ?_ _)); exact BK131.out) hb); have n1_ := Aside0.mk (below_step (by repeat (first | (with_reducible first | exact HB.out | apply below_alloc | apply pw_below_drewN | apply below_drew1 | refine below_set ?_ GE131.out) | exact HB.out)) hb); clear BK131; clear HB; have BK131 := n0_; have HB := n1_; clear n0_ n1_; (try clear hb); (try clear hb2); (try clear hk); (try clear hi)))
    go_ret2
    exact ⟨by first | (with_reducible rfl) | (simp only [isEmpty_bne, Bool.not_not] <;> with_reducible rfl) | (simp [errW_none, errW_some] <;> with_reducible rfl) | (simp only [isEmpty_bne, Bool.not_not] <;> rfl) | rfl | (simp [errW_none, errW_some] <;> rfl) | (simp [*, errW_none, errW_some] <;> rfl), by repeat (first | (with_reducible first | exact HB.out | apply below_alloc | apply pw_below_drewN | apply below_drew1 | refine below_set ?_ GE131.out) | exact HB.out)⟩
  · replace c3 := Bool.eq_false_iff.mpr c3
    subst c3
    have H1 : ((effects_put.f k ([] : List Int) a0_0 a0_1 a0_2).bind fun t133 => (some (strOfNums t133, 0))) = some (r1, r2) := by rw [if_neg (show ¬ (false = true) by decide)] at H; exact H
    clear H
    have H := H1
    clear H1
    replace H := Option.bind_eq_some_iff.mp H
    obtain ⟨t133, A70, H⟩ := H
    replace H : (some (strOfNums t133, 0)) = some (r1, r2) := H
    have A7 := Aside0.mk A70
    clear A70
    simp only [Option.some.injEq, Prod.mk.injEq] at H
    obtain ⟨rfl, rfl⟩ := H
    go_enter Tryd.func9, Tryd.ntmps9
    go_wp2_with (first | ((with_reducible refine gate_dst (N := 1) rfl ?_); refine box_event ?hg (N := 1) ?hd (cs := #[.int .i64 a0_0, .int .i64 a0_1, .string a0_2]) (t := 24) ?hr ?_; (case hd => rfl); (case hg => rfl); (case hr => first | (go_simp; done) | (go_simp; rfl)); intro gb131 hg w8 hbox hb; have n0_ := Aside0.mk (below_step (by repeat (first | (with_reducible first | exact HB.out | apply below_alloc | apply pw_below_drewN | apply below_drew1) | exact HB.out)) hb); have n1_ := Aside0.mk (hbox); have n2_ := Aside0.mk ((by rw [hg]; exact (below_size (by repeat (first | (with_reducible first | exact HB.out | apply below_alloc | apply pw_below_drewN | apply below_drew1) | exact HB.out))) : w.heap.size ≤ gb131)); have n3_ := Aside0.mk ((by rw [hg]; exact (below_size (by repeat (first | (with_reducible first | exact HB.out | apply below_alloc | apply pw_below_drewN | apply below_drew1) | exact HB.out))) : w.heap.size ≤ gb131)); clear HB; have HB := n0_; have BK131 := n1_; have GW131 := n2_; have GE131 := n3_; clear n0_ n1_ n2_ n3_; clear hb hbox hg; have hcz9_0 : w8.cell? ⟨gb131, 0, none⟩ = some (.int .i64 a0_0) := (blk_cell BK131.out 0).trans rfl; have hcz9_1 : w8.cell? ⟨gb131, 1, none⟩ = some (.int .i64 a0_1) := (blk_cell BK131.out 1).trans rfl; have hcz9_2 : w8.cell? ⟨gb131, 2, none⟩ = some (.string a0_2) := (blk_cell BK131.out 2).trans rfl; have hfz9_0 := blk_frozen BK131.out 0; have hfz9_1 := blk_frozen BK131.out 1; have hfz9_2 := blk_frozen BK131.out 2) | ((with_reducible refine gate_callee (f := 24) rfl ?_); refine goesL_ (some 5) rfl rfl Tryd.func24 (by kernel_rfl) rfl #[.agg #[.int .i64 a0_0, .int .i64 a0_1, .string a0_2]] rfl (by (try simp only [List.map_toArray, List.map_cons, List.map_nil]); first | done | rfl | (simp only [List.length_drop, List.length_take]; rfl) | (simp (disch := omega) only [u64_in]; rfl)) ?_; (with_reducible refine (effects_odd.calls a0_0 a0_1 a0_2 false _ A2.out).mono ?_); rintro e w10 ⟨rfl, hb⟩; refine ⟨_, rfl, ?_⟩; have n0_ := Aside0.mk (blk_below (g := gb131) (o := .cells #[.int .i64 a0_0, .int .i64 a0_1, .string a0_2] 24 (0, 0)) (by (with_reducible repeat (first | refine blk_drewN ?_ _ | refine blk_drew ?_ | refine blk_alloc ?_ _)); exact BK131.out) hb); have n1_ := Aside0.mk (below_step (by repeat (first | (with_reducible first | exact HB.out | apply below_alloc | apply pw_below_drewN | apply below_drew1 | refine below_set ?_ GE131.out) | exact HB.out)) hb); clear BK131; clear HB; have BK131 := n0_; have HB := n1_; clear n0_ n1_; (try clear hb); (try clear hb2); (try clear hk); (try clear hi); have hcz11_0 : w10.cell? ⟨gb131, 0, none⟩ = some (.int .i64 a0_0) := (blk_cell BK131.out 0).trans rfl; have hcz11_1 : w10.cell? ⟨gb131, 1, none⟩ = some (.int .i64 a0_1) := (blk_cell BK131.out 1).trans rfl; have hcz11_2 : w10.cell? ⟨gb131, 2, none⟩ = some (.string a0_2) := (blk_cell BK131.out 2).trans rfl; have hfz11_0 := blk_frozen BK131.out 0; have hfz11_1 := blk_frozen BK131.out 1; have hfz11_2 := blk_frozen BK131.out 2) | ((with_reducible refine gate_callee (f := 25) rfl ?_); refine goesL_ (some 7) rfl rfl Tryd.func25 (by kernel_rfl) rfl #[.slice none 0 0, .agg #[.int .i64 a0_0, .int .i64 a0_1, .string a0_2]] rfl (by (try simp only [List.map_toArray, List.map_cons, List.map_nil]); first | done | rfl | (simp only [List.length_drop, List.length_take]; rfl) | (simp (disch := omega) only [u64_in]; rfl)) ?_; (refine (effects_put.calls k (fun k_ => some k_ = (.slice none 0 0 : Value).ownBlock) (.slice none 0 0) ([] : List Int) a0_0 a0_1 a0_2 t133 w _ ?side1 ?side2 A7.out).mono ?_); (case side1 => repeat (first | (with_reducible first | exact HB.out | apply below_alloc | apply pw_below_drewN | apply below_drew1 | refine below_set ?_ GE131.out) | exact HB.out)); (case side2 => exact Kd.R_nil _ _ _ _ _); rintro e w12 ⟨v134, rfl, ho0, hb, hkp⟩; refine ⟨_, rfl, ?_⟩; have n0_ := Aside0.mk (blk_kept (by (with_reducible repeat (first | refine blk_drewN ?_ _ | refine blk_drew ?_ | refine blk_alloc ?_ _)); exact BK131.out) hkp (fun hs_ => (fun e_ => by simp [Value.ownBlock] at e_) hs_)); have n1_ := Aside0.mk (Kd.R_mono (ok' := fun k_ => True) ho0 (fun k_ hk_ => trivial)); have n2_ := Aside0.mk (hb); clear BK131; clear HB; have BK131 := n0_; have HO135 := n1_; have HB := n2_; clear n0_ n1_ n2_; (try clear hb); (try clear hkp); (try clear ho0); have hcv13 := own_string (P := Tryd.prog) Tryd.underlying60 Tryd.underlying5 Tryd.underlying9 (Kd.own_of_R HO135.out)))
    go_ret2
    exact ⟨by first | (with_reducible rfl) | (simp only [isEmpty_bne, Bool.not_not] <;> with_reducible rfl) | (simp [errW_none, errW_some] <;> with_reducible rfl) | (simp only [isEmpty_bne, Bool.not_not] <;> rfl) | rfl | (simp [errW_none, errW_some] <;> rfl) | (simp [*, errW_none, errW_some] <;> rfl), by repeat (first | (with_reducible first | exact HB.out | apply below_alloc | apply pw_below_drewN | apply below_drew1 | refine below_set ?_ GE131.out) | exact HB.out)⟩

/-- A state of type 85 at block g of W; what its slices lead to came in by w0. -/
def IsS85 (w0 W : World) (g : Nat) (f0 : ByteArray) (f1 : Int) : Prop := W.heap[g]? = some (.cells #[.string f0, .int .i64 f1] 85 (0, 0)) ∧ w0.heap.size ≤ g
theorem IsS85.grown {w0 W : World} {g : Nat} {f0 : ByteArray} {f1 : Int} {W1 : World} {row : Option Nat} (h : IsS85 w0 W g f0 f1) (hw : W.grownBy W1 row) (hne : some g ≠ row) : IsS85 w0 W1 g f0 f1 := by
  obtain ⟨hb, hg⟩ := h
  exact ⟨blk_grown hb hw hne, hg⟩
theorem IsS85.own_neN {w0 W : World} {g : Nat} {f0 : ByteArray} {f1 : Int} {α : Type} {d : Kd α} {e : Nat} {base : Nat} {ok : Nat → Prop} {v : Value} {xs : List α} (h : IsS85 w0 W g f0 f1) (ho : Kd.N d e W base ok v xs) (ht : e ≠ 85) : some g ≠ v.ownBlock := by
  obtain ⟨hb, hg⟩ := h
  exact Kd.N_ne ho hb ht
theorem IsS85.fresh {w0 W : World} {g : Nat} {f0 : ByteArray} {f1 : Int} (h : IsS85 w0 W g f0 f1) : ∀ k, W.heap.size ≤ k → k ≠ g := by
  obtain ⟨hb, hg⟩ := h
  exact Kd.freshB hb
theorem IsS85.kept {w0 W : World} {g : Nat} {f0 : ByteArray} {f1 : Int} {W1 : World} {S : Nat → Prop} (h : IsS85 w0 W g f0 f1) (hk : Kept W W1 S) (hne : ¬ S g) : IsS85 w0 W1 g f0 f1 := by
  obtain ⟨hb, hg⟩ := h
  exact ⟨blk_kept hb hk hne, hg⟩
theorem IsS85.below {w0 W : World} {g : Nat} {f0 : ByteArray} {f1 : Int} {W1 : World} (h : IsS85 w0 W g f0 f1) (hw : Below W.heap.size W W1) : IsS85 w0 W1 g f0 f1 := h.grown (grown_of_below hw none) (by simp)
theorem IsS85.alloc {w0 W : World} {g : Nat} {f0 : ByteArray} {f1 : Int} (h : IsS85 w0 W g f0 f1) (o : Obj) : IsS85 w0 (W.alloc o) g f0 f1 := h.below (below_alloc (Below.refl _ _) o)
theorem IsS85.drewN {w0 W : World} {g : Nat} {f0 : ByteArray} {f1 : Int} (h : IsS85 w0 W g f0 f1) (m : Nat) : IsS85 w0 (W.drewN m) g f0 f1 := h
theorem IsS85.drew {w0 W : World} {g : Nat} {f0 : ByteArray} {f1 : Int} (h : IsS85 w0 W g f0 f1) : IsS85 w0 W.drew g f0 f1 := h
theorem IsS85.at_ {w0 W : World} {g : Nat} {f0 : ByteArray} {f1 : Int} {w' : World} {m : Nat} (hq : W.drewN m = w') (h : IsS85 w0 W g f0 f1) : IsS85 w0 w' g f0 f1 := by subst hq; exact IsS85.drewN h m
theorem IsS85.apart {w0 W : World} {g : Nat} {f0 : ByteArray} {f1 : Int} {α : Type} {d : Kd α} {e : Nat} {base : Nat} {ok : Nat → Prop} {v : Value} {xs : List α} (h : IsS85 w0 W g f0 f1) (ho : d.R e W base ok v xs) (ht : ∀ q, q ∈ e :: d.E → q ≠ 85) : d.R e W base (fun k => ok k ∧ k ≠ g) v xs := by
  obtain ⟨hb, hg⟩ := h
  exact Kd.R_types ho hb ht
theorem IsS85.own_ne {w0 W : World} {g : Nat} {f0 : ByteArray} {f1 : Int} {α : Type} {d : Kd α} {e : Nat} {base : Nat} {ok : Nat → Prop} {v : Value} {xs : List α} (h : IsS85 w0 W g f0 f1) (ho : d.R e W base ok v xs) (ht : e ≠ 85) : some g ≠ v.ownBlock := by
  obtain ⟨hb, hg⟩ := h
  exact Kd.R_ne ho hb ht
theorem IsS85.apartQ {w0 W : World} {g : Nat} {f0 : ByteArray} {f1 : Int} {α : Type} {d : Kd α} {e : Nat} {base : Nat} {ok : Nat → Prop} {v : Value} {xs : List α} (h : IsS85 w0 W g f0 f1) (ho : d.Q e W base ok v xs) (ht : ∀ q, q ∈ e :: d.E → q ≠ 85) : d.Q e W base (fun k => ok k ∧ k ≠ g) v xs := by
  obtain ⟨hb, hg⟩ := h
  exact Kd.Q_types ho hb ht
theorem IsS85.own_neQ {w0 W : World} {g : Nat} {f0 : ByteArray} {f1 : Int} {α : Type} {d : Kd α} {e : Nat} {base : Nat} {ok : Nat → Prop} {v : Value} {xs : List α} (h : IsS85 w0 W g f0 f1) (ho : d.Q e W base ok v xs) (ht : e ≠ 85) : some g ≠ v.ownBlock := by
  obtain ⟨hb, hg⟩ := h
  exact Kd.Q_ne ho hb ht
theorem IsS85.apartS {w0 W : World} {g : Nat} {f0 : ByteArray} {f1 : Int} {α : Type} {d : Kd α} {e : Nat} {base : Nat} {ok : Nat → Prop} {v : Value} {xs : List α} (h : IsS85 w0 W g f0 f1) (ho : d.S e W base ok v xs) (ht : ∀ q, q ∈ e :: d.E → q ≠ 85) : d.S e W base (fun k => ok k ∧ k ≠ g) v xs := by
  obtain ⟨hb, hg⟩ := h
  exact Kd.S_types ho hb ht
theorem IsS85.own_neS {w0 W : World} {g : Nat} {f0 : ByteArray} {f1 : Int} {α : Type} {d : Kd α} {e : Nat} {base : Nat} {ok : Nat → Prop} {v : Value} {xs : List α} (h : IsS85 w0 W g f0 f1) (ho : d.S e W base ok v xs) (ht : e ≠ 85) : some g ≠ v.ownBlock := by
  obtain ⟨hb, hg⟩ := h
  exact Kd.S_ne ho hb ht
theorem IsS85.lt {w0 W : World} {g : Nat} {f0 : ByteArray} {f1 : Int} (h : IsS85 w0 W g f0 f1) : g < W.heap.size := by
  obtain ⟨hb, hg⟩ := h
  exact blk_lt hb
theorem IsS85.ge {w0 W : World} {g : Nat} {f0 : ByteArray} {f1 : Int} (h : IsS85 w0 W g f0 f1) : w0.heap.size ≤ g := by
  obtain ⟨hb, hg⟩ := h
  exact hg
theorem IsS85.ne_blk {w0 W : World} {g : Nat} {f0 : ByteArray} {f1 : Int} {a : Nat} {cs : Array Value} {t : TypeId} {fr : Nat × Nat} (h : IsS85 w0 W g f0 f1) (hb2 : W.heap[a]? = some (.cells cs t fr)) (ht : t ≠ 85) : g ≠ a := by
  obtain ⟨hb, hg⟩ := h
  rintro rfl
  rw [hb] at hb2
  injection hb2 with hb2
  injection hb2 with _ ht2
  exact ht ht2.symm
theorem IsS85.far {w0 W : World} {g : Nat} {f0 : ByteArray} {f1 : Int} {p : Addr} (h : IsS85 w0 W g f0 f1) (hne : g ≠ p.block) (u : Value) : IsS85 w0 (W.setCell p u) g f0 f1 := by
  obtain ⟨hb, hg⟩ := h
  exact ⟨blk_far hb hne u, hg⟩
theorem cellS85_0 {W : World} {g : Nat} {f0 : ByteArray} {f1 : Int} (h : W.heap[g]? = some (.cells #[.string f0, .int .i64 f1] 85 (0, 0))) : W.cell? ⟨g, 0, none⟩ = some (.string f0) := (blk_cell h 0).trans rfl
theorem IsS85.set_0 {w0 W : World} {g : Nat} {f0 : ByteArray} {f1 : Int} (h : IsS85 w0 W g f0 f1) (x : ByteArray) : IsS85 w0 (W.setCell ⟨g, 0, none⟩ (.string x)) g x f1 := by
  obtain ⟨hb, hg⟩ := h
  exact ⟨by simpa using blk_set hb 0 (.string x), hg⟩
theorem cellS85_1 {W : World} {g : Nat} {f0 : ByteArray} {f1 : Int} (h : W.heap[g]? = some (.cells #[.string f0, .int .i64 f1] 85 (0, 0))) : W.cell? ⟨g, 1, none⟩ = some (.int .i64 f1) := (blk_cell h 1).trans rfl
theorem IsS85.set_1 {w0 W : World} {g : Nat} {f0 : ByteArray} {f1 : Int} (h : IsS85 w0 W g f0 f1) (x : Int) : IsS85 w0 (W.setCell ⟨g, 1, none⟩ (.int .i64 x)) g f0 x := by
  obtain ⟨hb, hg⟩ := h
  exact ⟨by simpa using blk_set hb 1 (.int .i64 x), hg⟩
theorem IsS85.new (w0 W : World) (f0 : ByteArray) (f1 : Int) (hB : Below w0.heap.size w0 W) : IsS85 w0 (W.alloc (.cells #[.string f0, .int .i64 f1] 85)) W.heap.size f0 f1 := ⟨by simpa using heap_alloc_new W _, hB.size⟩

/-! ### pack_From: function 29 -/
def pack_From.f (a0 : ByteArray) : Option (ByteArray × Int) := some (a0, 0)
set_option maxHeartbeats 8000000 in
set_option maxRecDepth 100000 in
theorem pack_From.calls (a0 : ByteArray) (r1 : ByteArray) (r2 : Int) (w0 w : World) (hB : Below w0.heap.size w0 w) (h : pack_From.f a0 = some (r1, r2)) :
    Calls Tryd.prog 29 #[.string a0] w fun e w' => ∃ g_ : Nat, e = .returned (.pointer (some ⟨g_, 0, none⟩)) ∧ IsS85 w0 w' g_ r1 r2 ∧ Below w0.heap.size w0 w' ∧ Below w.heap.size w w' := by
  have hu85 := Tryd.underlying85
  have HBW := Aside0.mk (Below.refl w.heap.size w)
  have HW0 := Aside0.mk hB.size
  have HB := Aside0.mk hB
  clear hB
  have H : (some (a0, 0)) = some (r1, r2) := h
  clear h
  simp only [Option.some.injEq, Prod.mk.injEq] at H
  obtain ⟨rfl, rfl⟩ := H
  go_enter Tryd.func29, Tryd.ntmps29
  go_wp2_with (first | ((with_reducible refine gate_dst (N := 5) rfl ?_); refine box_event ?hg (N := 5) ?hd (cs := #[.string a0, .int .i64 0]) (t := 85) ?hr ?_; (case hd => rfl); (case hg => rfl); (case hr => first | (go_simp; done) | (go_simp; rfl)); intro gb136 hg w2 hbox hb; have n0_ := Aside0.mk (below_step HBW.out hb); have n1_ := Aside0.mk (below_step (by repeat (first | (with_reducible first | exact HB.out | apply below_alloc | apply pw_below_drewN | apply below_drew1) | exact HB.out)) hb); have n2_ := Aside0.mk (hbox); have n3_ := Aside0.mk ((by rw [hg]; exact (below_size (by repeat (first | (with_reducible first | exact HBW.out | apply below_alloc | apply pw_below_drewN | apply below_drew1) | exact HBW.out))) : w.heap.size ≤ gb136)); have n4_ := Aside0.mk ((Nat.le_trans HW0.out (by rw [hg]; exact (below_size (by repeat (first | (with_reducible first | exact HBW.out | apply below_alloc | apply pw_below_drewN | apply below_drew1) | exact HBW.out))) : w.heap.size ≤ gb136) : w0.heap.size ≤ gb136)); clear HBW; clear HB; have HBW := n0_; have HB := n1_; have BK136 := n2_; have GW136 := n3_; have GE136 := n4_; clear n0_ n1_ n2_ n3_ n4_; clear hb hbox hg))
  go_ret
  exact ⟨_, rfl, (show IsS85 w0 _ gb136 a0 0 from ⟨by (with_reducible repeat (first | refine blk_drewN ?_ _ | refine blk_drew ?_ | refine blk_alloc ?_ _)); exact BK136.out, GE136.out⟩), by repeat (first | (with_reducible first | exact HB.out | apply below_alloc | apply pw_below_drewN | apply below_drew1 | refine below_set ?_ GE136.out) | exact HB.out), by repeat (first | (with_reducible first | exact HBW.out | apply below_alloc | apply pw_below_drewN | apply below_drew1 | refine below_set ?_ GW136.out) | exact HBW.out)⟩

end Go.Proofs.YtjkjkebblkmpkaaDoor.PAll
