/- Printed walks of the functions that the laws reach: each function, what it computes, and that it does. No conditions. -/
import Derived.Test.YtamohmpapdecdaaDoorPAllx0
import Derived.Test.YtamohmpapdecdaaDoorPAllx2
namespace Go.Proofs.YtamohmpapdecdaaDoor.PAll
open Go.RowKit Go.Proofs.YtamohmpapdecdaaDoor.XW Go.Proofs.YtamohmpapdecdaaDoor.XLib Go.Proofs.YtamohmpapdecdaaDoorW.PrintWords Go.Proofs.YtamohmpapdecdaaDoorW.PrintLast Go.Proofs.YtamohmpapdecdaaDoorW.PrintMore
attribute [local go_sem] max2_int min2_int max_two min_two max_three min_three max_four min_four   -- for this text's walks alone
set_option linter.unusedVariables false
set_option linter.unusedSimpArgs false

/-! ### keys_Write: function 11 -/
/-- may a value not be? -/
def oddV (v : S39) : Bool := if v.f0 = 1 then v.f2.toList != [] else if v.f0 = 2 then v.f1 != 0 else true
theorem odd_val (v : S39) : keys_odd.f v.f0 v.f1 v.f2 = some (oddV v) := by
  unfold keys_odd.f oddV; (repeat' split) <;> first | rfl | omega
theorem rd39_at (l : List S39) (i : Nat) (h : i < l.length) : rd_T39 l (i : Int) = l[i] := by
  unfold rd_T39; rw [Int.toNat_natCast, List.getD_eq_getElem?_getD, List.getElem?_eq_getElem h]; rfl
theorem index_odd (l : List S39) (hl : l.length ≤ 140737488355328) : ∀ m i : Nat, i + m = l.length →
    ∃ r, slices_IndexFunc_at_keys_odd.l0 (m + 1) l (l.length : Int) (i : Int) = some r ∧ decide (r ≥ 0) = (l.drop i).any oddV := by
  intro m
  induction m with
  | zero =>
    intro i hi
    refine ⟨-1, ?_, ?_⟩
    · simp only [slices_IndexFunc_at_keys_odd.l0]; rw [if_neg (by omega)]
    · rw [List.drop_eq_nil_of_le (by omega)]; rfl
  | succ m ih =>
    intro i hi
    have hlt : i < l.length := by omega
    simp only [slices_IndexFunc_at_keys_odd.l0]
    rw [if_pos (by omega), if_pos (by omega), if_pos (by omega), rd39_at l i hlt, odd_val, Option.bind_some]
    rw [List.drop_eq_getElem_cons hlt, List.any_cons]
    cases ho : oddV l[i] with
    | true => exact ⟨(i : Int), if_pos rfl, by simp⟩
    | false =>
      rw [if_neg (by decide), IntWalk.wrap64_in _ ⟨by omega, by omega⟩]
      obtain ⟨r, h1, h2⟩ := ih (i + 1) (by omega)
      exact ⟨r, by rw [← h1]; rfl, by rw [h2]; simp⟩
theorem contains_odd (l : List S39) (hl : l.length ≤ 140737488355328) : slices_ContainsFunc_at_keys_odd.f (l.length + 1) l = some (l.any oddV) := by
  obtain ⟨r, h1, h2⟩ := index_odd l hl l.length 0 (by omega)
  unfold slices_ContainsFunc_at_keys_odd.f slices_IndexFunc_at_keys_odd.f
  rw [show (0 : Int) = ((0 : Nat) : Int) from rfl, h1, Option.bind_some]
  exact congrArg some (h2.trans (by simp))
/-- a number's eight bytes -/
def be8 (n : Int) : List UInt8 := [56, 48, 40, 32, 24, 16, 8, 0].map fun i : Int => UInt8.ofNat ((shr .u64 n i) % 256).toNat
theorem byte_back (x : Int) : ((UInt8.ofNat (x % 256).toNat).toNat : Int) = x % 256 := by
  have := Int.emod_nonneg x (show (256 : Int) ≠ 0 by decide)
  have := Int.emod_lt_of_pos x (show (0 : Int) < 256 by decide)
  rw [UInt8.toNat_ofNat']; omega
theorem bi_be8 (n : Int) : bi (be8 n) = [(shr .u64 n 56) % 256, (shr .u64 n 48) % 256, (shr .u64 n 40) % 256, (shr .u64 n 32) % 256, (shr .u64 n 24) % 256, (shr .u64 n 16) % 256, (shr .u64 n 8) % 256, (shr .u64 n 0) % 256] := by
  simp only [bi, be8, List.map_cons, List.map_nil, byte_back]
theorem pack8_go (x : List Int) (n : Int) (j : Nat) (k : Nat) (hj : j < 8) (hx : x.length < 140737488355328) :
    pack_Num.l0 (k + 1) x n (j : Int) = pack_Num.l0 k (x ++ [(shr .u64 n (8 * (j : Int))) % 256]) n ((j : Int) - 1) := by
  simp only [pack_Num.l0]
  rw [if_pos (by omega), IntWalk.wrap64_in (8 * (j : Int)) ⟨by omega, by omega⟩, if_pos (by omega), if_pos hx, IntWalk.wrap64_in ((j : Int) - 1) ⟨by omega, by omega⟩]
theorem pack8 (x : List Int) (n : Int) (hx : x.length + 8 ≤ 140737488355328) : pack_Num.f 9 x n 8 = some (x ++ bi (be8 n)) := by
  have h0 : pack_Num.f 9 x n 8 = pack_Num.l0 9 x n ((7 : Nat) : Int) := by
    unfold pack_Num.f pack_wide.f; rw [Option.bind_some]; rw [show wrap64 (mn (mx 8 1) 8 - 1) = ((7 : Nat) : Int) from by unfold mn mx; simp [wrap64]]
  have step : ∀ (y : List Int) (j k : Nat), j < 8 → y.length < 140737488355328 → pack_Num.l0 (k + 1) y n (j : Int) = pack_Num.l0 k (y ++ [(shr .u64 n (8 * (j : Int))) % 256]) n ((j : Int) - 1) := fun y j k h1 h2 => pack8_go y n j k h1 h2
  rw [h0, step _ 7 8 (by omega) (by omega)]
  rw [show ((7 : Nat) : Int) - 1 = ((6 : Nat) : Int) from rfl, step _ 6 7 (by omega) (by simp; omega)]
  rw [show ((6 : Nat) : Int) - 1 = ((5 : Nat) : Int) from rfl, step _ 5 6 (by omega) (by simp; omega)]
  rw [show ((5 : Nat) : Int) - 1 = ((4 : Nat) : Int) from rfl, step _ 4 5 (by omega) (by simp; omega)]
  rw [show ((4 : Nat) : Int) - 1 = ((3 : Nat) : Int) from rfl, step _ 3 4 (by omega) (by simp; omega)]
  rw [show ((3 : Nat) : Int) - 1 = ((2 : Nat) : Int) from rfl, step _ 2 3 (by omega) (by simp; omega)]
  rw [show ((2 : Nat) : Int) - 1 = ((1 : Nat) : Int) from rfl, step _ 1 2 (by omega) (by simp; omega)]
  rw [show ((1 : Nat) : Int) - 1 = ((0 : Nat) : Int) from rfl, step _ 0 1 (by omega) (by simp; omega)]
  simp only [pack_Num.l0]
  rw [if_neg (by decide), bi_be8]
  simp only [List.append_assoc, List.cons_append, List.nil_append]
  rfl
/-- a value's bytes -/
def encV (v : S39) : List UInt8 := if v.f0 = 1 then 1 :: be8 (Go.bits .xor .u64 (IntKind.u64.wrap v.f1) 9223372036854775808) else 2 :: (esc v.f2.data.toList ++ [0, 1])
def encL (l : List S39) : List UInt8 := l.flatMap encV
def keys_Write.f (l0 : List S39) : Option (ByteArray × Int) :=
  if l0.length ≤ 140737488355328 then (if l0.any oddV = true then some (⟨#[]⟩, 6) else if (encL l0).length ≤ 70368744177000 then some (⟨(encL l0).toArray⟩, 0) else none) else none

theorem next_j (n j : Nat) (h : j < n) (hn : n ≤ 140737488355328) : wrap64 ((j : Int) + 1) = ((j + 1 : Nat) : Int) := (IntWalk.wrap64_in _ ⟨by omega, by omega⟩).trans (by omega)
theorem loop_less (n j : Nat) (h : j < n) (hn : n ≤ 140737488355328) : n - (intOf (.int .i64 (wrap64 ((j : Int) + 1)))).toNat < n - (intOf (.int .i64 (j : Int))).toNat := by
  rw [next_j n j h hn]; simp only [intOf, Int.toNat_natCast]; omega
theorem strOf_bi (l : List UInt8) : strOfNums (bi l) = ⟨l.toArray⟩ := by
  unfold strOfNums bi; rw [List.map_map]; congr 2
  conv => rhs; rw [← List.map_id l]
  apply List.map_congr_left; intro c _; simp
theorem take_enc (l : List S39) (j : Nat) (h : j < l.length) : encL (l.take (j + 1)) = encL (l.take j) ++ encV l[j] := by
  unfold encL; rw [List.take_add_one, List.getElem?_eq_getElem h, Option.toList_some, List.flatMap_append]; simp
theorem encL_take_le (l : List S39) (j : Nat) : (encL (l.take j)).length ≤ (encL l).length := by
  conv => rhs; rw [← List.take_append_drop j l]
  unfold encL; rw [List.flatMap_append, List.length_append]; omega
set_option maxHeartbeats 8000000 in
set_option maxRecDepth 100000 in
theorem keys_Write.calls (A0 : Option Addr) (c0 : Nat) (l0 : List (S39)) (r1 : ByteArray) (r2 : Int) (w : World) (hr0 : Kd.C k39 w A0 l0.length l0) (hc0 : l0.length ≤ c0) (h : keys_Write.f l0 = some (r1, r2)) :
    Calls Tryd.prog 11 #[.slice A0 l0.length c0] w fun e w' => e = .returned (.tuple #[.string r1, .int .i64 r2]) ∧ Below w.heap.size w w' := by
  have huV := Tryd.underlying39
  have HR0 := Aside0.mk hr0
  have HC0 := Aside0.mk hc0
  have HB := Aside0.mk (Below.refl w.heap.size w)
  unfold keys_Write.f at h
  split at h
  case isFalse => cases h
  rename_i hl
  have hany := Aside0.mk (contains_odd l0 hl)
  have HL := Aside0.mk hl
  clear hr0 hc0
  go_enter Tryd.func11, Tryd.ntmps11
  by_cases ho : l0.any oddV = true
  · rw [if_pos ho] at h
    simp only [Option.some.injEq, Prod.mk.injEq] at h
    obtain ⟨rfl, rfl⟩ := h
    rw [ho] at hany
    clear hl ho
    go_wp2_with (go_at_call 20; refine (slices_ContainsFunc_at_keys_odd.calls (l0.length + 1) A0 c0 l0 true _ (Kd.C_below HR0.out (by repeat (first | (with_reducible first | exact HB.out | apply below_alloc | apply pw_below_drewN | apply below_drew1) | exact HB.out))) HC0.out hany.out).mono ?_; rintro e w1 ⟨rfl, hb⟩)
    go_ret2
    exact ⟨rfl, by repeat (first | exact hb | apply below_alloc | apply pw_below_drewN | apply below_drew1)⟩
  · rw [if_neg ho] at h
    replace ho : l0.any oddV = false := by simpa using ho
    rw [ho] at hany
    split at h
    case isFalse => cases h
    rename_i hT
    simp only [Option.some.injEq, Prod.mk.injEq] at h
    obtain ⟨rfl, rfl⟩ := h
    have HT := Aside0.mk hT
    clear hl ho hT
    go_wp2_with (go_at_call 20; refine (slices_ContainsFunc_at_keys_odd.calls (l0.length + 1) A0 c0 l0 false _ (Kd.C_below HR0.out (by repeat (first | (with_reducible first | exact HB.out | apply below_alloc | apply pw_below_drewN | apply below_drew1) | exact HB.out))) HC0.out hany.out).mono ?_; rintro e w1 ⟨rfl, hb⟩)
    go_loopw [4, 11] (fun b x wx => ∃ j : Nat, j ≤ l0.length ∧ x = .int .i64 (j : Int) ∧ Aside0 (Kd.R (Kd.int .u8) 5 wx w.heap.size (fun _ => True) b (bi (encL (l0.take j)))) ∧ Aside0 (Below w.heap.size w wx)) (fun _ x _ => l0.length - (intOf x).toNat)
    case atStart => exact ⟨0, Nat.zero_le _, rfl, ⟨Kd.R_nil _ _ _ _ _⟩, ⟨by repeat (first | exact hb | apply below_alloc | apply pw_below_drewN | apply below_drew1)⟩⟩
    case round =>
      obtain ⟨j, hj, rfl, HO, HBr⟩ := hrel
      by_cases hlt : j < l0.length
      · have p0 : 0 ≤ (j : Int) := by omega
        have q0 : (j : Int) < (l0.length : Int) := by omega
        obtain ⟨ad, e1, hx0, hx1, hx2⟩ := at_T39 HR0.out (j : Int) p0 q0
        cases e1
        rw [rd39_at l0 j hlt] at hx0 hx1 hx2
        obtain ⟨v, hv⟩ : ∃ v, l0[j] = v := ⟨_, rfl⟩
        rw [hv] at hx0 hx1 hx2
        have HN := Aside0.mk (take_enc l0 j hlt)
        rw [hv] at HN
        clear hv
        rw [Int.toNat_natCast] at hx0 hx1 hx2
        replace hx0 := (HBr.out.cell (World.block_lt_of_cell? w _ hx0)).trans hx0
        replace hx1 := (HBr.out.cell (World.block_lt_of_cell? w _ hx1)).trans hx1
        replace hx2 := (HBr.out.cell (World.block_lt_of_cell? w _ hx2)).trans hx2
        by_cases h1 : v.f0 = 1
        · have h1b : (v.f0 == 1) = true := beq_iff_eq.mpr h1
          go_wp2_with fail
          generalize hW0 : wr.alloc (Obj.cells #[Value.int IntKind.i64 1, Value.int IntKind.i64 v.f1, Value.string v.f2] 39) = W0
          have hc1 : W0.cell? ⟨wr.heap.size, 1, none⟩ = some (.int .i64 v.f1) := by rw [← hW0]; simp [go_sem]
          have HOw : Aside0 (Kd.R (Kd.int .u8) 5 W0 w.heap.size (fun k => k ≠ wr.heap.size) u4 (bi (encL (l0.take j)))) := ⟨by
            rw [← hW0]; exact Kd.R_alloc (Kd.R_of_own (Kd.own_of_R HO.out) (fun k hk => Nat.ne_of_lt (Kd.R_lt HO.out k hk))) _⟩
          have HBw : Aside0 (Below w.heap.size w W0) := ⟨by rw [← hW0]; exact below_alloc HBr.out _⟩
          have hlt0 : wr.heap.size < W0.heap.size := by rw [← hW0]; simp
          have hbr := HBr.out.size
          have hlen : (bi (encL (l0.take j))).length ≤ 70368744177000 := by rw [bi_len]; exact Nat.le_trans (encL_take_le l0 j) HT.out
          have HP := Aside0.mk (pack8 (bi (encL (l0.take j)) ++ bi [1]) (Go.bits .xor .u64 (IntKind.u64.wrap v.f1) 9223372036854775808) (by rw [List.length_append, bi_len [1]]; simp; omega))
          clear hW0 hx0 hx1 hx2
          go_region_held3 (fun w' => w'.cell? ⟨wr.heap.size, 1, none⟩ = some (.int .i64 v.f1)) (first | exact hc1 | exact (World.cell?_alloc_lt _ _ _ hlt0).trans hc1 | exact hcA | exact (World.cell?_alloc_lt _ _ _ hltA).trans hcA | exact hcB) (first | (refine R_lies_step w.heap.size (by rfl) _ _ 42 5 (by rfl) Tryd.underlying42 info5 u4 _ [1] _ 1 1 (0,0) 5 (by rfl) (by rfl) (fun k => k ≠ wr.heap.size) (fun k hk => by (try simp at hk); omega) (by (with_reducible repeat (first | apply Kd.R_alloc | apply Kd.R_drewN | apply Kd.R_drew)); exact HOw.out) (heap_alloc_new _ _) rfl (by decide) ?_ ?_ ?_; (simp; omega); omega; intro vA wA HOA hbA hgA; have hltA : wr.heap.size < wA.heap.size := Nat.lt_of_lt_of_le hlt0 (Nat.le_trans (by simp) hbA.size); have hcA := (hgA.cell_far ⟨wr.heap.size, 1, none⟩ (Nat.lt_of_lt_of_le hlt0 (by simp)) (fun hk => HOw.out.1 _ hk.symm rfl)).trans ((World.cell?_alloc_lt _ _ _ hlt0).trans hc1); have HBA := Aside0.mk (Below.trans (by repeat (first | (with_reducible first | exact HBw.out | apply below_alloc | apply pw_below_drewN | apply below_drew1) | exact HBw.out)) hbA)) | (go_at_call 22; refine (pack_Num.calls 9 (fun k => k ≠ wr.heap.size) vA _ _ 8 _ w _ (by repeat (first | (with_reducible first | exact HBA.out | apply below_alloc | apply pw_below_drewN | apply below_drew1) | exact HBA.out)) (by (with_reducible repeat (first | apply Kd.R_alloc | apply Kd.R_drewN | apply Kd.R_drew)); exact HOA) HP.out).mono ?_; rintro e wB ⟨vB, rfl, HOB, HBB, HKB⟩; have hcB := (World.cell?_of_block (a := (⟨wr.heap.size, 1, none⟩ : Addr)) (HKB.2 _ hltA (fun h => h rfl))).trans hcA))
          go_wp2
          have hl := HL.out
          have hw1 : wrap64 ((j : Int) + 1) = ((j + 1 : Nat) : Int) := next_j _ _ hlt hl
          go_roundw
          case rel => exact ⟨j + 1, hlt, by rw [hw1], ⟨Kd.R_mono (by rw [HN.out, bi_app]; rw [show bi (encV v) = bi [1] ++ bi (be8 (Go.bits .xor .u64 (IntKind.u64.wrap v.f1) 9223372036854775808)) from by unfold encV; rw [if_pos h1]; rfl, ← List.append_assoc]; exact HOB) (fun _ _ => trivial)⟩, ⟨HBB⟩⟩
          case measure => exact loop_less _ _ hlt hl
        · have h1b : (v.f0 == 1) = false := beq_eq_false_iff_ne.mpr h1
          go_wp2_with fail
          generalize hW0 : wr.alloc (Obj.cells #[Value.int IntKind.i64 v.f0, Value.int IntKind.i64 v.f1, Value.string v.f2] 39) = W0
          have hc1 : W0.cell? ⟨wr.heap.size, 2, none⟩ = some (.string v.f2) := by rw [← hW0]; simp [go_sem]
          have HOw : Aside0 (Kd.R (Kd.int .u8) 5 W0 w.heap.size (fun k => k ≠ wr.heap.size) u4 (bi (encL (l0.take j)))) := ⟨by
            rw [← hW0]; exact Kd.R_alloc (Kd.R_of_own (Kd.own_of_R HO.out) (fun k hk => Nat.ne_of_lt (Kd.R_lt HO.out k hk))) _⟩
          have HBw : Aside0 (Below w.heap.size w W0) := ⟨by rw [← hW0]; exact below_alloc HBr.out _⟩
          have hlt0 : wr.heap.size < W0.heap.size := by rw [← hW0]; simp
          have hbr := HBr.out.size
          have hlen : (bi (encL (l0.take j))).length ≤ 70368744177000 := by rw [bi_len]; exact Nat.le_trans (encL_take_le l0 j) HT.out
          have hle : (encL (l0.take j)).length + (encV v).length ≤ 70368744177000 := by rw [← List.length_append, ← HN.out]; exact Nat.le_trans (encL_take_le l0 (j + 1)) HT.out
          have hev : encV v = [2] ++ esc v.f2.data.toList ++ [0, 1] := by unfold encV; rw [if_neg h1]; simp
          have hel : (encV v).length = v.f2.data.toList.length + Lib.countByte v.f2.data.toList 0 + 3 := by rw [hev]; simp [esc_length]
          have hfs : v.f2.data.toList.length = v.f2.size := (Lib.size_eq _).symm
          have HP : Aside0 (strings_ReplaceAll.f v.f2 ⟨#[0]⟩ ⟨#[0, 255]⟩ = some ⟨(esc v.f2.data.toList).toArray⟩) := ⟨by unfold strings_ReplaceAll.f; rw [if_pos ⟨rfl, rfl, by omega⟩]⟩
          have HEV := Aside0.mk hev
          have hsz : (⟨(esc v.f2.data.toList).toArray⟩ : ByteArray).size = v.f2.size + Lib.countByte v.f2.data.toList 0 := by rw [Lib.size_eq]; simp [esc_length, hfs]
          clear hev
          have hWr := HBw.out.size
          clear hW0 hx0 hx1 hx2
          go_region_held3 (fun w' => w'.cell? ⟨wr.heap.size, 2, none⟩ = some (.string v.f2)) (first | exact hc1 | exact (World.cell?_alloc_lt _ _ _ hlt0).trans hc1 | exact hcA | exact (World.cell?_alloc_lt _ _ _ hltA).trans hcA | exact hcB | exact hcC) (first | (refine R_lies_step w.heap.size (by rfl) _ _ 42 5 (by rfl) Tryd.underlying42 info5 u4 _ [2] _ 1 1 (0,0) 5 (by rfl) (by rfl) (fun k => k ≠ wr.heap.size) (fun k hk => by (try simp at hk); omega) (by (with_reducible repeat (first | apply Kd.R_alloc | apply Kd.R_drewN | apply Kd.R_drew)); exact HOw.out) (heap_alloc_new _ _) rfl (by decide) ?_ ?_ ?_; (simp; omega); omega; intro vA wA HOA hbA hgA; have hltA : wr.heap.size < wA.heap.size := Nat.lt_of_lt_of_le hlt0 (Nat.le_trans (by simp) hbA.size); have hcA := (hgA.cell_far ⟨wr.heap.size, 2, none⟩ (Nat.lt_of_lt_of_le hlt0 (by simp)) (fun hk => HOw.out.1 _ hk.symm rfl)).trans ((World.cell?_alloc_lt _ _ _ hlt0).trans hc1); have HBA := Aside0.mk (Below.trans (by repeat (first | (with_reducible first | exact HBw.out | apply below_alloc | apply pw_below_drewN | apply below_drew1) | exact HBw.out)) hbA)) | (go_at_call 23; refine (strings_ReplaceAll.calls v.f2 ⟨#[0]⟩ ⟨#[0, 255]⟩ _ _ HP.out).mono ?_; rintro e wB ⟨rfl, hbB⟩; have hltB : wr.heap.size < wB.heap.size := Nat.lt_of_lt_of_le hltA hbB.size; have hcB := (hbB.cell (World.block_lt_of_cell? _ _ hcA)).trans hcA; have HOB := Aside0.mk (Kd.R_below (by (with_reducible repeat (first | apply Kd.R_alloc | apply Kd.R_drewN | apply Kd.R_drew)); exact HOA) hbB); have HBB := Aside0.mk (below_step (by repeat (first | (with_reducible first | exact HBA.out | apply below_alloc | apply pw_below_drewN | apply below_drew1) | exact HBA.out)) hbB)) | (refine R_str_step w.heap.size (by rfl) _ _ 42 9 5 (by rfl) Tryd.underlying42 Tryd.underlying9 info5 vA _ ⟨(esc v.f2.data.toList).toArray⟩ (by rfl) (by rfl) (fun k => k ≠ wr.heap.size) HOB.out (Nat.le_trans HBA.out.size hbB.size) (by rw [List.length_append, hsz, bi_len [2]]; simp; omega) ?_; intro vC wC HOC hbC hgC; have hcC := (hgC.cell_far ⟨wr.heap.size, 2, none⟩ hltB (fun hk => HOB.out.1 _ hk.symm rfl)).trans hcB))
          have hCb := hbC.size
          have hBs := HBB.out.size
          have HBC := Aside0.mk (HBB.out.trans hbC)
          have hq := bi_len (encL (l0.take j))
          have hlC : (bi (encL (l0.take j)) ++ bi [2] ++ bytesOf ⟨(esc v.f2.data.toList).toArray⟩).length ≤ 70368744177664 := by rw [List.length_append, List.length_append, bytesOf_length, hsz, bi_len [2]]; simp; omega
          go_wp2_with (first | ((with_reducible refine gate_builtin (b := .append) (xs := #[.tmp 33, .tmp 34]) rfl ?_); at_builtin; refine R_lies_plain w.heap.size (by rfl) (.tmp 33) (.tmp 34) 42 5 (by rfl) Tryd.underlying42 info5 vC _ [0, 1] _ 2 2 (0, 0) 5 (by rfl) (by rfl) (fun _ => True) (fun _ _ => trivial) (by (with_reducible repeat (first | apply Kd.R_alloc | apply Kd.R_drewN | apply Kd.R_drew)); exact HOC) (heap_alloc_new _ _) rfl (by decide) ?_ ?_ ?_; (simp; omega); omega; intro vD wD HOD hbD hgD))
          have hl := HL.out
          have hw1 : wrap64 ((j : Int) + 1) = ((j + 1 : Nat) : Int) := next_j _ _ hlt hl
          go_roundw
          case rel => exact ⟨j + 1, hlt, by rw [hw1], ⟨by rw [HN.out, bi_app, HEV.out]; rw [bi_app, bi_app, ← List.append_assoc, ← List.append_assoc]; exact HOD⟩, ⟨Below.trans (by repeat (first | exact HBC.out | apply below_alloc | apply pw_below_drewN | apply below_drew1)) hbD⟩⟩
          case measure => exact loop_less _ _ hlt hl
      · have hje : j = l0.length := by omega
        subst hje
        have hcv := own_string (P := Tryd.prog) Tryd.underlying42 Tryd.underlying5 Tryd.underlying9 (Kd.own_of_R HO.out)
        go_wp2
        go_ret2
        exact ⟨by rw [← strOf_bi]; (try rw [List.take_length]); rfl, HBr.out⟩

/-- A state of type 66 at block g of W; what its slices lead to came in by w0. -/
def IsS66 (w0 W : World) (g : Nat) (f0 : ByteArray) (f1 : Int) : Prop := W.heap[g]? = some (.cells #[.string f0, .int .i64 f1] 66 (0, 0)) ∧ w0.heap.size ≤ g
theorem IsS66.grown {w0 W : World} {g : Nat} {f0 : ByteArray} {f1 : Int} {W1 : World} {row : Option Nat} (h : IsS66 w0 W g f0 f1) (hw : W.grownBy W1 row) (hne : some g ≠ row) : IsS66 w0 W1 g f0 f1 := by
  obtain ⟨hb, hg⟩ := h
  exact ⟨blk_grown hb hw hne, hg⟩
theorem IsS66.own_neN {w0 W : World} {g : Nat} {f0 : ByteArray} {f1 : Int} {α : Type} {d : Kd α} {e : Nat} {base : Nat} {ok : Nat → Prop} {v : Value} {xs : List α} (h : IsS66 w0 W g f0 f1) (ho : Kd.N d e W base ok v xs) (ht : e ≠ 66) : some g ≠ v.ownBlock := by
  obtain ⟨hb, hg⟩ := h
  exact Kd.N_ne ho hb ht
theorem IsS66.fresh {w0 W : World} {g : Nat} {f0 : ByteArray} {f1 : Int} (h : IsS66 w0 W g f0 f1) : ∀ k, W.heap.size ≤ k → k ≠ g := by
  obtain ⟨hb, hg⟩ := h
  exact Kd.freshB hb
theorem IsS66.kept {w0 W : World} {g : Nat} {f0 : ByteArray} {f1 : Int} {W1 : World} {S : Nat → Prop} (h : IsS66 w0 W g f0 f1) (hk : Kept W W1 S) (hne : ¬ S g) : IsS66 w0 W1 g f0 f1 := by
  obtain ⟨hb, hg⟩ := h
  exact ⟨blk_kept hb hk hne, hg⟩
theorem IsS66.below {w0 W : World} {g : Nat} {f0 : ByteArray} {f1 : Int} {W1 : World} (h : IsS66 w0 W g f0 f1) (hw : Below W.heap.size W W1) : IsS66 w0 W1 g f0 f1 := h.grown (grown_of_below hw none) (by simp)
theorem IsS66.alloc {w0 W : World} {g : Nat} {f0 : ByteArray} {f1 : Int} (h : IsS66 w0 W g f0 f1) (o : Obj) : IsS66 w0 (W.alloc o) g f0 f1 := h.below (below_alloc (Below.refl _ _) o)
theorem IsS66.drewN {w0 W : World} {g : Nat} {f0 : ByteArray} {f1 : Int} (h : IsS66 w0 W g f0 f1) (m : Nat) : IsS66 w0 (W.drewN m) g f0 f1 := h
theorem IsS66.drew {w0 W : World} {g : Nat} {f0 : ByteArray} {f1 : Int} (h : IsS66 w0 W g f0 f1) : IsS66 w0 W.drew g f0 f1 := h
theorem IsS66.at_ {w0 W : World} {g : Nat} {f0 : ByteArray} {f1 : Int} {w' : World} {m : Nat} (hq : W.drewN m = w') (h : IsS66 w0 W g f0 f1) : IsS66 w0 w' g f0 f1 := by subst hq; exact IsS66.drewN h m
theorem IsS66.apart {w0 W : World} {g : Nat} {f0 : ByteArray} {f1 : Int} {α : Type} {d : Kd α} {e : Nat} {base : Nat} {ok : Nat → Prop} {v : Value} {xs : List α} (h : IsS66 w0 W g f0 f1) (ho : d.R e W base ok v xs) (ht : ∀ q, q ∈ e :: d.E → q ≠ 66) : d.R e W base (fun k => ok k ∧ k ≠ g) v xs := by
  obtain ⟨hb, hg⟩ := h
  exact Kd.R_types ho hb ht
theorem IsS66.own_ne {w0 W : World} {g : Nat} {f0 : ByteArray} {f1 : Int} {α : Type} {d : Kd α} {e : Nat} {base : Nat} {ok : Nat → Prop} {v : Value} {xs : List α} (h : IsS66 w0 W g f0 f1) (ho : d.R e W base ok v xs) (ht : e ≠ 66) : some g ≠ v.ownBlock := by
  obtain ⟨hb, hg⟩ := h
  exact Kd.R_ne ho hb ht
theorem IsS66.apartQ {w0 W : World} {g : Nat} {f0 : ByteArray} {f1 : Int} {α : Type} {d : Kd α} {e : Nat} {base : Nat} {ok : Nat → Prop} {v : Value} {xs : List α} (h : IsS66 w0 W g f0 f1) (ho : d.Q e W base ok v xs) (ht : ∀ q, q ∈ e :: d.E → q ≠ 66) : d.Q e W base (fun k => ok k ∧ k ≠ g) v xs := by
  obtain ⟨hb, hg⟩ := h
  exact Kd.Q_types ho hb ht
theorem IsS66.own_neQ {w0 W : World} {g : Nat} {f0 : ByteArray} {f1 : Int} {α : Type} {d : Kd α} {e : Nat} {base : Nat} {ok : Nat → Prop} {v : Value} {xs : List α} (h : IsS66 w0 W g f0 f1) (ho : d.Q e W base ok v xs) (ht : e ≠ 66) : some g ≠ v.ownBlock := by
  obtain ⟨hb, hg⟩ := h
  exact Kd.Q_ne ho hb ht
theorem IsS66.apartS {w0 W : World} {g : Nat} {f0 : ByteArray} {f1 : Int} {α : Type} {d : Kd α} {e : Nat} {base : Nat} {ok : Nat → Prop} {v : Value} {xs : List α} (h : IsS66 w0 W g f0 f1) (ho : d.S e W base ok v xs) (ht : ∀ q, q ∈ e :: d.E → q ≠ 66) : d.S e W base (fun k => ok k ∧ k ≠ g) v xs := by
  obtain ⟨hb, hg⟩ := h
  exact Kd.S_types ho hb ht
theorem IsS66.own_neS {w0 W : World} {g : Nat} {f0 : ByteArray} {f1 : Int} {α : Type} {d : Kd α} {e : Nat} {base : Nat} {ok : Nat → Prop} {v : Value} {xs : List α} (h : IsS66 w0 W g f0 f1) (ho : d.S e W base ok v xs) (ht : e ≠ 66) : some g ≠ v.ownBlock := by
  obtain ⟨hb, hg⟩ := h
  exact Kd.S_ne ho hb ht
theorem IsS66.lt {w0 W : World} {g : Nat} {f0 : ByteArray} {f1 : Int} (h : IsS66 w0 W g f0 f1) : g < W.heap.size := by
  obtain ⟨hb, hg⟩ := h
  exact blk_lt hb
theorem IsS66.ge {w0 W : World} {g : Nat} {f0 : ByteArray} {f1 : Int} (h : IsS66 w0 W g f0 f1) : w0.heap.size ≤ g := by
  obtain ⟨hb, hg⟩ := h
  exact hg
theorem IsS66.ne_blk {w0 W : World} {g : Nat} {f0 : ByteArray} {f1 : Int} {a : Nat} {cs : Array Value} {t : TypeId} {fr : Nat × Nat} (h : IsS66 w0 W g f0 f1) (hb2 : W.heap[a]? = some (.cells cs t fr)) (ht : t ≠ 66) : g ≠ a := by
  obtain ⟨hb, hg⟩ := h
  rintro rfl
  rw [hb] at hb2
  injection hb2 with hb2
  injection hb2 with _ ht2
  exact ht ht2.symm
theorem IsS66.far {w0 W : World} {g : Nat} {f0 : ByteArray} {f1 : Int} {p : Addr} (h : IsS66 w0 W g f0 f1) (hne : g ≠ p.block) (u : Value) : IsS66 w0 (W.setCell p u) g f0 f1 := by
  obtain ⟨hb, hg⟩ := h
  exact ⟨blk_far hb hne u, hg⟩
theorem cellS66_0 {W : World} {g : Nat} {f0 : ByteArray} {f1 : Int} (h : W.heap[g]? = some (.cells #[.string f0, .int .i64 f1] 66 (0, 0))) : W.cell? ⟨g, 0, none⟩ = some (.string f0) := (blk_cell h 0).trans rfl
theorem IsS66.set_0 {w0 W : World} {g : Nat} {f0 : ByteArray} {f1 : Int} (h : IsS66 w0 W g f0 f1) (x : ByteArray) : IsS66 w0 (W.setCell ⟨g, 0, none⟩ (.string x)) g x f1 := by
  obtain ⟨hb, hg⟩ := h
  exact ⟨by simpa using blk_set hb 0 (.string x), hg⟩
theorem cellS66_1 {W : World} {g : Nat} {f0 : ByteArray} {f1 : Int} (h : W.heap[g]? = some (.cells #[.string f0, .int .i64 f1] 66 (0, 0))) : W.cell? ⟨g, 1, none⟩ = some (.int .i64 f1) := (blk_cell h 1).trans rfl
theorem IsS66.set_1 {w0 W : World} {g : Nat} {f0 : ByteArray} {f1 : Int} (h : IsS66 w0 W g f0 f1) (x : Int) : IsS66 w0 (W.setCell ⟨g, 1, none⟩ (.int .i64 x)) g f0 x := by
  obtain ⟨hb, hg⟩ := h
  exact ⟨by simpa using blk_set hb 1 (.int .i64 x), hg⟩
theorem IsS66.new (w0 W : World) (f0 : ByteArray) (f1 : Int) (hB : Below w0.heap.size w0 W) : IsS66 w0 (W.alloc (.cells #[.string f0, .int .i64 f1] 66)) W.heap.size f0 f1 := ⟨by simpa using heap_alloc_new W _, hB.size⟩

/-! ### pack_From: function 26 -/
def pack_From.f (a0 : ByteArray) : Option (ByteArray × Int) := some (a0, 0)
set_option maxHeartbeats 8000000 in
set_option maxRecDepth 100000 in
theorem pack_From.calls (a0 : ByteArray) (r1 : ByteArray) (r2 : Int) (w0 w : World) (hB : Below w0.heap.size w0 w) (h : pack_From.f a0 = some (r1, r2)) :
    Calls Tryd.prog 26 #[.string a0] w fun e w' => ∃ g_ : Nat, e = .returned (.pointer (some ⟨g_, 0, none⟩)) ∧ IsS66 w0 w' g_ r1 r2 ∧ Below w0.heap.size w0 w' ∧ Below w.heap.size w w' := by
  have hu66 := Tryd.underlying66
  have HBW := Aside0.mk (Below.refl w.heap.size w)
  have HW0 := Aside0.mk hB.size
  have HB := Aside0.mk hB
  clear hB
  have H : (some (a0, 0)) = some (r1, r2) := h
  clear h
  simp only [Option.some.injEq, Prod.mk.injEq] at H
  obtain ⟨rfl, rfl⟩ := H
  go_enter Tryd.func26, Tryd.ntmps26
  go_wp2_with (first | ((with_reducible refine gate_dst (N := 5) rfl ?_); refine box_event ?hg (N := 5) ?hd (cs := #[.string a0, .int .i64 0]) (t := 66) ?hr ?_; (case hd => rfl); (case hg => rfl); (case hr => first | (go_simp; done) | (go_simp; rfl)); intro gb109 hg w2 hbox hb; have n0_ := Aside0.mk (below_step HBW.out hb); have n1_ := Aside0.mk (below_step (by repeat (first | (with_reducible first | exact HB.out | apply below_alloc | apply pw_below_drewN | apply below_drew1) | exact HB.out)) hb); have n2_ := Aside0.mk (hbox); have n3_ := Aside0.mk ((by rw [hg]; exact (below_size (by repeat (first | (with_reducible first | exact HBW.out | apply below_alloc | apply pw_below_drewN | apply below_drew1) | exact HBW.out))) : w.heap.size ≤ gb109)); have n4_ := Aside0.mk ((Nat.le_trans HW0.out (by rw [hg]; exact (below_size (by repeat (first | (with_reducible first | exact HBW.out | apply below_alloc | apply pw_below_drewN | apply below_drew1) | exact HBW.out))) : w.heap.size ≤ gb109) : w0.heap.size ≤ gb109)); clear HBW; clear HB; have HBW := n0_; have HB := n1_; have BK109 := n2_; have GW109 := n3_; have GE109 := n4_; clear n0_ n1_ n2_ n3_ n4_; clear hb hbox hg))
  go_ret
  exact ⟨_, rfl, (show IsS66 w0 _ gb109 a0 0 from ⟨by (with_reducible repeat (first | refine blk_drewN ?_ _ | refine blk_drew ?_ | refine blk_alloc ?_ _)); exact BK109.out, GE109.out⟩), by repeat (first | (with_reducible first | exact HB.out | apply below_alloc | apply pw_below_drewN | apply below_drew1 | refine below_set ?_ GE109.out) | exact HB.out), by repeat (first | (with_reducible first | exact HBW.out | apply below_alloc | apply pw_below_drewN | apply below_drew1 | refine below_set ?_ GW109.out) | exact HBW.out)⟩

/-! ### pack_Reader_take: function 40 -/
def pack_Reader_take.f (s0_0 : ByteArray) (s0_1 : Int) (a1 : Int) : Option (ByteArray × Bool × ByteArray × Int) := if s0_1 = 0 then (if a1 > (s0_0.size : Int) then (some ((⟨#[]⟩ : ByteArray), false, s0_0, 2)) else (if 0 ≤ a1 then (if a1 ≤ (s0_0.size : Int) then (some (s0_0.extract 0 (a1 : Int).toNat, true, s0_0.extract (a1 : Int).toNat s0_0.size, s0_1)) else (none)) else (none))) else (some ((⟨#[]⟩ : ByteArray), false, s0_0, s0_1))
set_option maxHeartbeats 8000000 in
set_option maxRecDepth 100000 in
theorem pack_Reader_take.calls (g : Nat) (s0_0 : ByteArray) (s0_1 : Int) (a1 : Int) (r1 : ByteArray) (r2 : Bool) (r3 : ByteArray) (r4 : Int) (w0 w : World) (hI : IsS66 w0 w g s0_0 s0_1) (hB : Below w0.heap.size w0 w) (h : pack_Reader_take.f s0_0 s0_1 a1 = some (r1, r2, r3, r4)) :
    Calls Tryd.prog 40 #[.pointer (some ⟨g, 0, none⟩), .int .i64 a1] w fun e w' => e = .returned (.tuple #[.string r1, .bool r2]) ∧ IsS66 w0 w' g r3 r4 ∧ Below w0.heap.size w0 w' ∧ KeepBut w w' g none := by
  have HI0 := Aside0.mk hI
  have HK := Aside0.mk (KeepBut.refl w g none)
  have HL := Aside0.mk hB.size
  clear hI
  have HW0 := Aside0.mk hB.size
  have HB := Aside0.mk hB
  clear hB
  have H : (if s0_1 = 0 then (if a1 > (s0_0.size : Int) then (some ((⟨#[]⟩ : ByteArray), false, s0_0, 2)) else (if 0 ≤ a1 then (if a1 ≤ (s0_0.size : Int) then (some (s0_0.extract 0 (a1 : Int).toNat, true, s0_0.extract (a1 : Int).toNat s0_0.size, s0_1)) else (none)) else (none))) else (some ((⟨#[]⟩ : ByteArray), false, s0_0, s0_1))) = some (r1, r2, r3, r4) := h
  clear h
  by_cases c3 : s0_1 = 0
  · rw [if_pos c3] at H
    have c3b0 : (s0_1 == 0) = true := beq_iff_eq.mpr c3
    have c3b1 : (s0_1 != 0) = false := bne_eq_false_iff_eq.mpr c3
    clear c3
    by_cases c4 : a1 > (s0_0.size : Int)
    · rw [if_pos c4] at H
      have c4b0 : decide ((s0_0.size : Int) < a1) = true := decide_eq_true c4
      clear c4
      simp only [Option.some.injEq, Prod.mk.injEq] at H
      obtain ⟨rfl, rfl, rfl, rfl⟩ := H
      obtain ⟨HGz5, hgz5⟩ := HI0.out
      have hcz5_0 := cellS66_0 HGz5
      have hcz5_1 := cellS66_1 HGz5
      have hfz5_0 := blk_frozen HGz5 0
      have hfz5_1 := blk_frozen HGz5 1
      clear HGz5 hgz5
      go_enter Tryd.func40, Tryd.ntmps40
      go_wp2
      go_ret2
      exact ⟨by first | (with_reducible rfl) | (simp only [isEmpty_bne, Bool.not_not] <;> with_reducible rfl) | (simp [errW_none, errW_some] <;> with_reducible rfl) | (simp only [isEmpty_bne, Bool.not_not] <;> rfl) | rfl | (simp [errW_none, errW_some] <;> rfl) | (simp [*, errW_none, errW_some] <;> rfl), by repeat (first | (with_reducible first | exact HI0.out | apply IsS66.alloc | apply IsS66.drewN | apply IsS66.drew | apply IsS66.set_0 | apply IsS66.set_1) | exact HI0.out), by repeat (first | (with_reducible first | exact HB.out | apply below_alloc | apply pw_below_drewN | apply below_drew1 | refine below_set ?_ (IsS66.ge HI0.out)) | exact HB.out), by repeat (first | (with_reducible first | exact HK.out | apply KeepBut.set_ | apply keep_drewN | apply keep_drew | apply keep_alloc) | exact HK.out)⟩
    · rw [if_neg c4] at H
      have c4b0 : decide ((s0_0.size : Int) < a1) = false := decide_eq_false c4
      clear c4
      by_cases c6 : 0 ≤ a1
      · rw [if_pos c6] at H
        have c6b0 := eq_true c6
        have c6b1 : decide (0 ≤ a1) = true := decide_eq_true c6
        clear c6
        by_cases c7 : a1 ≤ (s0_0.size : Int)
        · rw [if_pos c7] at H
          have c7b0 := eq_true c7
          have c7b1 : decide (a1 ≤ (s0_0.size : Int)) = true := decide_eq_true c7
          clear c7
          have c8b0 := eq_true (of_decide_eq_true (by first | (with_reducible assumption) | assumption) : 0 ≤ a1)
          have c9b0 := eq_true (of_decide_eq_true (by first | (with_reducible assumption) | assumption) : a1 ≤ (s0_0.size : Int))
          simp only [Option.some.injEq, Prod.mk.injEq] at H
          obtain ⟨rfl, rfl, rfl, rfl⟩ := H
          obtain ⟨HGz10, hgz10⟩ := HI0.out
          have hcz10_0 := cellS66_0 HGz10
          have hcz10_1 := cellS66_1 HGz10
          have hfz10_0 := blk_frozen HGz10 0
          have hfz10_1 := blk_frozen HGz10 1
          clear HGz10 hgz10
          go_enter Tryd.func40, Tryd.ntmps40
          go_wp2
          go_ret2
          exact ⟨by first | (with_reducible rfl) | (simp only [isEmpty_bne, Bool.not_not] <;> with_reducible rfl) | (simp [errW_none, errW_some] <;> with_reducible rfl) | (simp only [isEmpty_bne, Bool.not_not] <;> rfl) | rfl | (simp [errW_none, errW_some] <;> rfl) | (simp [*, errW_none, errW_some] <;> rfl), by repeat (first | (with_reducible first | exact HI0.out | apply IsS66.alloc | apply IsS66.drewN | apply IsS66.drew | apply IsS66.set_0 | apply IsS66.set_1) | exact HI0.out), by repeat (first | (with_reducible first | exact HB.out | apply below_alloc | apply pw_below_drewN | apply below_drew1 | refine below_set ?_ (IsS66.ge HI0.out)) | exact HB.out), by repeat (first | (with_reducible first | exact HK.out | apply KeepBut.set_ | apply keep_drewN | apply keep_drew | apply keep_alloc) | exact HK.out)⟩
        · rw [if_neg c7] at H
          exact absurd H (by simp)
      · rw [if_neg c6] at H
        exact absurd H (by simp)
  · rw [if_neg c3] at H
    have c3b0 : (s0_1 == 0) = false := beq_eq_false_iff_ne.mpr c3
    have c3b1 : (s0_1 != 0) = true := bne_iff_ne.mpr c3
    simp only [Option.some.injEq, Prod.mk.injEq] at H
    obtain ⟨rfl, rfl, rfl, rfl⟩ := H
    obtain ⟨HGz11, hgz11⟩ := HI0.out
    have hcz11_0 := cellS66_0 HGz11
    have hcz11_1 := cellS66_1 HGz11
    have hfz11_0 := blk_frozen HGz11 0
    have hfz11_1 := blk_frozen HGz11 1
    clear HGz11 hgz11
    go_enter Tryd.func40, Tryd.ntmps40
    go_wp2
    go_ret2
    exact ⟨by first | (with_reducible rfl) | (simp only [isEmpty_bne, Bool.not_not] <;> with_reducible rfl) | (simp [errW_none, errW_some] <;> with_reducible rfl) | (simp only [isEmpty_bne, Bool.not_not] <;> rfl) | rfl | (simp [errW_none, errW_some] <;> rfl) | (simp [*, errW_none, errW_some] <;> rfl), by repeat (first | (with_reducible first | exact HI0.out | apply IsS66.alloc | apply IsS66.drewN | apply IsS66.drew | apply IsS66.set_0 | apply IsS66.set_1) | exact HI0.out), by repeat (first | (with_reducible first | exact HB.out | apply below_alloc | apply pw_below_drewN | apply below_drew1 | refine below_set ?_ (IsS66.ge HI0.out)) | exact HB.out), by repeat (first | (with_reducible first | exact HK.out | apply KeepBut.set_ | apply keep_drewN | apply keep_drew | apply keep_alloc) | exact HK.out)⟩

/-! ### pack_Reader_Num: function 27 -/
def pack_Reader_Num.f (s0_0 : ByteArray) (s0_1 : Int) (a1 : Int) : Option (Int × ByteArray × Int) := (pack_wide.f a1).bind fun k => (pack_Reader_take.f s0_0 s0_1 k).bind fun t => some (beNum t.1.data.toList, t.2.2.1, t.2.2.2)
theorem pack_wide.bd {a k : Int} (h : pack_wide.f a = some k) : 1 ≤ k ∧ k ≤ 8 := by
  simp only [pack_wide.f, Option.some.injEq] at h; subst h; unfold mx mn; (repeat' split) <;> omega
theorem pack_Reader_take.bd {s : ByteArray} {e k : Int} {t1 : ByteArray} {t2 : Bool} {t3 : ByteArray} {t4 : Int} (h : pack_Reader_take.f s e k = some (t1, t2, t3, t4)) : (t1.size : Int) ≤ k ∨ t1.size = 0 := by
  unfold pack_Reader_take.f at h
  (repeat' split at h) <;> simp only [Option.some.injEq, Prod.mk.injEq, reduceCtorEq] at h <;> (obtain ⟨rfl, rfl, rfl, rfl⟩ := h)
  all_goals first
    | (right; rfl)
    | (left; rw [ByteArray.size_extract]; omega)
set_option maxHeartbeats 4000000 in
set_option maxRecDepth 100000 in
theorem pack_Reader_Num.calls (g : Nat) (s0_0 : ByteArray) (s0_1 : Int) (a1 : Int) (r1 : Int) (r2 : ByteArray) (r3 : Int) (w0 w : World) (hI : IsS66 w0 w g s0_0 s0_1) (hB : Below w0.heap.size w0 w) (h : pack_Reader_Num.f s0_0 s0_1 a1 = some (r1, r2, r3)) :
    Calls Tryd.prog 27 #[.pointer (some ⟨g, 0, none⟩), .int .i64 a1] w fun e w' => e = .returned (.int .u64 r1) ∧ IsS66 w0 w' g r2 r3 ∧ Below w0.heap.size w0 w' ∧ KeepBut w w' g none := by
  unfold pack_Reader_Num.f at h
  obtain ⟨k, hk, h⟩ := Option.bind_eq_some_iff.1 h
  obtain ⟨⟨t1, t2, t3, t4⟩, ht, h⟩ := Option.bind_eq_some_iff.1 h
  simp only [Option.some.injEq, Prod.mk.injEq] at h
  obtain ⟨rfl, rfl, rfl⟩ := h
  have hcv := fun W : World => Lib.run_convert_string_bytes (P := Tryd.prog) W 9 42 5 t1 Tryd.underlying9 Tryd.underlying42 Tryd.underlying5
  have hsz : t1.size ≤ 8 := by
    have := pack_wide.bd hk
    rcases pack_Reader_take.bd ht with h | h <;> omega
  have HK := Aside0.mk hk
  have HT := Aside0.mk ht
  clear hk ht
  go_enter Tryd.func27, Tryd.ntmps27
  go_wp2_with (first | (go_at_call 37; refine (pack_wide.calls a1 k _ HK.out).mono ?_; rintro e w1 ⟨rfl, hb1⟩) | (go_at_call 40; refine (pack_Reader_take.calls g s0_0 s0_1 k t1 t2 t3 t4 w0 _ (hI.below hb1) (below_step hB hb1) HT.out).mono ?_; rintro e w2 ⟨rfl, hI2, hB2, hK2⟩))
  have hbw : Below w2.heap.size w2 (Lib.bytesWorld w2 5 t1) := bytesWorld_below w2 5 t1
  have HI3 := Aside0.mk (hI2.below hbw)
  have HB3 := Aside0.mk (below_step hB2 hbw)
  have HK3 := Aside0.mk (KeepBut.trans (KeepBut.of_below hb1 g none) (KeepBut.trans hK2 (KeepBut.of_below hbw g none) (.inl rfl)) (.inl rfl))
  clear hI2 hB2 hK2 hbw hb1 hI hB HT HK hcv
  go_loop [7, 20] (fun n i => ∃ j : Nat, j ≤ t1.size ∧ i = .int .i64 j ∧ n = .int .u64 (beNum (t1.data.toList.take j))) (fun _ i => t1.size - (intOf i).toNat)
  case atStart => exact ⟨0, Nat.zero_le _, rfl, rfl⟩
  case round =>
    obtain ⟨j, hj, rfl, rfl⟩ := hrel
    by_cases hlt : j < t1.size
    · have hc := Lib.bytesWorld_cell w2 5 t1 j hlt
      have hb := beNum_bd (t1.data.toList.take j)
      have Hnx := Lib.hid (show beStep (beNum (t1.data.toList.take j)) t1[j] = beNum (t1.data.toList.take (j + 1)) by rw [take_succ_get t1 j hlt, beNum_snoc])
      go_wp2
      go_round
      case rel => exact ⟨j + 1, by omega, by go_num, by rw [← Hnx.out, ← or_byte_w]; rfl⟩
      case measure => simp [intOf]; omega
    · have hje : j = t1.size := by omega
      subst hje
      go_wp2
      go_ret
      refine ⟨?_, HI3.out, HB3.out, HK3.out⟩
      have : t1.data.toList.take t1.size = t1.data.toList := List.take_of_length_le (by rw [← Lib.size_eq]; exact Nat.le_refl _)
      rw [this]; rfl

/-! ### pack_Reader_Err: function 28 -/
def pack_Reader_Err.f (s0_0 : ByteArray) (s0_1 : Int) : Option (Int × ByteArray × Int) := some (s0_1, s0_0, s0_1)
set_option maxHeartbeats 8000000 in
set_option maxRecDepth 100000 in
theorem pack_Reader_Err.calls (g : Nat) (s0_0 : ByteArray) (s0_1 : Int) (r1 : Int) (r2 : ByteArray) (r3 : Int) (w0 w : World) (hI : IsS66 w0 w g s0_0 s0_1) (hB : Below w0.heap.size w0 w) (h : pack_Reader_Err.f s0_0 s0_1 = some (r1, r2, r3)) :
    Calls Tryd.prog 28 #[.pointer (some ⟨g, 0, none⟩)] w fun e w' => e = .returned (.int .i64 r1) ∧ IsS66 w0 w' g r2 r3 ∧ Below w0.heap.size w0 w' ∧ KeepBut w w' g none := by
  have HI0 := Aside0.mk hI
  have HK := Aside0.mk (KeepBut.refl w g none)
  have HL := Aside0.mk hB.size
  clear hI
  have HW0 := Aside0.mk hB.size
  have HB := Aside0.mk hB
  clear hB
  have H : (some (s0_1, s0_0, s0_1)) = some (r1, r2, r3) := h
  clear h
  simp only [Option.some.injEq, Prod.mk.injEq] at H
  obtain ⟨rfl, rfl, rfl⟩ := H
  obtain ⟨HGz2, hgz2⟩ := HI0.out
  have hcz2_0 := cellS66_0 HGz2
  have hcz2_1 := cellS66_1 HGz2
  have hfz2_0 := blk_frozen HGz2 0
  have hfz2_1 := blk_frozen HGz2 1
  clear HGz2 hgz2
  go_enter Tryd.func28, Tryd.ntmps28
  go_wp2
  go_ret
  exact ⟨by first | (with_reducible rfl) | (simp only [isEmpty_bne, Bool.not_not] <;> with_reducible rfl) | (simp [errW_none, errW_some] <;> with_reducible rfl) | (simp only [isEmpty_bne, Bool.not_not] <;> rfl) | rfl | (simp [errW_none, errW_some] <;> rfl) | (simp [*, errW_none, errW_some] <;> rfl), by repeat (first | (with_reducible first | exact HI0.out | apply IsS66.alloc | apply IsS66.drewN | apply IsS66.drew | apply IsS66.set_0 | apply IsS66.set_1) | exact HI0.out), by repeat (first | (with_reducible first | exact HB.out | apply below_alloc | apply pw_below_drewN | apply below_drew1 | refine below_set ?_ (IsS66.ge HI0.out)) | exact HB.out), by repeat (first | (with_reducible first | exact HK.out | apply KeepBut.set_ | apply keep_drewN | apply keep_drew | apply keep_alloc) | exact HK.out)⟩

end Go.Proofs.YtamohmpapdecdaaDoor.PAll
