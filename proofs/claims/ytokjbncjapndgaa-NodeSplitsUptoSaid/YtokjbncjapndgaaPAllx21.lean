/- Printed walks of the functions that the laws reach: each function, what it computes, and that it does. No conditions. -/
import Derived.Test.YtokjbncjapndgaaPAllx0
namespace Go.Proofs.Ytokjbncjapndgaa.PAll
open Go.RowKit Go.Proofs.Ytokjbncjapndgaa.XW Go.Proofs.Ytokjbncjapndgaa.XLib Go.Proofs.YtokjbncjapndgaaW.PrintWords Go.Proofs.YtokjbncjapndgaaW.PrintLast Go.Proofs.YtokjbncjapndgaaW.PrintMore
attribute [local go_sem] max2_int min2_int max_two min_two max_three min_three max_four min_four   -- for this text's walks alone
set_option linter.unusedVariables false
set_option linter.unusedSimpArgs false

/-! ### node_Join: function 19 -/
theorem node_grow_pairs (m:Int) (n:Nat) (hm:m=n) (hn:n < 1099511627776) (w:World):Calls Try.prog 57 #[.slice none 0 0,.int .i64 m] w fun e w'=>∃ v:Value,e=.returned v∧Kd.R k43 43 w' w.heap.size (fun _=>True) v []∧Below w.heap.size w w':=by
 have hu:=Try.underlying22
 have hu3:=Try.underlying3
 subst hm
 by_cases h0:n=0
 ·subst h0
  go_enter Try.func57,Try.ntmps57
  go_wp2
  go_ret
  exact ⟨_,rfl,Kd.R_nil _ _ _ _ _,Below.refl _ _⟩
 ·obtain ⟨i0,hi0,hz0,hs0,hb0⟩:∃ i0:TypeInfo,Try.prog.info? 43=some i0∧i0.zero=some (.agg #[(.string ⟨#[]⟩),(.string ⟨#[]⟩)])∧i0.size=2∧i0.bytes=32:=by
   have h:=info43
   cases hq:Try.prog.info? 43 with
   | none=>rw [hq] at h;cases h
   | some i0 =>
    rw [hq] at h
    simp only [Option.map_some,Option.some.injEq,Prod.mk.injEq] at h
    exact ⟨i0,rfl,h.1,h.2.1,h.2.2⟩
  have hold:(Builtin.firstCells i0.size 0 (.slice none 0 0)).run Try.prog w.drew=.ok ([]:List Value).toArray w.drew:=run_firstCells_none w.drew i0.size 0 0 0
  have hrz:∀ ty,(Builtin.append_ #[22,3] ty #[.slice none 0 0,.int .i64 (n:Int)]).run Try.prog w =
    .ok (.slice (some ⟨w.heap.size,0,none⟩) n (grownCap w n 0 43)) (w.drew.alloc (.cells (([]:List Value).toArray ++ Builtin.zeroCells ((.agg #[(.string ⟨#[]⟩),(.string ⟨#[]⟩)]):Value).cells n ++ Builtin.zeroCells ((.agg #[(.string ⟨#[]⟩),(.string ⟨#[]⟩)]):Value).cells (grownCap w n 0 43 - n)) 43)):=fun ty=>by
   have h:=Lib.run_append_grow_zeros w 22 3 ty 43 i0 (.agg #[(.string ⟨#[]⟩),(.string ⟨#[]⟩)]) .i64 .i64 Try.underlying22 Try.underlying3 hi0 hz0 none 0 0 [] hold n (by omega) (by omega) (by omega) (by omega) (by rw [hb0];omega) (growslice_fits (by omega) (by rw [hb0];omega))
   rw [Nat.zero_add] at h
   exact h
  have hge:n≤grownCap w n 0 43:=grownCap_ge w _ _ _
  have hle:=grownCap_le_maxLen w n 0 43 (by unfold maxLen;omega)
  have hsz:(([]:List Value).toArray ++ Builtin.zeroCells ((.agg #[(.string ⟨#[]⟩),(.string ⟨#[]⟩)]):Value).cells n ++ Builtin.zeroCells ((.agg #[(.string ⟨#[]⟩),(.string ⟨#[]⟩)]):Value).cells (grownCap w n 0 43 - n)).size=grownCap w n 0 43 * 2:=by
   have e:∀ q,(Builtin.zeroCells ((.agg #[(.string ⟨#[]⟩),(.string ⟨#[]⟩)]):Value).cells q).size=q * 2:=fun q=>by simp [Builtin.zeroCells,Value.cells]
   rw [Array.size_append,Array.size_append,e,e,show ([]:List Value).toArray.size=0 from rfl];omega
  generalize (([]:List Value).toArray ++ Builtin.zeroCells ((.agg #[(.string ⟨#[]⟩),(.string ⟨#[]⟩)]):Value).cells n ++ Builtin.zeroCells ((.agg #[(.string ⟨#[]⟩),(.string ⟨#[]⟩)]):Value).cells (grownCap w n 0 43 - n))=cur at hrz hsz
  generalize grownCap w n 0 43=G at hrz hsz hge hle
  have HS:=Aside0.mk hsz
  have HL:=Aside0.mk hle
  have h1:decide ((n:Int) < 0)=false:=decide_eq_false (by omega)
  have h2:decide (0 < n)=true:=decide_eq_true (by omega)
  have h3:decide (0 < (n:Int))=true:=decide_eq_true (by omega)
  have h4:0 < n:=by omega
  have h5:0≤G:=Nat.zero_le _
  have hn63:(n:Int) < 1099511627776:=by omega
  clear hold hsz hle h0 hi0 hz0 hs0 hb0
  go_enter Try.func57,Try.ntmps57
  go_wp2_with (at_builtin;refine Lib.wpList_append_run _ rfl _ _ _ _ rfl _ _ rfl rfl _ _ (hrz _) ?_)
  all_goals
   go_ret
   exact ⟨_,rfl,⟨fun _ _=>trivial,[],World.ownsRow_made w.drew cur G (Nat.le_refl _) HL.out HS.out,Reps.none _ _⟩,below_drew1 (below_alloc (Below.refl _ _) _)⟩
set_option maxHeartbeats 4000000 in
set_option maxRecDepth 100000 in
theorem node_concat_pairs (gp:Nat) (A0:Option Addr) (c0:Nat) (l0:List S43) (A1:Option Addr) (c1:Nat) (l1:List S43) (w:World) (hp:w.heap[gp]?=some (.cells #[.slice A0 l0.length c0,.slice A1 l1.length c1] 22 (0,0))) (hr0:Kd.C k43 w A0 l0.length l0) (hc0:l0.length≤c0) (hr1:Kd.C k43 w A1 l1.length l1) (hc1:l1.length≤c1) (hl:l0.length + l1.length < 1099511627776) :
  Calls Try.prog 36 #[.slice (some ⟨gp,0,none⟩) 2 2] w fun e w'=>∃ v:Value,e=.returned v∧Kd.R k43 43 w' w.heap.size (fun _=>True) v (l0 ++ l1)∧Below w.heap.size w w':=by
 have hu22:=Try.underlying22
 have hu84:=Try.underlying84
 have HP:=Aside0.mk hp
 have HR0:=Aside0.mk hr0
 have HC0:=Aside0.mk hc0
 have HR1:=Aside0.mk hr1
 have HC1:=Aside0.mk hc1
 have HL:=Aside0.mk hl
 have hp0:w.cell? ⟨gp,0,none⟩=some (.slice A0 l0.length c0):=(blk_cell hp 0).trans rfl
 have hp1:w.cell? ⟨gp,1,none⟩=some (.slice A1 l1.length c1):=(blk_cell hp 1).trans rfl
 have b1:decide ((l0.length:Int) < 0)=false:=decide_eq_false (by omega)
 have w1_:wrap64 ((l0.length:Int))=(l0.length:Int):=by unfold wrap64;omega
 have b2:decide ((l0.length:Int) + (l1.length:Int) < 0)=false:=decide_eq_false (by omega)
 have w2_:wrap64 ((l0.length:Int) + (l1.length:Int))=(l0.length:Int) + (l1.length:Int):=by unfold wrap64;omega
 clear hp hl hr0 hc0 hr1 hc1
 go_enter Try.func36,Try.ntmps36
 go_wp2
 refine wp_loop_rounds 3 ?_
 rw [rounds_succ]
 go_wp2
 rw [rounds_succ]
 go_wp2
 rw [rounds_succ]
 go_wp2_with (go_at_call 57;(with_reducible refine (node_grow_pairs _ (l0.length + l1.length) (by omega) HL.out w).mono ?_);rintro e w1 ⟨v,rfl,ho,hb⟩;have HO:=Aside0.mk ho;have HB:=Aside0.mk hb;clear ho hb;have hq0:w1.cell? ⟨gp,0,none⟩=some (.slice A0 l0.length c0):=(blk_cell (blk_below HP.out HB.out) 0).trans rfl;have hq1:w1.cell? ⟨gp,1,none⟩=some (.slice A1 l1.length c1):=(blk_cell (blk_below HP.out HB.out) 1).trans rfl)
 refine wp_loop_rounds 3 ?_
 rw [rounds_succ]
 go_wp2_with ((with_reducible refine gate_builtin (b:=.append) (xs:=#[.tmp 31,.tmp 32]) rfl ?_);at_builtin;refine Kd.R_append_rows k43 (w0:=w) w.heap.size rfl _ _ 22 43 (.agg #[(.string ⟨#[]⟩),(.string ⟨#[]⟩)]) 32 rfl Try.underlying22 info43 rfl (by decide) (by omega) _ (([]:List S43)) l0 _ _ _ (fun _=>True) (fun _=>False) rfl rfl ?aO ?aR (fun _ _ h=>h) (fun _ h=>h.elim) (fun _ _=>trivial) ?aB ?aS ?aL ?_;(case aR=>exact Kd.C_below HR0.out HB.out);(case aO=>exact HO.out);(case aB=>exact HB.out);(case aS=>exact HB.out.size);(case aL=>have:=HL.out;(try simp only [List.length_append,List.length_nil]);omega);intro v2 w2 ho hb hg hat;rw [List.nil_append] at ho;replace HO:=Aside0.mk (ho);replace HB:=Aside0.mk (hb);clear ho hb hg hat;have hq2_0:w2.cell? ⟨gp,0,none⟩=some (.slice A0 l0.length c0):=(blk_cell (blk_below HP.out HB.out) 0).trans rfl;have hq2_1:w2.cell? ⟨gp,1,none⟩=some (.slice A1 l1.length c1):=(blk_cell (blk_below HP.out HB.out) 1).trans rfl)
 rw [rounds_succ]
 go_wp2_with ((with_reducible refine gate_builtin (b:=.append) (xs:=#[.tmp 31,.tmp 32]) rfl ?_);at_builtin;refine Kd.R_append_rows k43 (w0:=w) w.heap.size rfl _ _ 22 43 (.agg #[(.string ⟨#[]⟩),(.string ⟨#[]⟩)]) 32 rfl Try.underlying22 info43 rfl (by decide) (by omega) _ (l0) l1 _ _ _ (fun _=>True) (fun _=>False) rfl rfl ?aO ?aR (fun _ _ h=>h) (fun _ h=>h.elim) (fun _ _=>trivial) ?aB ?aS ?aL ?_;(case aR=>exact Kd.C_below HR1.out HB.out);(case aO=>exact HO.out);(case aB=>exact HB.out);(case aS=>exact HB.out.size);(case aL=>have:=HL.out;(try simp only [List.length_append,List.length_nil]);omega);intro v3 w3 ho hb hg hat;replace HO:=Aside0.mk (ho);replace HB:=Aside0.mk (hb);clear ho hb hg hat;have hq3_0:w3.cell? ⟨gp,0,none⟩=some (.slice A0 l0.length c0):=(blk_cell (blk_below HP.out HB.out) 0).trans rfl;have hq3_1:w3.cell? ⟨gp,1,none⟩=some (.slice A1 l1.length c1):=(blk_cell (blk_below HP.out HB.out) 1).trans rfl)
 rw [rounds_succ]
 go_wp2
 go_ret
 exact ⟨_,rfl,HO.out,HB.out⟩
theorem node_grow_keys (m:Int) (n:Nat) (hm:m=n) (hn:n < 1099511627776) (w:World):Calls Try.prog 58 #[.slice none 0 0,.int .i64 m] w fun e w'=>∃ v:Value,e=.returned v∧Kd.R Kd.string 9 w' w.heap.size (fun _=>True) v []∧Below w.heap.size w w':=by
 have hu:=Try.underlying23
 have hu3:=Try.underlying3
 subst hm
 by_cases h0:n=0
 ·subst h0
  go_enter Try.func58,Try.ntmps58
  go_wp2
  go_ret
  exact ⟨_,rfl,Kd.R_nil _ _ _ _ _,Below.refl _ _⟩
 ·obtain ⟨i0,hi0,hz0,hs0,hb0⟩:∃ i0:TypeInfo,Try.prog.info? 9=some i0∧i0.zero=some (.string ⟨#[]⟩)∧i0.size=1∧i0.bytes=16:=by
   have h:=info9
   cases hq:Try.prog.info? 9 with
   | none=>rw [hq] at h;cases h
   | some i0 =>
    rw [hq] at h
    simp only [Option.map_some,Option.some.injEq,Prod.mk.injEq] at h
    exact ⟨i0,rfl,h.1,h.2.1,h.2.2⟩
  have hold:(Builtin.firstCells i0.size 0 (.slice none 0 0)).run Try.prog w.drew=.ok ([]:List Value).toArray w.drew:=run_firstCells_none w.drew i0.size 0 0 0
  have hrz:∀ ty,(Builtin.append_ #[23,3] ty #[.slice none 0 0,.int .i64 (n:Int)]).run Try.prog w =
    .ok (.slice (some ⟨w.heap.size,0,none⟩) n (grownCap w n 0 9)) (w.drew.alloc (.cells (([]:List Value).toArray ++ Builtin.zeroCells ((.string ⟨#[]⟩):Value).cells n ++ Builtin.zeroCells ((.string ⟨#[]⟩):Value).cells (grownCap w n 0 9 - n)) 9)):=fun ty=>by
   have h:=Lib.run_append_grow_zeros w 23 3 ty 9 i0 (.string ⟨#[]⟩) .i64 .i64 Try.underlying23 Try.underlying3 hi0 hz0 none 0 0 [] hold n (by omega) (by omega) (by omega) (by omega) (by rw [hb0];omega) (growslice_fits (by omega) (by rw [hb0];omega))
   rw [Nat.zero_add] at h
   exact h
  have hge:n≤grownCap w n 0 9:=grownCap_ge w _ _ _
  have hle:=grownCap_le_maxLen w n 0 9 (by unfold maxLen;omega)
  have hsz:(([]:List Value).toArray ++ Builtin.zeroCells ((.string ⟨#[]⟩):Value).cells n ++ Builtin.zeroCells ((.string ⟨#[]⟩):Value).cells (grownCap w n 0 9 - n)).size=grownCap w n 0 9 * 1:=by
   have e:∀ q,(Builtin.zeroCells ((.string ⟨#[]⟩):Value).cells q).size=q * 1:=fun q=>by simp [Builtin.zeroCells,Value.cells]
   rw [Array.size_append,Array.size_append,e,e,show ([]:List Value).toArray.size=0 from rfl];omega
  generalize (([]:List Value).toArray ++ Builtin.zeroCells ((.string ⟨#[]⟩):Value).cells n ++ Builtin.zeroCells ((.string ⟨#[]⟩):Value).cells (grownCap w n 0 9 - n))=cur at hrz hsz
  generalize grownCap w n 0 9=G at hrz hsz hge hle
  have HS:=Aside0.mk hsz
  have HL:=Aside0.mk hle
  have h1:decide ((n:Int) < 0)=false:=decide_eq_false (by omega)
  have h2:decide (0 < n)=true:=decide_eq_true (by omega)
  have h3:decide (0 < (n:Int))=true:=decide_eq_true (by omega)
  have h4:0 < n:=by omega
  have h5:0≤G:=Nat.zero_le _
  have hn63:(n:Int) < 1099511627776:=by omega
  clear hold hsz hle h0 hi0 hz0 hs0 hb0
  go_enter Try.func58,Try.ntmps58
  go_wp2_with (at_builtin;refine Lib.wpList_append_run _ rfl _ _ _ _ rfl _ _ rfl rfl _ _ (hrz _) ?_)
  all_goals
   go_ret
   exact ⟨_,rfl,⟨fun _ _=>trivial,[],World.ownsRow_made w.drew cur G (Nat.le_refl _) HL.out HS.out,Reps.none _ _⟩,below_drew1 (below_alloc (Below.refl _ _) _)⟩
set_option maxHeartbeats 4000000 in
set_option maxRecDepth 100000 in
theorem node_concat_keys (gp:Nat) (A0:Option Addr) (c0:Nat) (l0:List ByteArray) (A1:Option Addr) (c1:Nat) (l1:List ByteArray) (A2:Option Addr) (c2:Nat) (l2:List ByteArray) (w:World) (hp:w.heap[gp]?=some (.cells #[.slice A0 l0.length c0,.slice A1 l1.length c1,.slice A2 l2.length c2] 23 (0,0))) (hr0:Kd.C Kd.string w A0 l0.length l0) (hc0:l0.length≤c0) (hr1:Kd.C Kd.string w A1 l1.length l1) (hc1:l1.length≤c1) (hr2:Kd.C Kd.string w A2 l2.length l2) (hc2:l2.length≤c2) (hl:l0.length + l1.length + l2.length < 1099511627776) :
  Calls Try.prog 37 #[.slice (some ⟨gp,0,none⟩) 3 3] w fun e w'=>∃ v:Value,e=.returned v∧Kd.R Kd.string 9 w' w.heap.size (fun _=>True) v (l0 ++ l1 ++ l2)∧Below w.heap.size w w':=by
 have hu23:=Try.underlying23
 have hu86:=Try.underlying86
 have HP:=Aside0.mk hp
 have HR0:=Aside0.mk hr0
 have HC0:=Aside0.mk hc0
 have HR1:=Aside0.mk hr1
 have HC1:=Aside0.mk hc1
 have HR2:=Aside0.mk hr2
 have HC2:=Aside0.mk hc2
 have HL:=Aside0.mk hl
 have hp0:w.cell? ⟨gp,0,none⟩=some (.slice A0 l0.length c0):=(blk_cell hp 0).trans rfl
 have hp1:w.cell? ⟨gp,1,none⟩=some (.slice A1 l1.length c1):=(blk_cell hp 1).trans rfl
 have hp2:w.cell? ⟨gp,2,none⟩=some (.slice A2 l2.length c2):=(blk_cell hp 2).trans rfl
 have b1:decide ((l0.length:Int) < 0)=false:=decide_eq_false (by omega)
 have w1_:wrap64 ((l0.length:Int))=(l0.length:Int):=by unfold wrap64;omega
 have b2:decide ((l0.length:Int) + (l1.length:Int) < 0)=false:=decide_eq_false (by omega)
 have w2_:wrap64 ((l0.length:Int) + (l1.length:Int))=(l0.length:Int) + (l1.length:Int):=by unfold wrap64;omega
 have b3:decide ((l0.length:Int) + (l1.length:Int) + (l2.length:Int) < 0)=false:=decide_eq_false (by omega)
 have w3_:wrap64 ((l0.length:Int) + (l1.length:Int) + (l2.length:Int))=(l0.length:Int) + (l1.length:Int) + (l2.length:Int):=by unfold wrap64;omega
 clear hp hl hr0 hc0 hr1 hc1 hr2 hc2
 go_enter Try.func37,Try.ntmps37
 go_wp2
 refine wp_loop_rounds 4 ?_
 rw [rounds_succ]
 go_wp2
 rw [rounds_succ]
 go_wp2
 rw [rounds_succ]
 go_wp2
 rw [rounds_succ]
 go_wp2_with (go_at_call 58;(with_reducible refine (node_grow_keys _ (l0.length + l1.length + l2.length) (by omega) HL.out w).mono ?_);rintro e w1 ⟨v,rfl,ho,hb⟩;have HO:=Aside0.mk ho;have HB:=Aside0.mk hb;clear ho hb;have hq0:w1.cell? ⟨gp,0,none⟩=some (.slice A0 l0.length c0):=(blk_cell (blk_below HP.out HB.out) 0).trans rfl;have hq1:w1.cell? ⟨gp,1,none⟩=some (.slice A1 l1.length c1):=(blk_cell (blk_below HP.out HB.out) 1).trans rfl;have hq2:w1.cell? ⟨gp,2,none⟩=some (.slice A2 l2.length c2):=(blk_cell (blk_below HP.out HB.out) 2).trans rfl)
 refine wp_loop_rounds 4 ?_
 rw [rounds_succ]
 go_wp2_with ((with_reducible refine gate_builtin (b:=.append) (xs:=#[.tmp 31,.tmp 32]) rfl ?_);at_builtin;refine Kd.R_append_rows Kd.string (w0:=w) w.heap.size rfl _ _ 23 9 (.string ⟨#[]⟩) 16 rfl Try.underlying23 info9 rfl (by decide) (by omega) _ (([]:List ByteArray)) l0 _ _ _ (fun _=>True) (fun _=>False) rfl rfl ?aO ?aR (fun _ _ h=>h) (fun _ h=>h.elim) (fun _ _=>trivial) ?aB ?aS ?aL ?_;(case aR=>exact Kd.C_below HR0.out HB.out);(case aO=>exact HO.out);(case aB=>exact HB.out);(case aS=>exact HB.out.size);(case aL=>have:=HL.out;(try simp only [List.length_append,List.length_nil]);omega);intro v2 w2 ho hb hg hat;rw [List.nil_append] at ho;replace HO:=Aside0.mk (ho);replace HB:=Aside0.mk (hb);clear ho hb hg hat;have hq2_0:w2.cell? ⟨gp,0,none⟩=some (.slice A0 l0.length c0):=(blk_cell (blk_below HP.out HB.out) 0).trans rfl;have hq2_1:w2.cell? ⟨gp,1,none⟩=some (.slice A1 l1.length c1):=(blk_cell (blk_below HP.out HB.out) 1).trans rfl;have hq2_2:w2.cell? ⟨gp,2,none⟩=some (.slice A2 l2.length c2):=(blk_cell (blk_below HP.out HB.out) 2).trans rfl)
 rw [rounds_succ]
 go_wp2_with ((with_reducible refine gate_builtin (b:=.append) (xs:=#[.tmp 31,.tmp 32]) rfl ?_);at_builtin;refine Kd.R_append_rows Kd.string (w0:=w) w.heap.size rfl _ _ 23 9 (.string ⟨#[]⟩) 16 rfl Try.underlying23 info9 rfl (by decide) (by omega) _ (l0) l1 _ _ _ (fun _=>True) (fun _=>False) rfl rfl ?aO ?aR (fun _ _ h=>h) (fun _ h=>h.elim) (fun _ _=>trivial) ?aB ?aS ?aL ?_;(case aR=>exact Kd.C_below HR1.out HB.out);(case aO=>exact HO.out);(case aB=>exact HB.out);(case aS=>exact HB.out.size);(case aL=>have:=HL.out;(try simp only [List.length_append,List.length_nil]);omega);intro v3 w3 ho hb hg hat;replace HO:=Aside0.mk (ho);replace HB:=Aside0.mk (hb);clear ho hb hg hat;have hq3_0:w3.cell? ⟨gp,0,none⟩=some (.slice A0 l0.length c0):=(blk_cell (blk_below HP.out HB.out) 0).trans rfl;have hq3_1:w3.cell? ⟨gp,1,none⟩=some (.slice A1 l1.length c1):=(blk_cell (blk_below HP.out HB.out) 1).trans rfl;have hq3_2:w3.cell? ⟨gp,2,none⟩=some (.slice A2 l2.length c2):=(blk_cell (blk_below HP.out HB.out) 2).trans rfl)
 rw [rounds_succ]
 go_wp2_with ((with_reducible refine gate_builtin (b:=.append) (xs:=#[.tmp 31,.tmp 32]) rfl ?_);at_builtin;refine Kd.R_append_rows Kd.string (w0:=w) w.heap.size rfl _ _ 23 9 (.string ⟨#[]⟩) 16 rfl Try.underlying23 info9 rfl (by decide) (by omega) _ (l0 ++ l1) l2 _ _ _ (fun _=>True) (fun _=>False) rfl rfl ?aO ?aR (fun _ _ h=>h) (fun _ h=>h.elim) (fun _ _=>trivial) ?aB ?aS ?aL ?_;(case aR=>exact Kd.C_below HR2.out HB.out);(case aO=>exact HO.out);(case aB=>exact HB.out);(case aS=>exact HB.out.size);(case aL=>have:=HL.out;(try simp only [List.length_append,List.length_nil]);omega);intro v4 w4 ho hb hg hat;replace HO:=Aside0.mk (ho);replace HB:=Aside0.mk (hb);clear ho hb hg hat;have hq4_0:w4.cell? ⟨gp,0,none⟩=some (.slice A0 l0.length c0):=(blk_cell (blk_below HP.out HB.out) 0).trans rfl;have hq4_1:w4.cell? ⟨gp,1,none⟩=some (.slice A1 l1.length c1):=(blk_cell (blk_below HP.out HB.out) 1).trans rfl;have hq4_2:w4.cell? ⟨gp,2,none⟩=some (.slice A2 l2.length c2):=(blk_cell (blk_below HP.out HB.out) 2).trans rfl)
 rw [rounds_succ]
 go_wp2
 go_ret
 exact ⟨_,rfl,HO.out,HB.out⟩
theorem node_grow_kids (m:Int) (n:Nat) (hm:m=n) (hn:n < 1099511627776) (w:World):Calls Try.prog 59 #[.slice none 0 0,.int .i64 m] w fun e w'=>∃ v:Value,e=.returned v∧Kd.R (Kd.int .i64) 3 w' w.heap.size (fun _=>True) v []∧Below w.heap.size w w':=by
 have hu:=Try.underlying24
 have hu3:=Try.underlying3
 subst hm
 by_cases h0:n=0
 ·subst h0
  go_enter Try.func59,Try.ntmps59
  go_wp2
  go_ret
  exact ⟨_,rfl,Kd.R_nil _ _ _ _ _,Below.refl _ _⟩
 ·obtain ⟨i0,hi0,hz0,hs0,hb0⟩:∃ i0:TypeInfo,Try.prog.info? 3=some i0∧i0.zero=some (.int .i64 0)∧i0.size=1∧i0.bytes=8:=by
   have h:=info3
   cases hq:Try.prog.info? 3 with
   | none=>rw [hq] at h;cases h
   | some i0 =>
    rw [hq] at h
    simp only [Option.map_some,Option.some.injEq,Prod.mk.injEq] at h
    exact ⟨i0,rfl,h.1,h.2.1,h.2.2⟩
  have hold:(Builtin.firstCells i0.size 0 (.slice none 0 0)).run Try.prog w.drew=.ok ([]:List Value).toArray w.drew:=run_firstCells_none w.drew i0.size 0 0 0
  have hrz:∀ ty,(Builtin.append_ #[24,3] ty #[.slice none 0 0,.int .i64 (n:Int)]).run Try.prog w =
    .ok (.slice (some ⟨w.heap.size,0,none⟩) n (grownCap w n 0 3)) (w.drew.alloc (.cells (([]:List Value).toArray ++ Builtin.zeroCells ((.int .i64 0):Value).cells n ++ Builtin.zeroCells ((.int .i64 0):Value).cells (grownCap w n 0 3 - n)) 3)):=fun ty=>by
   have h:=Lib.run_append_grow_zeros w 24 3 ty 3 i0 (.int .i64 0) .i64 .i64 Try.underlying24 Try.underlying3 hi0 hz0 none 0 0 [] hold n (by omega) (by omega) (by omega) (by omega) (by rw [hb0];omega) (growslice_fits (by omega) (by rw [hb0];omega))
   rw [Nat.zero_add] at h
   exact h
  have hge:n≤grownCap w n 0 3:=grownCap_ge w _ _ _
  have hle:=grownCap_le_maxLen w n 0 3 (by unfold maxLen;omega)
  have hsz:(([]:List Value).toArray ++ Builtin.zeroCells ((.int .i64 0):Value).cells n ++ Builtin.zeroCells ((.int .i64 0):Value).cells (grownCap w n 0 3 - n)).size=grownCap w n 0 3 * 1:=by
   have e:∀ q,(Builtin.zeroCells ((.int .i64 0):Value).cells q).size=q * 1:=fun q=>by simp [Builtin.zeroCells,Value.cells]
   rw [Array.size_append,Array.size_append,e,e,show ([]:List Value).toArray.size=0 from rfl];omega
  generalize (([]:List Value).toArray ++ Builtin.zeroCells ((.int .i64 0):Value).cells n ++ Builtin.zeroCells ((.int .i64 0):Value).cells (grownCap w n 0 3 - n))=cur at hrz hsz
  generalize grownCap w n 0 3=G at hrz hsz hge hle
  have HS:=Aside0.mk hsz
  have HL:=Aside0.mk hle
  have h1:decide ((n:Int) < 0)=false:=decide_eq_false (by omega)
  have h2:decide (0 < n)=true:=decide_eq_true (by omega)
  have h3:decide (0 < (n:Int))=true:=decide_eq_true (by omega)
  have h4:0 < n:=by omega
  have h5:0≤G:=Nat.zero_le _
  have hn63:(n:Int) < 1099511627776:=by omega
  clear hold hsz hle h0 hi0 hz0 hs0 hb0
  go_enter Try.func59,Try.ntmps59
  go_wp2_with (at_builtin;refine Lib.wpList_append_run _ rfl _ _ _ _ rfl _ _ rfl rfl _ _ (hrz _) ?_)
  all_goals
   go_ret
   exact ⟨_,rfl,⟨fun _ _=>trivial,[],World.ownsRow_made w.drew cur G (Nat.le_refl _) HL.out HS.out,Reps.none _ _⟩,below_drew1 (below_alloc (Below.refl _ _) _)⟩
set_option maxHeartbeats 4000000 in
set_option maxRecDepth 100000 in
theorem node_concat_kids (gp:Nat) (A0:Option Addr) (c0:Nat) (l0:List Int) (A1:Option Addr) (c1:Nat) (l1:List Int) (w:World) (hp:w.heap[gp]?=some (.cells #[.slice A0 l0.length c0,.slice A1 l1.length c1] 24 (0,0))) (hr0:Kd.C (Kd.int .i64) w A0 l0.length l0) (hc0:l0.length≤c0) (hr1:Kd.C (Kd.int .i64) w A1 l1.length l1) (hc1:l1.length≤c1) (hl:l0.length + l1.length < 1099511627776) :
  Calls Try.prog 38 #[.slice (some ⟨gp,0,none⟩) 2 2] w fun e w'=>∃ v:Value,e=.returned v∧Kd.R (Kd.int .i64) 3 w' w.heap.size (fun _=>True) v (l0 ++ l1)∧Below w.heap.size w w':=by
 have hu24:=Try.underlying24
 have hu88:=Try.underlying88
 have HP:=Aside0.mk hp
 have HR0:=Aside0.mk hr0
 have HC0:=Aside0.mk hc0
 have HR1:=Aside0.mk hr1
 have HC1:=Aside0.mk hc1
 have HL:=Aside0.mk hl
 have hp0:w.cell? ⟨gp,0,none⟩=some (.slice A0 l0.length c0):=(blk_cell hp 0).trans rfl
 have hp1:w.cell? ⟨gp,1,none⟩=some (.slice A1 l1.length c1):=(blk_cell hp 1).trans rfl
 have b1:decide ((l0.length:Int) < 0)=false:=decide_eq_false (by omega)
 have w1_:wrap64 ((l0.length:Int))=(l0.length:Int):=by unfold wrap64;omega
 have b2:decide ((l0.length:Int) + (l1.length:Int) < 0)=false:=decide_eq_false (by omega)
 have w2_:wrap64 ((l0.length:Int) + (l1.length:Int))=(l0.length:Int) + (l1.length:Int):=by unfold wrap64;omega
 clear hp hl hr0 hc0 hr1 hc1
 go_enter Try.func38,Try.ntmps38
 go_wp2
 refine wp_loop_rounds 3 ?_
 rw [rounds_succ]
 go_wp2
 rw [rounds_succ]
 go_wp2
 rw [rounds_succ]
 go_wp2_with (go_at_call 59;(with_reducible refine (node_grow_kids _ (l0.length + l1.length) (by omega) HL.out w).mono ?_);rintro e w1 ⟨v,rfl,ho,hb⟩;have HO:=Aside0.mk ho;have HB:=Aside0.mk hb;clear ho hb;have hq0:w1.cell? ⟨gp,0,none⟩=some (.slice A0 l0.length c0):=(blk_cell (blk_below HP.out HB.out) 0).trans rfl;have hq1:w1.cell? ⟨gp,1,none⟩=some (.slice A1 l1.length c1):=(blk_cell (blk_below HP.out HB.out) 1).trans rfl)
 refine wp_loop_rounds 3 ?_
 rw [rounds_succ]
 go_wp2_with ((with_reducible refine gate_builtin (b:=.append) (xs:=#[.tmp 31,.tmp 32]) rfl ?_);at_builtin;refine Kd.R_append_rows (Kd.int .i64) (w0:=w) w.heap.size rfl _ _ 24 3 (.int .i64 0) 8 rfl Try.underlying24 info3 rfl (by decide) (by omega) _ (([]:List Int)) l0 _ _ _ (fun _=>True) (fun _=>False) rfl rfl ?aO ?aR (fun _ _ h=>h) (fun _ h=>h.elim) (fun _ _=>trivial) ?aB ?aS ?aL ?_;(case aR=>exact Kd.C_below HR0.out HB.out);(case aO=>exact HO.out);(case aB=>exact HB.out);(case aS=>exact HB.out.size);(case aL=>have:=HL.out;(try simp only [List.length_append,List.length_nil]);omega);intro v2 w2 ho hb hg hat;rw [List.nil_append] at ho;replace HO:=Aside0.mk (ho);replace HB:=Aside0.mk (hb);clear ho hb hg hat;have hq2_0:w2.cell? ⟨gp,0,none⟩=some (.slice A0 l0.length c0):=(blk_cell (blk_below HP.out HB.out) 0).trans rfl;have hq2_1:w2.cell? ⟨gp,1,none⟩=some (.slice A1 l1.length c1):=(blk_cell (blk_below HP.out HB.out) 1).trans rfl)
 rw [rounds_succ]
 go_wp2_with ((with_reducible refine gate_builtin (b:=.append) (xs:=#[.tmp 31,.tmp 32]) rfl ?_);at_builtin;refine Kd.R_append_rows (Kd.int .i64) (w0:=w) w.heap.size rfl _ _ 24 3 (.int .i64 0) 8 rfl Try.underlying24 info3 rfl (by decide) (by omega) _ (l0) l1 _ _ _ (fun _=>True) (fun _=>False) rfl rfl ?aO ?aR (fun _ _ h=>h) (fun _ h=>h.elim) (fun _ _=>trivial) ?aB ?aS ?aL ?_;(case aR=>exact Kd.C_below HR1.out HB.out);(case aO=>exact HO.out);(case aB=>exact HB.out);(case aS=>exact HB.out.size);(case aL=>have:=HL.out;(try simp only [List.length_append,List.length_nil]);omega);intro v3 w3 ho hb hg hat;replace HO:=Aside0.mk (ho);replace HB:=Aside0.mk (hb);clear ho hb hg hat;have hq3_0:w3.cell? ⟨gp,0,none⟩=some (.slice A0 l0.length c0):=(blk_cell (blk_below HP.out HB.out) 0).trans rfl;have hq3_1:w3.cell? ⟨gp,1,none⟩=some (.slice A1 l1.length c1):=(blk_cell (blk_below HP.out HB.out) 1).trans rfl)
 rw [rounds_succ]
 go_wp2
 go_ret
 exact ⟨_,rfl,HO.out,HB.out⟩
theorem node_set_grown {W:World} {g i:Nat} {u:Value}:W.grownBy (W.setCell ⟨g,i,none⟩ u) (some g):=⟨rfl,rfl,rfl,by rw [World.size_setCell];exact Nat.le_refl _,fun k _ hn=>Below.heap_setCell W _ u k (fun e=>hn (by rw [e]))⟩
theorem node_row {α:Type} {d:Kd α} {e:Nat} {W Wb:World} {base base' gr:Nat} {v:Value} {xs:List α} (h:d.R e W base (fun _=>True) v xs) (hb:Below W.heap.size W Wb) (hg:gr < base) (hl:base'≤base) (v0 v1 v2 v3:Value) :
  d.R e ((((Wb.setCell ⟨gr,0,none⟩ v0).setCell ⟨gr,1,none⟩ v1).setCell ⟨gr,2,none⟩ v2).setCell ⟨gr,3,none⟩ v3) base' (fun _=>True) v xs:=by
 have ne:∀ k,k ≠ gr→some k ≠ some gr:=fun k hk e=>hk (Option.some.inj e)
 have h1:d.R e Wb base (fun k=>k ≠ gr) v xs:=Kd.R_below (Kd.R_mono (Kd.R_bound h) (fun k hk=>by have:=hk.2.1;omega)) hb
 exact Kd.R_mono (Kd.R_lower (Kd.R_grown (Kd.R_grown (Kd.R_grown (Kd.R_grown h1 node_set_grown ne) node_set_grown ne) node_set_grown ne) node_set_grown ne) hl) (fun _ _=>trivial)
theorem node_a30 (w:World) (A B C:Obj):(((w.alloc A).alloc B).alloc C).heap[w.heap.size]?=some A:=blk_alloc (heap_alloc2_old w A B) C
theorem node_a31 (w:World) (A B C:Obj):(((w.alloc A).alloc B).alloc C).heap[w.heap.size + 1]?=some B:=blk_alloc (heap_alloc2_new w A B) C
theorem node_a32 (w:World) (A B C:Obj):(((w.alloc A).alloc B).alloc C).heap[w.heap.size + 1 + 1]?=some C:=by
 have:=heap_alloc2_new (w.alloc A) B C
 rw [World.size_alloc] at this
 exact this
theorem node_a21 (w:World) (A B:Obj):((w.alloc A).alloc B).heap[w.heap.size + 1]?=some B:=heap_alloc2_new w A B
theorem node_lit (W:World) (g:Nat) (x:ByteArray) (h:W.heap[g]?=some (.cells #[.string x] 9 (0,0))):Kd.C Kd.string W (some ⟨g,0,none⟩) [x].length [x]:=by
 have:Kd.R Kd.string 9 W 0 (fun _=>True) (.slice (some ⟨g,0,none⟩) [x].length 1) [x]:=⟨fun _ _=>trivial,[.string x],⟨rfl,.inr ⟨g,1,#[.string x],rfl,Nat.zero_le _,h,Nat.le_refl _,by unfold maxLen;omega,rfl,rfl⟩⟩,Reps.one (show Kd.M Kd.string _ _ _ x [.string x] from rfl) (Reps.none _ _)⟩
 exact (Kd.R_reads' this).2.2
theorem gate_store_ {P:Program} {ops:Array Oper} {rest:List Oper} {o:Oper} {a:Act} {W:World} {Q:Exit→Act→World→Prop} {t:TypeId} {p:Tmp} {v:Operand} (_ho:o.op=.store t (.tmp p) v) (h:wpList P ops Q (o :: rest) a W):wpList P ops Q (o :: rest) a W:=h
theorem below_gr {w0 W W1:World} {b:Nat} (h:Below w0.heap.size w0 W) (k:W.grownBy W1 (some b)) (hb:w0.heap.size≤b):Below w0.heap.size w0 W1:=h.grown k h.size (fun k_ e_=>by cases e_;exact hb)
theorem made_event {P:Program} {ops:Array Oper} {rest:List Oper} {o:Oper} {a:Act} {W:World} {Q:Exit→Act→World→Prop} (hgd:o.guard=none) {N:Tmp} (_hd:o.dst=some N) {cs:Array Value} {t:TypeId} (v:Nat→Value)
  (hrun:(execOp a.eval o).run P W=.ok (.value (v W.heap.size)) (W.alloc (.cells cs t (0,0))))
  (h:∀ g,g=W.heap.size→∀ w1,w1.heap[g]?=some (.cells cs t (0,0))→Below W.heap.size W w1→wpList P ops Q rest (a.put o.dst (v g)) w1):wpList P ops Q (o :: rest) a W :=
 Kd.event_run hgd hrun (h _ rfl _ (blk_new W _) (below_alloc (Below.refl _ _) _))
def node_Join.f (a0_0:Bool) (l0_1:List S43) (l0_2:List ByteArray) (l0_3:List Int) (a1_0:Bool) (l1_1:List S43) (l1_2:List ByteArray) (l1_3:List Int) (a2:ByteArray):Option (Bool × List S43 × List ByteArray × List Int) :=
 if a0_0=true then (if l0_1.length + l1_1.length < 1099511627776 then some (true,l0_1 ++ l1_1,[],[]) else none)
 else (if l0_2.length + 1 + l1_2.length < 1099511627776 then (if l0_3.length + l1_3.length < 1099511627776 then some (false,[],l0_2 ++ [a2] ++ l1_2,l0_3 ++ l1_3) else none) else none)
set_option maxHeartbeats 8000000 in
set_option maxRecDepth 100000 in
theorem node_Join.calls (a0_0:Bool) (A0_1:Option Addr) (c0_1:Nat) (l0_1:List S43) (A0_2:Option Addr) (c0_2:Nat) (l0_2:List ByteArray) (A0_3:Option Addr) (c0_3:Nat) (l0_3:List Int) (a1_0:Bool) (A1_1:Option Addr) (c1_1:Nat) (l1_1:List S43) (A1_2:Option Addr) (c1_2:Nat) (l1_2:List ByteArray) (A1_3:Option Addr) (c1_3:Nat) (l1_3:List Int) (a2:ByteArray) (r1:Bool) (r2:List S43) (r3:List ByteArray) (r4:List Int) (w:World) (hr0_1:Kd.C k43 w A0_1 l0_1.length l0_1) (hc0_1:l0_1.length≤c0_1) (hr0_2:Kd.C Kd.string w A0_2 l0_2.length l0_2) (hc0_2:l0_2.length≤c0_2) (hr0_3:Kd.C (Kd.int .i64) w A0_3 l0_3.length l0_3) (hc0_3:l0_3.length≤c0_3) (hr1_1:Kd.C k43 w A1_1 l1_1.length l1_1) (hc1_1:l1_1.length≤c1_1) (hr1_2:Kd.C Kd.string w A1_2 l1_2.length l1_2) (hc1_2:l1_2.length≤c1_2) (hr1_3:Kd.C (Kd.int .i64) w A1_3 l1_3.length l1_3) (hc1_3:l1_3.length≤c1_3) (h:node_Join.f a0_0 l0_1 l0_2 l0_3 a1_0 l1_1 l1_2 l1_3 a2=some (r1,r2,r3,r4)) :
  Calls Try.prog 19 #[.agg #[.bool a0_0,.slice A0_1 l0_1.length c0_1,.slice A0_2 l0_2.length c0_2,.slice A0_3 l0_3.length c0_3],.agg #[.bool a1_0,.slice A1_1 l1_1.length c1_1,.slice A1_2 l1_2.length c1_2,.slice A1_3 l1_3.length c1_3],.string a2] w fun e w'=>∃ v1_ v2_ v3_:Value,e=.returned (.agg #[.bool r1,v1_,v2_,v3_])∧Kd.R k43 43 w' w.heap.size (fun _=>True) v1_ r2∧Kd.R Kd.string 9 w' w.heap.size (fun _=>True) v2_ r3∧Kd.R (Kd.int .i64) 3 w' w.heap.size (fun _=>True) v3_ r4∧Below w.heap.size w w':=by
 have hu26:=Try.underlying26
 have HB:=Aside0.mk (Below.refl w.heap.size w)
 have HR0_1:=Aside0.mk hr0_1
 have HC0_1:=Aside0.mk hc0_1
 have HR0_2:=Aside0.mk hr0_2
 have HC0_2:=Aside0.mk hc0_2
 have HR0_3:=Aside0.mk hr0_3
 have HC0_3:=Aside0.mk hc0_3
 have HR1_1:=Aside0.mk hr1_1
 have HC1_1:=Aside0.mk hc1_1
 have HR1_2:=Aside0.mk hr1_2
 have HC1_2:=Aside0.mk hc1_2
 have HR1_3:=Aside0.mk hr1_3
 have HC1_3:=Aside0.mk hc1_3
 clear hr0_1 hc0_1 hr0_2 hc0_2 hr0_3 hc0_3 hr1_1 hc1_1 hr1_2 hc1_2 hr1_3 hc1_3
 unfold node_Join.f at h
 cases a0_0 with
 | true =>
  rw [if_pos rfl] at h
  by_cases c:l0_1.length + l1_1.length < 1099511627776
  ·rw [if_pos c] at h
   simp only [Option.some.injEq,Prod.mk.injEq] at h
   obtain ⟨rfl,rfl,rfl,rfl⟩:=h
   have HL:=Aside0.mk c
   clear c
   go_enter Try.func19,Try.ntmps19
   go_wp2_with (first|((with_reducible refine gate_dst (N:=3) rfl ?_);refine box_event ?hg (N:=3) ?hd (cs:=#[.bool true,.slice A0_1 l0_1.length c0_1,.slice A0_2 l0_2.length c0_2,.slice A0_3 l0_3.length c0_3]) (t:=26) ?hr ?_;(case hd=>rfl);(case hg=>rfl);(case hr=>first|(go_simp;done)|(go_simp;rfl));intro gf hg w3 hbox hb;have BF:=Aside0.mk hbox;have GBF:=Aside0.mk (show w.heap.size≤gf by rw [hg];exact HB.out.size);replace HB:=Aside0.mk (below_step HB.out hb);clear hb hbox hg)|((with_reducible refine gate_dst (N:=4) rfl ?_);refine box_event ?hg (N:=4) ?hd (cs:=#[.bool a1_0,.slice A1_1 l1_1.length c1_1,.slice A1_2 l1_2.length c1_2,.slice A1_3 l1_3.length c1_3]) (t:=26) ?hr ?_;(case hd=>rfl);(case hg=>rfl);(case hr=>first|(go_simp;done)|(go_simp;rfl));intro gg hg w4 hbox hb;have BG:=Aside0.mk hbox;have GBG:=Aside0.mk (show w.heap.size≤gg by rw [hg];exact HB.out.size);have NBG_BF:=Aside0.mk (show gg ≠ gf by rw [hg];exact Nat.ne_of_gt (blk_lt BF.out));replace HB:=Aside0.mk (below_step HB.out hb);replace BF:=Aside0.mk (blk_below BF.out hb);clear hb hbox hg)|((with_reducible refine gate_dst (N:=6) rfl ?_);refine box_event ?hg (N:=6) ?hd (cs:=#[.bool false,.slice none 0 0,.slice none 0 0,.slice none 0 0]) (t:=26) ?hr ?_;(case hd=>rfl);(case hg=>rfl);(case hr=>first|(go_simp;done)|(go_simp;rfl));intro gr hg w6 hbox hb;have BR:=Aside0.mk hbox;have GBR:=Aside0.mk (show w.heap.size≤gr by rw [hg];exact HB.out.size);have NBR_BF:=Aside0.mk (show gr ≠ gf by rw [hg];exact Nat.ne_of_gt (blk_lt BF.out));have NBR_BG:=Aside0.mk (show gr ≠ gg by rw [hg];exact Nat.ne_of_gt (blk_lt BG.out));replace HB:=Aside0.mk (below_step HB.out hb);replace BF:=Aside0.mk (blk_below BF.out hb);replace BG:=Aside0.mk (blk_below BG.out hb);clear hb hbox hg;have hBFw60:w6.cell? ⟨gf,0,none⟩=some (.bool true):=(blk_cell BF.out 0).trans rfl;have zBFw60:=blk_frozen BF.out 0;have hBFw61:w6.cell? ⟨gf,1,none⟩=some (.slice A0_1 l0_1.length c0_1):=(blk_cell BF.out 1).trans rfl;have zBFw61:=blk_frozen BF.out 1;have hBFw62:w6.cell? ⟨gf,2,none⟩=some (.slice A0_2 l0_2.length c0_2):=(blk_cell BF.out 2).trans rfl;have zBFw62:=blk_frozen BF.out 2;have hBFw63:w6.cell? ⟨gf,3,none⟩=some (.slice A0_3 l0_3.length c0_3):=(blk_cell BF.out 3).trans rfl;have zBFw63:=blk_frozen BF.out 3;have hBGw60:w6.cell? ⟨gg,0,none⟩=some (.bool a1_0):=(blk_cell BG.out 0).trans rfl;have zBGw60:=blk_frozen BG.out 0;have hBGw61:w6.cell? ⟨gg,1,none⟩=some (.slice A1_1 l1_1.length c1_1):=(blk_cell BG.out 1).trans rfl;have zBGw61:=blk_frozen BG.out 1;have hBGw62:w6.cell? ⟨gg,2,none⟩=some (.slice A1_2 l1_2.length c1_2):=(blk_cell BG.out 2).trans rfl;have zBGw62:=blk_frozen BG.out 2;have hBGw63:w6.cell? ⟨gg,3,none⟩=some (.slice A1_3 l1_3.length c1_3):=(blk_cell BG.out 3).trans rfl;have zBGw63:=blk_frozen BG.out 3)|((with_reducible refine gate_dst (N:=13) rfl ?_);refine made_event ?hg (N:=13) ?hd (cs:=#[.slice A0_1 l0_1.length c0_1,.slice A1_1 l1_1.length c1_1]) (t:=22) (fun g_=>.slice (some ⟨g_,0,none⟩) 2 2) ?hr ?_;(case hd=>rfl);(case hg=>rfl);(case hr=>first|(go_simp;done)|(go_simp;rfl));intro gp hg w7 hbox hb;have BP:=Aside0.mk hbox;have GBP:=Aside0.mk (show w.heap.size≤gp by rw [hg];exact HB.out.size);have NBP_BR:=Aside0.mk (show gp ≠ gr by rw [hg];exact Nat.ne_of_gt (blk_lt BR.out));replace HB:=Aside0.mk (below_step HB.out hb);replace BR:=Aside0.mk (blk_below BR.out hb);clear hb hbox hg;have hBRw70:w7.cell? ⟨gr,0,none⟩=some (.bool false):=(blk_cell BR.out 0).trans rfl;have zBRw70:=blk_frozen BR.out 0;have hBRw71:w7.cell? ⟨gr,1,none⟩=some (.slice none 0 0):=(blk_cell BR.out 1).trans rfl;have zBRw71:=blk_frozen BR.out 1;have hBRw72:w7.cell? ⟨gr,2,none⟩=some (.slice none 0 0):=(blk_cell BR.out 2).trans rfl;have zBRw72:=blk_frozen BR.out 2;have hBRw73:w7.cell? ⟨gr,3,none⟩=some (.slice none 0 0):=(blk_cell BR.out 3).trans rfl;have zBRw73:=blk_frozen BR.out 3)|(go_at_call 36;(with_reducible refine (node_concat_pairs gp A0_1 c0_1 l0_1 A1_1 c1_1 l1_1 _ BP.out (Kd.C_below HR0_1.out HB.out) HC0_1.out (Kd.C_below HR1_1.out HB.out) HC1_1.out HL.out).mono ?_);rintro e w8 ⟨v,rfl,ho,hb⟩;have HO:=Aside0.mk (Kd.R_mono (ok':=fun k=>k ≠ gr) (Kd.R_lower (Kd.R_bound ho) HB.out.size) (fun k hk e=>Nat.not_lt.2 hk.2.1 (by rw [e];exact blk_lt BR.out)));replace HB:=Aside0.mk (below_step HB.out hb);replace BR:=Aside0.mk (blk_below BR.out hb);clear ho hb;obtain ⟨Av,cv,ev⟩:=Kd.R_slice HO.out;subst ev)|((with_reducible refine gate_store_ (t:=26) (p:=6) rfl ?_);refine store_all 26 gr 26 #[.bool false,.slice none 0 0,.slice none 0 0,.slice none 0 0] #[.bool true,.slice Av (l0_1 ++ l1_1).length cv,.slice none 0 0,.slice none 0 0] rfl rfl rfl (by first|rfl|(go_simp;done)) BR.out (by kernel_rfl) rfl (by kernel_rfl) ?_;intro w9 hx hg;replace HO:=Aside0.mk (Kd.R_mono (ok':=fun _=>True) (Kd.R_grown (ok:=fun k=>k ≠ gr) HO.out hg (fun k hk e=>hk (Option.some.inj e))) (fun _ _=>trivial));replace HB:=Aside0.mk (below_gr HB.out hg GBR.out);replace BR:=Aside0.mk (hx);clear hx hg))
   refine bodyPost_ret (v:=.agg #[.bool true,.slice Av (l0_1 ++ l1_1).length cv,.slice none 0 0,.slice none 0 0]) (results_cell_row rfl _ _ gr 26 #[.bool true,.slice Av (l0_1 ++ l1_1).length cv,.slice none 0 0,.slice none 0 0] (0,0) _ rfl BR.out Try.underlying26 rfl (by kernel_rfl)) rfl ?_
   exact ⟨_,_,_,rfl,HO.out,Kd.R_nil _ _ _ _ _,Kd.R_nil _ _ _ _ _,HB.out⟩
  ·rw [if_neg c] at h;cases h
 | false =>
  rw [if_neg (by decide)] at h
  by_cases c:l0_2.length + 1 + l1_2.length < 1099511627776
  ·rw [if_pos c] at h
   by_cases d:l0_3.length + l1_3.length < 1099511627776
   ·rw [if_pos d] at h
    simp only [Option.some.injEq,Prod.mk.injEq] at h
    obtain ⟨rfl,rfl,rfl,rfl⟩:=h
    have HL:=Aside0.mk c
    have HM:=Aside0.mk d
    clear c d
    go_enter Try.func19,Try.ntmps19
    go_wp2_with (first|((with_reducible refine gate_dst (N:=3) rfl ?_);refine box_event ?hg (N:=3) ?hd (cs:=#[.bool false,.slice A0_1 l0_1.length c0_1,.slice A0_2 l0_2.length c0_2,.slice A0_3 l0_3.length c0_3]) (t:=26) ?hr ?_;(case hd=>rfl);(case hg=>rfl);(case hr=>first|(go_simp;done)|(go_simp;rfl));intro gf hg w3 hbox hb;have BF:=Aside0.mk hbox;have GBF:=Aside0.mk (show w.heap.size≤gf by rw [hg];exact HB.out.size);replace HB:=Aside0.mk (below_step HB.out hb);clear hb hbox hg)|((with_reducible refine gate_dst (N:=4) rfl ?_);refine box_event ?hg (N:=4) ?hd (cs:=#[.bool a1_0,.slice A1_1 l1_1.length c1_1,.slice A1_2 l1_2.length c1_2,.slice A1_3 l1_3.length c1_3]) (t:=26) ?hr ?_;(case hd=>rfl);(case hg=>rfl);(case hr=>first|(go_simp;done)|(go_simp;rfl));intro gg hg w4 hbox hb;have BG:=Aside0.mk hbox;have GBG:=Aside0.mk (show w.heap.size≤gg by rw [hg];exact HB.out.size);have NBG_BF:=Aside0.mk (show gg ≠ gf by rw [hg];exact Nat.ne_of_gt (blk_lt BF.out));replace HB:=Aside0.mk (below_step HB.out hb);replace BF:=Aside0.mk (blk_below BF.out hb);clear hb hbox hg)|((with_reducible refine gate_dst (N:=6) rfl ?_);refine box_event ?hg (N:=6) ?hd (cs:=#[.bool false,.slice none 0 0,.slice none 0 0,.slice none 0 0]) (t:=26) ?hr ?_;(case hd=>rfl);(case hg=>rfl);(case hr=>first|(go_simp;done)|(go_simp;rfl));intro gr hg w6 hbox hb;have BR:=Aside0.mk hbox;have GBR:=Aside0.mk (show w.heap.size≤gr by rw [hg];exact HB.out.size);have NBR_BF:=Aside0.mk (show gr ≠ gf by rw [hg];exact Nat.ne_of_gt (blk_lt BF.out));have NBR_BG:=Aside0.mk (show gr ≠ gg by rw [hg];exact Nat.ne_of_gt (blk_lt BG.out));replace HB:=Aside0.mk (below_step HB.out hb);replace BF:=Aside0.mk (blk_below BF.out hb);replace BG:=Aside0.mk (blk_below BG.out hb);clear hb hbox hg;have hBFw60:w6.cell? ⟨gf,0,none⟩=some (.bool false):=(blk_cell BF.out 0).trans rfl;have zBFw60:=blk_frozen BF.out 0;have hBFw61:w6.cell? ⟨gf,1,none⟩=some (.slice A0_1 l0_1.length c0_1):=(blk_cell BF.out 1).trans rfl;have zBFw61:=blk_frozen BF.out 1;have hBFw62:w6.cell? ⟨gf,2,none⟩=some (.slice A0_2 l0_2.length c0_2):=(blk_cell BF.out 2).trans rfl;have zBFw62:=blk_frozen BF.out 2;have hBFw63:w6.cell? ⟨gf,3,none⟩=some (.slice A0_3 l0_3.length c0_3):=(blk_cell BF.out 3).trans rfl;have zBFw63:=blk_frozen BF.out 3;have hBGw60:w6.cell? ⟨gg,0,none⟩=some (.bool a1_0):=(blk_cell BG.out 0).trans rfl;have zBGw60:=blk_frozen BG.out 0;have hBGw61:w6.cell? ⟨gg,1,none⟩=some (.slice A1_1 l1_1.length c1_1):=(blk_cell BG.out 1).trans rfl;have zBGw61:=blk_frozen BG.out 1;have hBGw62:w6.cell? ⟨gg,2,none⟩=some (.slice A1_2 l1_2.length c1_2):=(blk_cell BG.out 2).trans rfl;have zBGw62:=blk_frozen BG.out 2;have hBGw63:w6.cell? ⟨gg,3,none⟩=some (.slice A1_3 l1_3.length c1_3):=(blk_cell BG.out 3).trans rfl;have zBGw63:=blk_frozen BG.out 3;have hBRw60:w6.cell? ⟨gr,0,none⟩=some (.bool false):=(blk_cell BR.out 0).trans rfl;have zBRw60:=blk_frozen BR.out 0;have hBRw61:w6.cell? ⟨gr,1,none⟩=some (.slice none 0 0):=(blk_cell BR.out 1).trans rfl;have zBRw61:=blk_frozen BR.out 1;have hBRw62:w6.cell? ⟨gr,2,none⟩=some (.slice none 0 0):=(blk_cell BR.out 2).trans rfl;have zBRw62:=blk_frozen BR.out 2;have hBRw63:w6.cell? ⟨gr,3,none⟩=some (.slice none 0 0):=(blk_cell BR.out 3).trans rfl;have zBRw63:=blk_frozen BR.out 3))
    have HPK:=Aside0.mk (show ∀ W:World,W.heap[gf]?=some (.cells #[.bool false,.slice A0_1 l0_1.length c0_1,.slice A0_2 l0_2.length c0_2,.slice A0_3 l0_3.length c0_3] 26 (0,0))→W.heap[gg]?=some (.cells #[.bool a1_0,.slice A1_1 l1_1.length c1_1,.slice A1_2 l1_2.length c1_2,.slice A1_3 l1_3.length c1_3] 26 (0,0))→(W.cell? ⟨gf,2,none⟩=some (.slice A0_2 l0_2.length c0_2)∧W.cell? ⟨gf,3,none⟩=some (.slice A0_3 l0_3.length c0_3)∧W.cell? ⟨gg,2,none⟩=some (.slice A1_2 l1_2.length c1_2)∧W.cell? ⟨gg,3,none⟩=some (.slice A1_3 l1_3.length c1_3)) from fun W hf hg=>⟨(blk_cell hf 2).trans rfl,(blk_cell hf 3).trans rfl,(blk_cell hg 2).trans rfl,(blk_cell hg 3).trans rfl⟩)
    go_region_held3 (fun w'=>w'.cell? ⟨gf,2,none⟩=some (.slice A0_2 l0_2.length c0_2)∧w'.cell? ⟨gf,3,none⟩=some (.slice A0_3 l0_3.length c0_3)∧w'.cell? ⟨gg,2,none⟩=some (.slice A1_2 l1_2.length c1_2)∧w'.cell? ⟨gg,3,none⟩=some (.slice A1_3 l1_3.length c1_3)) ((exact HPK.out _ (by repeat (first|(refine blk_far ?_ (Ne.symm NBR_BF.out) _)|exact blk_below BF.out (by repeat (first|(with_reducible first|exact HBB.out|exact HBA.out|exact Below.refl _ _|apply below_alloc|apply below_drew1|apply pw_below_drewN)|exact Below.refl _ _)))) (by repeat (first|(refine blk_far ?_ (Ne.symm NBR_BG.out) _)|exact blk_below BG.out (by repeat (first|(with_reducible first|exact HBB.out|exact HBA.out|exact Below.refl _ _|apply below_alloc|apply below_drew1|apply pw_below_drewN)|exact Below.refl _ _)))))) (first|(go_at_call 37;refine (node_concat_keys _ A0_2 c0_2 l0_2 (some ⟨w6.heap.size,0,none⟩) 1 [a2] A1_2 c1_2 l1_2 _ ?side1 ?side2 HC0_2.out ?side3 (Nat.le_refl _) ?side4 HC1_2.out HL.out).mono ?_;(case side1=>exact (by first|exact heap_alloc2_new _ _ _|exact heap_alloc2_old _ _ _|exact node_a30 _ _ _ _|exact node_a31 _ _ _ _|exact node_a32 _ _ _ _|exact heap_alloc_new _ _|exact node_a21 _ _ _));(case side2=>exact Kd.C_below HR0_2.out (below_step HB.out (by repeat (first|(with_reducible first|exact HBB.out|exact HBA.out|exact Below.refl _ _|apply below_alloc|apply below_drew1|apply pw_below_drewN)|exact Below.refl _ _))));(case side3=>exact node_lit _ _ _ (by first|exact heap_alloc2_new _ _ _|exact heap_alloc2_old _ _ _|exact node_a30 _ _ _ _|exact node_a31 _ _ _ _|exact node_a32 _ _ _ _|exact heap_alloc_new _ _|exact node_a21 _ _ _));(case side4=>exact Kd.C_below HR1_2.out (below_step HB.out (by repeat (first|(with_reducible first|exact HBB.out|exact HBA.out|exact Below.refl _ _|apply below_alloc|apply below_drew1|apply pw_below_drewN)|exact Below.refl _ _))));rintro e wA ⟨vA,rfl,hoA,hbA⟩;have HBA:=Aside0.mk (show Below w6.heap.size w6 wA from below_step (by repeat (first|(with_reducible first|exact HBB.out|exact HBA.out|exact Below.refl _ _|apply below_alloc|apply below_drew1|apply pw_below_drewN)|exact Below.refl _ _)) hbA);obtain ⟨Ak,ck,ek⟩:=Kd.R_slice hoA;subst ek;have HOA:=Aside0.mk (Kd.R_lower (base':=w6.heap.size) hoA (Below.size (show Below w6.heap.size w6 _ from (by repeat (first|(with_reducible first|exact Below.refl _ _|apply below_alloc|apply below_drew1|apply pw_below_drewN)|exact Below.refl _ _)))));have HWA:=Aside0.mk hbA;clear hoA hbA)|(go_at_call 37;refine (node_concat_keys _ A0_2 c0_2 l0_2 (some ⟨w6.heap.size + 1,0,none⟩) 1 [a2] A1_2 c1_2 l1_2 _ ?side1 ?side2 HC0_2.out ?side3 (Nat.le_refl _) ?side4 HC1_2.out HL.out).mono ?_;(case side1=>exact (by first|exact heap_alloc2_new _ _ _|exact heap_alloc2_old _ _ _|exact node_a30 _ _ _ _|exact node_a31 _ _ _ _|exact node_a32 _ _ _ _|exact heap_alloc_new _ _|exact node_a21 _ _ _));(case side2=>exact Kd.C_below HR0_2.out (below_step HB.out (by repeat (first|(with_reducible first|exact HBB.out|exact HBA.out|exact Below.refl _ _|apply below_alloc|apply below_drew1|apply pw_below_drewN)|exact Below.refl _ _))));(case side3=>exact node_lit _ _ _ (by first|exact heap_alloc2_new _ _ _|exact heap_alloc2_old _ _ _|exact node_a30 _ _ _ _|exact node_a31 _ _ _ _|exact node_a32 _ _ _ _|exact heap_alloc_new _ _|exact node_a21 _ _ _));(case side4=>exact Kd.C_below HR1_2.out (below_step HB.out (by repeat (first|(with_reducible first|exact HBB.out|exact HBA.out|exact Below.refl _ _|apply below_alloc|apply below_drew1|apply pw_below_drewN)|exact Below.refl _ _))));rintro e wA ⟨vA,rfl,hoA,hbA⟩;have HBA:=Aside0.mk (show Below w6.heap.size w6 wA from below_step (by repeat (first|(with_reducible first|exact HBB.out|exact HBA.out|exact Below.refl _ _|apply below_alloc|apply below_drew1|apply pw_below_drewN)|exact Below.refl _ _)) hbA);obtain ⟨Ak,ck,ek⟩:=Kd.R_slice hoA;subst ek;have HOA:=Aside0.mk (Kd.R_lower (base':=w6.heap.size) hoA (Below.size (show Below w6.heap.size w6 _ from (by repeat (first|(with_reducible first|exact Below.refl _ _|apply below_alloc|apply below_drew1|apply pw_below_drewN)|exact Below.refl _ _)))));have HWA:=Aside0.mk hbA;clear hoA hbA)|(go_at_call 38;refine (node_concat_kids _ A0_3 c0_3 l0_3 A1_3 c1_3 l1_3 _ ?side1 ?side2 HC0_3.out ?side4 HC1_3.out HM.out).mono ?_;(case side1=>exact (by first|exact heap_alloc2_new _ _ _|exact heap_alloc2_old _ _ _|exact node_a30 _ _ _ _|exact node_a31 _ _ _ _|exact node_a32 _ _ _ _|exact heap_alloc_new _ _|exact blk_below (by first|exact heap_alloc2_new _ _ _|exact heap_alloc2_old _ _ _|exact node_a30 _ _ _ _|exact node_a31 _ _ _ _|exact node_a32 _ _ _ _) HWA.out));(case side2=>exact Kd.C_below HR0_3.out (below_step HB.out (by repeat (first|(with_reducible first|exact HBB.out|exact HBA.out|exact Below.refl _ _|apply below_alloc|apply below_drew1|apply pw_below_drewN)|exact Below.refl _ _))));(case side4=>exact Kd.C_below HR1_3.out (below_step HB.out (by repeat (first|(with_reducible first|exact HBB.out|exact HBA.out|exact Below.refl _ _|apply below_alloc|apply below_drew1|apply pw_below_drewN)|exact Below.refl _ _))));rintro e wB ⟨vB,rfl,hoB,hbB⟩;have HBB:=Aside0.mk (show Below w6.heap.size w6 wB from below_step (by repeat (first|(with_reducible first|exact HBB.out|exact HBA.out|exact Below.refl _ _|apply below_alloc|apply below_drew1|apply pw_below_drewN)|exact Below.refl _ _)) hbB);obtain ⟨Ad,cd,ed⟩:=Kd.R_slice hoB;subst ed;have HOB:=Aside0.mk (Kd.R_lower (base':=w6.heap.size) hoB (Below.size (show Below w6.heap.size w6 _ from (by repeat (first|(with_reducible first|exact HBA.out|exact Below.refl _ _|apply below_alloc|apply below_drew1|apply pw_below_drewN)|exact Below.refl _ _)))));have HAB:=Aside0.mk (show Below wA.heap.size wA wB from below_step (by repeat (first|exact Below.refl _ _|apply below_alloc|apply below_drew1)) hbB);have BRB:=Aside0.mk (blk_below BR.out HBB.out);have hq0:wB.cell? ⟨gr,0,none⟩=some (.bool false):=(blk_cell BRB.out 0).trans rfl;have hy0:=blk_frozen BRB.out 0;have hq1:wB.cell? ⟨gr,1,none⟩=some (.slice none 0 0):=(blk_cell BRB.out 1).trans rfl;have hy1:=blk_frozen BRB.out 1;have hq2:wB.cell? ⟨gr,2,none⟩=some (.slice none 0 0):=(blk_cell BRB.out 2).trans rfl;have hy2:=blk_frozen BRB.out 2;have hq3:wB.cell? ⟨gr,3,none⟩=some (.slice none 0 0):=(blk_cell BRB.out 3).trans rfl;have hy3:=blk_frozen BRB.out 3;clear hoB hbB))
    all_goals
     go_wp2
     have q1:(l0_2.length + (l1_2.length + 1))=(l0_2 ++ [a2] ++ l1_2).length:=by simp only [List.length_append,List.length_cons,List.length_nil];omega
     have q2:l0_3.length + l1_3.length=(l0_3 ++ l1_3).length:=by rw [List.length_append]
     refine bodyPost_ret (v:=.agg #[.bool false,.slice none 0 0,.slice Ak (l0_2.length + (l1_2.length + 1)) ck,.slice Ad (l0_3.length + l1_3.length) cd]) (results_cell_row rfl _ _ gr 26 #[.bool false,.slice none 0 0,.slice Ak (l0_2.length + (l1_2.length + 1)) ck,.slice Ad (l0_3.length + l1_3.length) cd] (0,0) _ rfl (zpe (zpi (zpi (zpi (zpi BRB.out 0 (.bool false)) 1 (.slice none 0 0)) 2 (.slice Ak (l0_2.length + (l1_2.length + 1)) ck)) 3 (.slice Ad (l0_3.length + l1_3.length) cd)) rfl) Try.underlying26 rfl (by kernel_rfl)) rfl ?_
     rw [q1,q2]
     exact ⟨_,_,_,rfl,Kd.R_nil _ _ _ _ _,node_row HOA.out HAB.out (blk_lt BR.out) HB.out.size _ _ _ _,node_row HOB.out (Below.refl _ _) (blk_lt BR.out) HB.out.size _ _ _ _,below_set (below_set (below_set (below_set (below_step HB.out HBB.out) GBR.out) GBR.out) GBR.out) GBR.out⟩
   ·rw [if_neg d] at h;cases h
  ·rw [if_neg c] at h;cases h

end Go.Proofs.Ytokjbncjapndgaa.PAll
