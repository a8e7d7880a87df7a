/- Steps on rows of bytes that a call owns, inside a region that draws its order: a string appended. Plain lemmas over any program. -/
import Derived.Test.YtnlfppfdfdopiaaDoorV
import Derived.Test.YtnlfppfdfdopiaaDoorXWords
import Derived.Lib.AppendStr
import Derived.Deep.AppendLies
namespace Go.Proofs.YtnlfppfdfdopiaaDoor.XW
open Go.RowKit Go.Proofs.YtnlfppfdfdopiaaDoorW.PrintWords

/-- bytes as numbers -/
def bi (l : List UInt8) : List Int := l.map fun c => (c.toNat : Int)
theorem bi_app (a b : List UInt8) : bi (a ++ b) = bi a ++ bi b := by simp [bi]
theorem bi_len (a : List UInt8) : (bi a).length = a.length := by simp [bi]
theorem bi_bytesOf (s : ByteArray) : bytesOf s = bi s.data.toList := rfl

section
variable {P : Program} {ops : Array Oper} {o : Oper} {a : Act} {Q : Exit → Act → World → Prop} {K : Act → World → Prop} {E : Prop}
theorem R_str_step {W : World} (base : Nat) (hgd : o.guard = none) (s x : Operand) (t u e : TypeId)
    (ho : o.op = .call { callee := .builtin .append, args := #[s, x], argTypes := #[t, u] })
    (ht : P.underlying t = some (.slice e)) (hu : P.underlying u = some .string) (hinfo : (P.info? e).map (fun i => (i.zero, i.size, i.bytes)) = some (some (.int .u8 0), 1, 1))
    (v : Value) (xs : List Int) (y : ByteArray) (hs : a.eval s = v) (hx : a.eval x = .string y)
    (ok : Nat → Prop) (HO : Kd.R (Kd.int .u8) e W base ok v xs) (hbase : base ≤ W.heap.size) (hl : xs.length + y.size ≤ 140737488355328)
    (h : ∀ v1 w1, Kd.R (Kd.int .u8) e w1 base (fun _ => True) v1 (xs ++ bytesOf y) → Below base W w1 → W.grownBy w1 v.ownBlock → K (a.put o.dst v1) w1) :
    if Region.wanted o (yielded ops a.tmps) = true then Oper.wp P o a W K Q else E := by
  rw [if_pos (by simp [Region.wanted, hgd])]
  obtain ⟨i0, hi, hzz⟩ := Option.map_eq_some_iff.1 hinfo
  simp only [Prod.mk.injEq] at hzz
  obtain ⟨hz0, hz1, hz2⟩ := hzz
  have hown := Kd.own_of_R HO
  obtain ⟨v', w', hr, h2, h3, h4⟩ := Lib.run_append_own_string (P := P) W base t u o.type e i0 ht hu hi hz0 hz1 hz2 v xs.length (nums .u8 xs) hown y (by simp only [maxLen]; omega) hl hbase
  unfold Oper.wp execOp
  simp only [ho, resolve, invoke, builtin, Sem.run_bind, Sem.run_pure, Result.andThen_ok, List.map_toArray, List.map_cons, List.map_nil, hs, hx, hr]
  have hl2 : (xs ++ bytesOf y).length = xs.length + y.size := by rw [List.length_append, bytesOf_length]
  have hc : nums .u8 (xs ++ bytesOf y) = nums .u8 xs ++ Lib.strCells y := by
    rw [nums_append]; congr 1; simp [nums, bytesOf, Lib.strCells]
  exact h _ _ (Kd.R_of_own (by show World.ownsRow _ _ _ _ _ _ (nums .u8 _); rw [hl2, hc]; exact h2) (fun _ _ => trivial)) ((Below.refl base W).grown h3 hbase (own_base hown)) h3
/-- Which block a row of bytes lies in behind the append of a string: its own as it was, or a new one. -/
theorem append_str_block {W : World} (base : Nat) (t u ty e : TypeId) (i : TypeInfo) (ht : P.underlying t = some (.slice e)) (hu : P.underlying u = some .string) (hi : P.info? e = some i) (hz : i.zero = some (.int .u8 0))
    (hsize : i.size = 1) (hby : i.bytes = 1) (v : Value) (n : Nat) (xs : List Value) (hown : W.ownsRow base e 1 v n xs) (s : ByteArray) (hl : n + s.size ≤ 140737488355328) {v' : Value} {w' : World}
    (hr : (Builtin.append_ #[t, u] ty #[v, .string s]).run P W = .ok v' w') (h0 : v' = .slice none 0 0 ↔ v = .slice none 0 0 ∧ s.size = 0) : ∀ k, v'.ownBlock = some k → v.ownBlock = some k ∨ W.heap.size ≤ k := by
  have hxl : xs.length = n := by simpa using hown.1
  rcases hown.2 with ⟨rfl, rfl⟩ | ⟨g, cap, cur, rfl, hbg, hg, hnc, hcm, hcs, htake⟩
  · by_cases hm : s.size = 0
    · obtain rfl := h0.2 ⟨rfl, hm⟩
      intro k hk; simp [Value.ownBlock] at hk
    · have h1 := run_append_nil_string (P := P) W t u ty e i (.int .u8 0) ht hu hi hz s (by omega) (by omega) (by rw [hby]; omega)
      rw [h1] at hr
      injection hr with h2 h3
      subst h2
      intro k hk
      simp [Value.ownBlock] at hk
      right; omega
  · by_cases hroom : n + s.size ≤ cap
    · have hcs' : cur.size = cap := by simpa using hcs
      have h1 := Lib.run_append_room_string (P := P) W t u ty e i ht hu hi hsize g n cap cur hg s hroom (by omega)
      rw [h1] at hr
      injection hr with h2 h3
      subst h2
      intro k hk
      left; simpa [Value.ownBlock] using hk
    · have holds : ∀ j u, xs[j]? = some u → W.cell? ((⟨g, 0, none⟩ : Addr).add j) = some u := hown.cells (g := g) rfl
      have h1 := Lib.run_append_grow_string (P := P) W t u ty e i (.int .u8 0) ht hu hi hz ⟨g, 0, none⟩ n cap xs (by rw [hsize]; simpa using hxl) holds s (by omega) (by omega) (by rw [hby]; exact growslice_fits (by omega) (by omega))
      rw [h1] at hr
      injection hr with h2 h3
      subst h2
      intro k hk
      simp [Value.ownBlock] at hk
      right; omega
/-- A string appended to a row of bytes, at the operation: what the row's block may be stays told. -/
theorem R_strO {w0 W : World} (base : Nat) (s x : Operand) (t u e : TypeId)
    (ho : o.op = .call { callee := .builtin .append, args := #[s, x], argTypes := #[t, u] })
    (ht : P.underlying t = some (.slice e)) (hu : P.underlying u = some .string) (hinfo : (P.info? e).map (fun i => (i.zero, i.size, i.bytes)) = some (some (.int .u8 0), 1, 1))
    (v : Value) (xs : List Int) (y : ByteArray) (ok : Nat → Prop) (hs : a.eval s = v) (hx : a.eval x = .string y) (hf : ∀ k, W.heap.size ≤ k → ok k)
    (HO : Kd.R (Kd.int .u8) e W base ok v xs) (HB : Below base w0 W) (hbase : base ≤ W.heap.size) (hl : xs.length + y.size ≤ 140737488355328)
    (h : ∀ v1 w1, Kd.R (Kd.int .u8) e w1 base ok v1 (xs ++ bytesOf y) → Below base w0 w1 → W.grownBy w1 v.ownBlock → True → K (a.put o.dst v1) w1) :
    Oper.wp P o a W K Q := by
  obtain ⟨i0, hi, hzz⟩ := Option.map_eq_some_iff.1 hinfo
  simp only [Prod.mk.injEq] at hzz
  obtain ⟨hz0, hz1, hz2⟩ := hzz
  have hown := Kd.own_of_R HO
  obtain ⟨v', w', hr, h2, h3, h4⟩ := Lib.run_append_own_string (P := P) W base t u o.type e i0 ht hu hi hz0 hz1 hz2 v xs.length (nums .u8 xs) hown y (by simp only [maxLen]; omega) hl hbase
  have hbl := append_str_block base t u o.type e i0 ht hu hi hz0 hz1 hz2 v xs.length (nums .u8 xs) hown y hl hr h4
  unfold Oper.wp execOp
  simp only [ho, resolve, invoke, builtin, Sem.run_bind, Sem.run_pure, Result.andThen_ok, List.map_toArray, List.map_cons, List.map_nil, hs, hx, hr]
  have hl2 : (xs ++ bytesOf y).length = xs.length + y.size := by rw [List.length_append, bytesOf_length]
  have hc : nums .u8 (xs ++ bytesOf y) = nums .u8 xs ++ Lib.strCells y := by
    rw [nums_append]; congr 1; simp [nums, bytesOf, Lib.strCells]
  exact h _ _ (Kd.R_of_own (by show World.ownsRow _ _ _ _ _ _ (nums .u8 _); rw [hl2, hc]; exact h2) (fun k hk => by
    rcases hbl k hk with h5 | h5
    · exact HO.1 k h5
    · exact hf k h5)) (HB.grown h3 hbase (own_base hown)) h3 trivial
theorem R_strP {rest : List Oper} {w0 W : World} (base : Nat) (hgd : o.guard = none) (s x : Operand) (t u e : TypeId)
    (ho : o.op = .call { callee := .builtin .append, args := #[s, x], argTypes := #[t, u] })
    (ht : P.underlying t = some (.slice e)) (hu : P.underlying u = some .string) (hinfo : (P.info? e).map (fun i => (i.zero, i.size, i.bytes)) = some (some (.int .u8 0), 1, 1))
    (v : Value) (xs : List Int) (y : ByteArray) (ok : Nat → Prop) (hs : a.eval s = v) (hx : a.eval x = .string y) (hf : ∀ k, W.heap.size ≤ k → ok k)
    (HO : Kd.R (Kd.int .u8) e W base ok v xs) (HB : Below base w0 W) (hbase : base ≤ W.heap.size) (hl : xs.length + y.size ≤ 140737488355328)
    (h : ∀ v1 w1, Kd.R (Kd.int .u8) e w1 base ok v1 (xs ++ bytesOf y) → Below base w0 w1 → W.grownBy w1 v.ownBlock → True → wpList P ops Q rest (a.put o.dst v1) w1) :
    wpList P ops Q (o :: rest) a W :=
  wpList_plain hgd fun _ hK => R_strO base s x t u e ho ht hu hinfo v xs y ok hs hx hf HO HB hbase hl fun v1 w1 h1 h2 h3 h4 => hK _ _ (h v1 w1 h1 h2 h3 h4)
theorem bi_cells (l : List UInt8) : ∀ u ∈ nums .u8 (bi l), u.oneCell' = true := by
  intro u hu; simp only [nums, List.mem_map] at hu; obtain ⟨x, _, rfl⟩ := hu; rfl
/-- Bytes that lie in a block are appended: at the operation. -/
theorem R_lies {W : World} (base : Nat) (s x : Operand) (t e : TypeId)
    (ho : o.op = .call { callee := .builtin .append, args := #[s, x], argTypes := #[t, t] })
    (ht : P.underlying t = some (.slice e)) (hinfo : (P.info? e).map (fun i => (i.zero, i.size, i.bytes)) = some (some (.int .u8 0), 1, 1))
    (v : Value) (xs : List Int) (ys : List UInt8) (B m c : Nat) (fr : Nat × Nat) (te : TypeId) (hs : a.eval s = v) (hx : a.eval x = .slice (some ⟨B, 0, none⟩) m c)
    (ok : Nat → Prop) (hf : ∀ k, W.heap.size ≤ k → ok k) (HO : Kd.R (Kd.int .u8) e W base ok v xs) (hB : W.heap[B]? = some (.cells (nums .u8 (bi ys)).toArray te fr)) (hm : ys.length = m) (hm0 : 0 < m) (hbase : base ≤ W.heap.size) (hl : xs.length + m ≤ 140737488355328)
    (h : ∀ v1 w1, Kd.R (Kd.int .u8) e w1 base ok v1 (xs ++ bi ys) → Below base W w1 → W.grownBy w1 v.ownBlock → K (a.put o.dst v1) w1) :
    Oper.wp P o a W K Q := by
  obtain ⟨i0, hi, hzz⟩ := Option.map_eq_some_iff.1 hinfo
  simp only [Prod.mk.injEq] at hzz
  obtain ⟨hz0, hz1, hz2⟩ := hzz
  have hown := Kd.own_of_R HO
  have hn : ∀ j u, (nums .u8 (bi ys))[j]? = some u → W.cell? ((⟨B, 0, none⟩ : Addr).add j) = some u := fun j u hu => World.news_of_block hB j u (by simpa using hu)
  refine wp_append_lies W s x t ho base e i0 (.int .u8 0) 1 1 ht hi hz0 hz1 hz2 rfl (by decide) v xs.length (nums .u8 xs) hs hown ⟨B, 0, none⟩ m c (nums .u8 (bi ys)) hx (by simp [nums, bi_len, hm]) hn (bi_cells ys) hm0 (by simp only [maxLen]; omega) (by omega) hbase _ rfl ?_
  intro g cap w1 h2 h3 h4 _
  have hl2 : (xs ++ bi ys).length = xs.length + m := by rw [List.length_append, bi_len, hm]
  refine h _ _ (Kd.R_of_own (by show World.ownsRow _ _ _ _ _ _ (nums .u8 _); rw [hl2, nums_append]; exact h2) (fun k hk => by
    have hg : g = k := by simpa [Value.ownBlock] using hk
    subst hg
    rcases h4 with h4 | h4
    · exact HO.1 _ h4
    · exact hf _ (by omega))) ((Below.refl base W).grown h3 hbase (own_base hown)) h3
theorem R_lies_plain {W : World} {rest : List Oper} {Q : Exit → Act → World → Prop} (base : Nat) (hgd : o.guard = none) (s x : Operand) (t e : TypeId)
    (ho : o.op = .call { callee := .builtin .append, args := #[s, x], argTypes := #[t, t] })
    (ht : P.underlying t = some (.slice e)) (hinfo : (P.info? e).map (fun i => (i.zero, i.size, i.bytes)) = some (some (.int .u8 0), 1, 1))
    (v : Value) (xs : List Int) (ys : List UInt8) (B m c : Nat) (fr : Nat × Nat) (te : TypeId) (hs : a.eval s = v) (hx : a.eval x = .slice (some ⟨B, 0, none⟩) m c)
    (ok : Nat → Prop) (hf : ∀ k, W.heap.size ≤ k → ok k) (HO : Kd.R (Kd.int .u8) e W base ok v xs) (hB : W.heap[B]? = some (.cells (nums .u8 (bi ys)).toArray te fr)) (hm : ys.length = m) (hm0 : 0 < m) (hbase : base ≤ W.heap.size) (hl : xs.length + m ≤ 140737488355328)
    (h : ∀ v1 w1, Kd.R (Kd.int .u8) e w1 base ok v1 (xs ++ bi ys) → Below base W w1 → W.grownBy w1 v.ownBlock → wpList P ops Q rest (a.put o.dst v1) w1) :
    wpList P ops Q (o :: rest) a W :=
  wpList_plain hgd fun _ hK => R_lies base s x t e ho ht hinfo v xs ys B m c fr te hs hx ok hf HO hB hm hm0 hbase hl fun v1 w1 h1 h2 h3 => hK _ _ (h v1 w1 h1 h2 h3)
theorem R_lies_step {W : World} (base : Nat) (hgd : o.guard = none) (s x : Operand) (t e : TypeId)
    (ho : o.op = .call { callee := .builtin .append, args := #[s, x], argTypes := #[t, t] })
    (ht : P.underlying t = some (.slice e)) (hinfo : (P.info? e).map (fun i => (i.zero, i.size, i.bytes)) = some (some (.int .u8 0), 1, 1))
    (v : Value) (xs : List Int) (ys : List UInt8) (B m c : Nat) (fr : Nat × Nat) (te : TypeId) (hs : a.eval s = v) (hx : a.eval x = .slice (some ⟨B, 0, none⟩) m c)
    (ok : Nat → Prop) (hf : ∀ k, W.heap.size ≤ k → ok k) (HO : Kd.R (Kd.int .u8) e W base ok v xs) (hB : W.heap[B]? = some (.cells (nums .u8 (bi ys)).toArray te fr)) (hm : ys.length = m) (hm0 : 0 < m) (hbase : base ≤ W.heap.size) (hl : xs.length + m ≤ 140737488355328)
    (h : ∀ v1 w1, Kd.R (Kd.int .u8) e w1 base ok v1 (xs ++ bi ys) → Below base W w1 → W.grownBy w1 v.ownBlock → K (a.put o.dst v1) w1) :
    if Region.wanted o (yielded ops a.tmps) = true then Oper.wp P o a W K Q else E := by
  rw [if_pos (by simp [Region.wanted, hgd])]
  exact R_lies base s x t e ho ht hinfo v xs ys B m c fr te hs hx ok hf HO hB hm hm0 hbase hl h
end
end Go.Proofs.YtnlfppfdfdopiaaDoor.XW
