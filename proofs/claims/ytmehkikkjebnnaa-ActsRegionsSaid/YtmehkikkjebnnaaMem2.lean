/-
  More memory words: a piece of a slice; copy into a row of the call's own, elements of any number of cells; appends and copies as a step of a region that draws its order.
-/
import Derived.Test.YtmehkikkjebnnaaMem
import Derived.Deep.RegionLaw
import Derived.Laws.Slices
set_option linter.unusedVariables false
set_option linter.unusedSimpArgs false
namespace Go.Proofs.Ytmehkikkjebnnaa
open Go.RowKit

/-- A new block, as a slice over the whole of it. -/
theorem Holds.newN (w : World) (e : TypeId) (sz n : Nat) (cs : List Value) (hl : cs.length = n * sz) (hn : n ≤ 1000000) (h1 : ∀ u ∈ cs, u.oneCell' = true) :
    Holds (w.alloc (.cells cs.toArray e)) sz (.slice (some ⟨w.heap.size, 0, none⟩) n n) n cs := by
  refine ⟨hl, h1, _, n, rfl, Nat.le_refl _, by unfold maxLen; omega, fun _ => ⟨_, 0, rfl, fun j hj => ?_⟩⟩
  rw [cell_of_row _ _ _ cs.toArray e (0, 0) (heap_alloc_new w _)]
  simp
theorem Holds.zero (w : World) (sz : Nat) (a : Option Addr) (c : Nat) (h : c ≤ maxLen) : Holds w sz (.slice a 0 c) 0 [] :=
  ⟨by simp, by simp, a, c, rfl, by omega, h, fun h => absurd h (by omega)⟩
theorem max2_i (k k' : IntKind) (x y : Int) : Builtin.max2 (.int k x) (.int k' y) = pure (.int k (max x y)) := by
  simp only [Builtin.max2]
  congr 2
  by_cases h : y > x
  · rw [if_pos h]; omega
  · rw [if_neg h]; omega
theorem min2_i (k k' : IntKind) (x y : Int) : Builtin.min2 (.int k x) (.int k' y) = pure (.int k (min x y)) := by
  simp only [Builtin.min2]
  congr 2
  by_cases h : y < x
  · rw [if_pos h]; omega
  · rw [if_neg h]; omega
theorem max_two (ats : Array TypeId) (ty : TypeId) (a b : Value) : Builtin.max_ ats ty #[a, b] = (Builtin.max2 a b >>= fun s => pure s) := by simp only [Builtin.max_, List.foldlM_cons, List.foldlM_nil]
theorem min_two (ats : Array TypeId) (ty : TypeId) (a b : Value) : Builtin.min_ ats ty #[a, b] = (Builtin.min2 a b >>= fun s => pure s) := by simp only [Builtin.min_, List.foldlM_cons, List.foldlM_nil]
/-! ### A variable in a block of its own, known whole -/
/-- Block b holds the cells cs, and may be written. -/
def Box (w : World) (b : Nat) (t : TypeId) (cs : Array Value) : Prop := w.heap[b]? = some (.cells cs t (0, 0))
theorem Box.lt {w : World} {b : Nat} {t : TypeId} {cs : Array Value} (h : Box w b t cs) : b < w.heap.size := (Array.getElem?_eq_some_iff.1 h).1
theorem Box.cell {w : World} {b : Nat} {t : TypeId} {cs : Array Value} (h : Box w b t cs) (o : Nat) : w.cell? ⟨b, o, none⟩ = cs[o]? := by
  unfold Box at h
  simp [World.cell?, h]
theorem Box.frozen {w : World} {b : Nat} {t : TypeId} {cs : Array Value} (h : Box w b t cs) (o : Nat) : w.frozen? ⟨b, o, none⟩ = false := by
  unfold Box at h
  simp [World.frozen?, h]
/-- The two rules for the walk. -/
theorem Box.rules {w : World} {b : Nat} {t : TypeId} {cs : Array Value} (h : Box w b t cs) : (∀ o, w.cell? ⟨b, o, none⟩ = cs[o]?) ∧ (∀ o, w.frozen? ⟨b, o, none⟩ = false) := ⟨h.cell, h.frozen⟩
theorem Box.ext {w w' : World} {b : Nat} {t : TypeId} {cs : Array Value} (h : Box w b t cs) (he : Ext w w') : Box w' b t cs := (he.block b h.lt).trans h
theorem Box.grown {w w' : World} {b : Nat} {t : TypeId} {cs : Array Value} {row : Option Nat} (h : Box w b t cs) (hg : w.grownBy w' row) (hne : some b ≠ row) : Box w' b t cs := (hg.block b h.lt hne).trans h
theorem Box.new (w : World) (t : TypeId) (cs : Array Value) : Box (w.alloc (.cells cs t)) w.heap.size t cs := heap_alloc_new w _
theorem Box.newAt (w : World) (t : TypeId) (cs : Array Value) (b : Nat) (hb : w.heap.size = b) : Box (w.alloc (.cells cs t)) b t cs := hb ▸ heap_alloc_new w _
theorem Box.alloc {w : World} {b : Nat} {t : TypeId} {cs : Array Value} (h : Box w b t cs) (o : Obj) : Box (w.alloc o) b t cs := h.ext (Ext.alloc1 w o)
theorem Box.drew {w : World} {b : Nat} {t : TypeId} {cs : Array Value} (h : Box w b t cs) : Box w.drew b t cs := h
theorem Box.drewN {w : World} {b : Nat} {t : TypeId} {cs : Array Value} (h : Box w b t cs) (n : Nat) : Box (w.drewN n) b t cs := h.ext ((Ext.refl w).drewN n)

section
variable {P : Program} (w : World)
/-- A whole struct stored into its own variable. -/
theorem wpList_store_box {ops : Array Oper} {rest : List Oper} {o : Oper} {a : Act} {Q : Exit → Act → World → Prop} (hgd : o.guard = none) (ty : TypeId) (x y : Operand) (ho : o.op = .store ty x y)
    (b : Nat) (cells : Array Value) (hx : a.eval x = .pointer (some ⟨b, 0, none⟩)) (hy : a.eval y = .agg cells)
    (t : TypeId) (old : Array Value) (hg : Box w b t old) (hi : (P.info? ty).map (·.size) = some cells.size)
    (hold : old.size = cells.size) (h1 : cells.toList.all (·.oneCell') = true)
    (h : ∀ w', Box w' b t cells → w.grownBy w' (some b) → wpList P ops Q rest (a.put o.dst undef) w') : wpList P ops Q (o :: rest) a w :=
  wpList_store_row hgd ty x y ho b cells hx hy t old hg hi hold (by rw [← Array.all_toList]; exact h1) (h _ (setRow_heap w b old cells t _ hg) ⟨rfl, rfl, rfl, by simp [World.setRow], fun k _ hk => setRow_other w b k cells (fun e => hk (by rw [e]))⟩)
theorem step_store_box {ops : Array Oper} {o : Oper} {a : Act} {K : Act → World → Prop} {Q : Exit → Act → World → Prop} {E : Prop} (hgd : o.guard = none) (ty : TypeId) (x y : Operand) (ho : o.op = .store ty x y)
    (b : Nat) (cells : Array Value) (hx : a.eval x = .pointer (some ⟨b, 0, none⟩)) (hy : a.eval y = .agg cells)
    (t : TypeId) (old : Array Value) (hg : Box w b t old) (hi : (P.info? ty).map (·.size) = some cells.size)
    (hold : old.size = cells.size) (h1 : cells.toList.all (·.oneCell') = true)
    (h : ∀ w', Box w' b t cells → w.grownBy w' (some b) → K (a.put o.dst undef) w') :
    if Region.wanted o (yielded ops a.tmps) = true then Oper.wp P o a w K Q else E := by
  have hw : Region.wanted o (yielded ops a.tmps) = true := by simp [Region.wanted, hgd]
  rw [if_pos hw]
  exact wp_store_row ty x y ho b cells hx hy t old hg hi hold (by rw [← Array.all_toList]; exact h1) (h _ (setRow_heap w b old cells t _ hg) ⟨rfl, rfl, rfl, by simp [World.setRow], fun k _ hk => setRow_other w b k cells (fun e => hk (by rw [e]))⟩)
/-- A cell set in a variable known whole. -/
theorem Box.set {w : World} {b : Nat} {t : TypeId} {cs : Array Value} (h : Box w b t cs) (o : Nat) (u : Value) : Box (w.setCell ⟨b, o, none⟩ u) b t (cs.setIfInBounds o u) ∧ w.grownBy (w.setCell ⟨b, o, none⟩ u) (some b) := by
  refine ⟨heap_setCell_same w b o cs t u h, ⟨rfl, rfl, rfl, by simp [World.setCell], fun k _ hk => heap_setCell_other w ⟨b, o, none⟩ k u (fun e => hk (by simp [e]))⟩⟩
end

theorem Holds.sliced {w : World} {sz n : Nat} {a : Option Addr} {c : Nat} {xs : List Value} (h : Holds w sz (.slice a n c) n xs) (lo hi : Nat) (h1 : lo ≤ hi) (h2 : hi ≤ n) :
    Holds w sz (sliced a lo hi c sz) (hi - lo) ((xs.drop (lo * sz)).take ((hi - lo) * sz)) := by
  obtain ⟨a', c', hv, hc, hm, h3⟩ := h.form
  injection hv with e1 _ e2
  subst e1 e2
  have hl := h.len
  have hmul : (hi - lo) * sz + lo * sz = hi * sz := by rw [← Nat.add_mul]; congr 1; omega
  have hle : hi * sz ≤ n * sz := Nat.mul_le_mul_right _ h2
  refine ⟨by rw [List.length_take, List.length_drop]; omega, fun u hu => h.one u (List.mem_of_mem_drop (List.mem_of_mem_take hu)), ?_⟩
  unfold Go.sliced
  refine ⟨_, c - lo, rfl, by omega, by omega, fun hpos => ?_⟩
  obtain ⟨b, o, rfl, hcells⟩ := h3 (by omega)
  have hne : ¬ c = lo := by omega
  refine ⟨b, o + lo * sz, ?_, fun j hj => ?_⟩
  · rw [if_neg hne]
    simp [Addr.add]
  · rw [Nat.add_assoc, hcells _ (by omega), List.getElem?_take, if_pos hj, List.getElem?_drop]

theorem Holds.pre {w : World} {sz n : Nat} {a : Option Addr} {c : Nat} {xs : List Value} (h : Holds w sz (.slice a n c) n xs) (m : Nat) (h1 : m ≤ n) :
    Holds w sz (.slice a m c) m (xs.take (m * sz)) := by
  obtain ⟨a', c', hv, hc, hm, h3⟩ := h.form
  injection hv with e1 _ e2
  subst e1 e2
  have hl := h.len
  have hle : m * sz ≤ n * sz := Nat.mul_le_mul_right _ h1
  refine ⟨by rw [List.length_take]; omega, fun u hu => h.one u (List.mem_of_mem_take hu), a, c, rfl, by omega, hm, fun hpos => ?_⟩
  obtain ⟨b, o, rfl, hcells⟩ := h3 (by omega)
  refine ⟨b, o, rfl, fun j hj => ?_⟩
  rw [hcells _ (by omega), List.getElem?_take, if_pos hj]
theorem Holds.suf {w : World} {sz n b o : Nat} {c : Nat} {xs : List Value} (h : Holds w sz (.slice (some ⟨b, o, none⟩) n c) n xs) (lo : Nat) (h1 : lo ≤ n) :
    Holds w sz (.slice (some ⟨b, o + lo * sz, none⟩) (n - lo) (c - lo)) (n - lo) (xs.drop (lo * sz)) := by
  obtain ⟨a', c', hv, hc, hm, h3⟩ := h.form
  injection hv with e1 _ e2
  subst e1 e2
  have hl := h.len
  have hmul : (n - lo) * sz + lo * sz = n * sz := by rw [← Nat.add_mul]; congr 1; omega
  refine ⟨by rw [List.length_drop]; omega, fun u hu => h.one u (List.mem_of_mem_drop hu), _, c - lo, rfl, by omega, by omega, fun hpos => ?_⟩
  obtain ⟨b', o', he, hcells⟩ := h3 (by omega)
  injection he with he
  injection he with e3 e4
  subst e3 e4
  refine ⟨b, o + lo * sz, rfl, fun j hj => ?_⟩
  rw [Nat.add_assoc, hcells _ (by omega), List.getElem?_drop]

/-- Cells laid over a list from a place on. -/
def laid (xs : List Value) (off : Nat) (cs : List Value) : List Value := xs.take off ++ (cs ++ xs.drop (off + cs.length))

section
variable {P : Program} (w : World)
theorem run_copy_holds (dT sT ty e : TypeId) (i : TypeInfo) (sz : Nat) (hu : P.underlying dT = some (.slice e)) (hi : P.info? e = some i) (hsz : i.size = sz)
    (base g N cap : Nat) (xs : List Value) (t : TypeId) (hown : w.ownsRow base t sz (.slice (some ⟨g, 0, none⟩) N cap) N xs)
    (dp : Option Addr) (dLen dCap off : Nat) (hd : 0 < dLen → dp = some ⟨g, off * sz, none⟩) (hfit : off + dLen ≤ N)
    (x : Value) (m : Nat) (news : List Value) (hx : Holds w sz x m news) (k : Nat) (hk : Nat.min m dLen = k) :
    ∃ w', (Builtin.copy_ #[dT, sT] ty #[.slice dp dLen dCap, x]).run P w = .ok (goInt k) w' ∧
      w'.ownsRow base t sz (.slice (some ⟨g, 0, none⟩) N cap) N (laid xs (off * sz) (news.take (k * sz))) ∧ w.grownBy w' (some g) := by
  obtain ⟨a, c, rfl, hnc, hcm, hcells⟩ := hx.form
  have hmin : Nat.min m dLen = min m dLen := rfl
  rcases hown.2 with ⟨h', _⟩ | ⟨g', cap', cur, h', hbg, hg, hnc', hcm', hcs, htake⟩
  · simp at h'
  simp only [Value.slice.injEq, Option.some.injEq, Addr.mk.injEq, and_true, true_and] at h'
  obtain ⟨rfl, rfl⟩ := h'
  have hlen := hx.len
  have hk' : min m dLen = k := hk
  have hkm : k ≤ m := by omega
  have hkd : k ≤ dLen := by omega
  have hks : k * sz ≤ m * sz := Nat.mul_le_mul_right _ hkm
  have htl : (news.take (k * sz)).length = k * sz := by rw [List.length_take, hlen]; omega
  have hoff : off * sz + k * sz ≤ N * sz := by rw [← Nat.add_mul]; exact Nat.mul_le_mul_right _ (by omega)
  have hNc : N * sz ≤ cap * sz := Nat.mul_le_mul_right _ hnc'
  have hxl := hown.1
  rcases Nat.eq_zero_or_pos k with h0 | h0
  · have hz : news.take (k * sz) = [] := by rw [h0]; simp
    refine ⟨w, ?_, ?_, ⟨rfl, rfl, rfl, Nat.le_refl _, fun _ _ _ => rfl⟩⟩
    · have e1 : Nat.min m dLen = 0 := by rw [hk, h0]
      cases a <;> cases dp <;> simp [Builtin.copy_, run_underlying hu, sizeOf, typeInfo, hi, Builtin.lenOf, Builtin.firstCells, e1, h0, storeCells, loadCells, loadCellsFrom]
    · rw [hz]
      simp [laid]
      exact hown
  · obtain ⟨b, o, rfl, hc⟩ := hcells (by omega)
    obtain rfl := hd (by omega)
    have hnews : ∀ j u, (news.take (k * sz))[j]? = some u → w.cell? ((⟨b, o, none⟩ : Addr).add j) = some u := by
      intro j u hu
      rw [List.getElem?_take] at hu
      split at hu
      · have hadd : (⟨b, o, none⟩ : Addr).add j = ⟨b, o + j, none⟩ := by unfold Addr.add; split <;> simp_all
        rw [hadd, hc j (by omega), hu]
      · cases hu
    have h1 : ∀ u ∈ news.take (k * sz), u.oneCell' = true := fun u hu => hx.one u (List.mem_of_mem_take hu)
    have hf := run_firstCells_some (P := P) w sz k ⟨b, o, none⟩ m c _ htl hnews
    have hst := run_storeCells_at P g (off * sz) t (news.take (k * sz)) 0 cur w hg (by rw [htl, hcs]; omega) h1
    simp only [Nat.add_zero] at hst
    refine ⟨w.setRow g (cur.toList.take (off * sz) ++ news.take (k * sz) ++ cur.toList.drop (off * sz + (news.take (k * sz)).length)).toArray, ?_, ⟨?_, .inr ⟨g, cap, _, rfl, hbg, setRow_heap w g cur _ t _ hg, hnc', hcm', ?_, ?_⟩⟩, ⟨rfl, rfl, rfl, by simp [World.setRow], fun j _ hj => setRow_other w g j _ (fun e => hj (by simp [e]))⟩⟩
    · have e1 : Nat.min m dLen = k := hk
      simp [Builtin.copy_, run_underlying hu, sizeOf, typeInfo, hi, hsz, Builtin.lenOf, e1, hf, hst]
    · unfold laid
      simp only [List.length_append, List.length_take, List.length_drop]
      omega
    · simp only [List.size_toArray, List.length_append, List.length_take, List.length_drop, Array.length_toList]
      omega
    · unfold laid
      rw [← htake]
      have hcl : N * sz ≤ cur.toList.length := by rw [Array.length_toList, hcs]; exact hNc
      generalize cur.toList = L at hcl
      generalize hM : news.take (k * sz) = M at htl
      rw [htl]
      rw [List.append_assoc, List.take_append, List.length_take, List.take_take, List.take_take]
      rw [show min (N * sz) (off * sz) = off * sz from by omega, show min (off * sz) (N * sz) = off * sz from by omega, show N * sz - min (off * sz) L.length = N * sz - off * sz from by omega]
      rw [List.take_append, htl, List.take_of_length_le (show M.length ≤ N * sz - off * sz from by omega), List.drop_take]
      congr 3
      omega

theorem wpList_copy_holds {ops : Array Oper} {rest : List Oper} {o : Oper} {ac : Act} {Q : Exit → Act → World → Prop} (hgd : o.guard = none) (d s : Operand) (dT sT : TypeId)
    (ho : o.op = .call { callee := .builtin .copy, args := #[d, s], argTypes := #[dT, sT] }) (e : TypeId) (i : TypeInfo) (sz : Nat) (hu : P.underlying dT = some (.slice e)) (hi : P.info? e = some i) (hsz : i.size = sz)
    (base g N cap : Nat) (xs : List Value) (t : TypeId) (hown : w.ownsRow base t sz (.slice (some ⟨g, 0, none⟩) N cap) N xs)
    (dp : Option Addr) (dLen dCap off : Nat) (hdv : ac.eval d = .slice dp dLen dCap) (hd : 0 < dLen → dp = some ⟨g, off * sz, none⟩) (hfit : off + dLen ≤ N)
    (x : Value) (m : Nat) (news : List Value) (hxv : ac.eval s = x) (hx : Holds w sz x m news) (k : Nat) (hk : Nat.min m dLen = k)
    (h : ∀ w', w'.ownsRow base t sz (.slice (some ⟨g, 0, none⟩) N cap) N (laid xs (off * sz) (news.take (k * sz))) → w.grownBy w' (some g) → wpList P ops Q rest (ac.put o.dst (goInt k)) w') :
    wpList P ops Q (o :: rest) ac w := by
  refine wpList_plain hgd fun K hK => ?_
  obtain ⟨w', hrun, h1, h2⟩ := run_copy_holds (P := P) w dT sT o.type e i sz hu hi hsz base g N cap xs t hown dp dLen dCap off hd hfit x m news hx k hk
  unfold Oper.wp
  simp [execOp, ho, resolve, invoke, builtin, hdv, hxv, hrun, Result.andThen]
  exact hK _ _ (h w' h1 h2)

theorem step_copy_holds {ops : Array Oper} {o : Oper} {ac : Act} {K : Act → World → Prop} {Q : Exit → Act → World → Prop} {E : Prop} (hgd : o.guard = none) (d s : Operand) (dT sT : TypeId)
    (ho : o.op = .call { callee := .builtin .copy, args := #[d, s], argTypes := #[dT, sT] }) (e : TypeId) (i : TypeInfo) (sz : Nat) (hu : P.underlying dT = some (.slice e)) (hi : P.info? e = some i) (hsz : i.size = sz)
    (base g N cap : Nat) (xs : List Value) (t : TypeId) (hown : w.ownsRow base t sz (.slice (some ⟨g, 0, none⟩) N cap) N xs)
    (dp : Option Addr) (dLen dCap off : Nat) (hdv : ac.eval d = .slice dp dLen dCap) (hd : 0 < dLen → dp = some ⟨g, off * sz, none⟩) (hfit : off + dLen ≤ N)
    (x : Value) (m : Nat) (news : List Value) (hxv : ac.eval s = x) (hx : Holds w sz x m news) (k : Nat) (hk : Nat.min m dLen = k)
    (h : ∀ w', w'.ownsRow base t sz (.slice (some ⟨g, 0, none⟩) N cap) N (laid xs (off * sz) (news.take (k * sz))) → w.grownBy w' (some g) → K (ac.put o.dst (goInt k)) w') :
    if Region.wanted o (yielded ops ac.tmps) = true then Oper.wp P o ac w K Q else E := by
  have hw : Region.wanted o (yielded ops ac.tmps) = true := by simp [Region.wanted, hgd]
  rw [if_pos hw]
  obtain ⟨w', hrun, h1, h2⟩ := run_copy_holds (P := P) w dT sT o.type e i sz hu hi hsz base g N cap xs t hown dp dLen dCap off hd hfit x m news hx k hk
  unfold Oper.wp
  simp [execOp, ho, resolve, invoke, builtin, hdv, hxv, hrun, Result.andThen]
  exact h w' h1 h2

theorem step_append_holds {ops : Array Oper} {o : Oper} {a : Act} {K : Act → World → Prop} {Q : Exit → Act → World → Prop} {E : Prop} (hgd : o.guard = none) (s x : Operand) (t : TypeId)
    (ho : o.op = .call { callee := .builtin .append, args := #[s, x], argTypes := #[t, t] })
    (base : Nat) (e : TypeId) (i : TypeInfo) (z : Value) (size bytes : Nat) (ht : P.underlying t = some (.slice e)) (hi : P.info? e = some i) (hz : i.zero = some z)
    (hsize : i.size = size) (hby : i.bytes = bytes) (hzs : z.cells.size = size) (hsz : 0 < size)
    (v : Value) (n : Nat) (xs : List Value) (hs : a.eval s = v) (hown : w.ownsRow base e size v n xs)
    (xv : Value) (m : Nat) (news : List Value) (hx : a.eval x = xv) (hh : Holds w size xv m news)
    (h63 : n + m ≤ maxLen) (hbytes : (n + m) * bytes ≤ 140737488355328) (hbase : base ≤ w.heap.size)
    (h : ∀ v' w', w'.ownsRow base e size v' (n + m) (xs ++ news) → w.grownBy w' v.ownBlock → (v'.ownBlock = v.ownBlock ∨ v'.ownBlock = some w.heap.size) → K (a.put o.dst v') w') :
    if Region.wanted o (yielded ops a.tmps) = true then Oper.wp P o a w K Q else E := by
  have hw : Region.wanted o (yielded ops a.tmps) = true := by simp [Region.wanted, hgd]
  rw [if_pos hw]
  obtain ⟨v', w', hr, h1, h2, h3⟩ := run_append_holds (P := P) w base t o.type e i z size bytes ht hi hz hsize hby hzs hsz v n xs hown xv m news hh h63 hbytes hbase
  unfold Oper.wp execOp
  simp only [ho, resolve, invoke, builtin, Sem.run_bind, Sem.run_pure, Result.andThen_ok, List.map_toArray, List.map_cons, List.map_nil, hs, hx, hr]
  exact h v' w' h1 h2 h3
end
end Go.Proofs.Ytmehkikkjebnnaa
