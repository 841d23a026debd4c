/-
  Walks: acts.jump.
-/
import Derived.Test.YtmehkikkjebnnaaAttr
set_option linter.unusedVariables false
set_option linter.unusedSimpArgs false
namespace Go.Proofs.Ytmehkikkjebnnaa
open Go.RowKit
attribute [local go_sem] max2_i min2_i max_two min_two
attribute [local go_sem ↓] Go.wp_at_zero Go.wp_at_succ

theorem results_cell_tmp {P : Program} {fn : Func} {p q : Tmp} {ty : TypeId} (h : fn.results = #[.cell p ty, .tmp q]) (tmps : Array Value) (w : World) (g : Nat) (t : TypeId) (cs : Array Value) (fr : Nat × Nat) (d : TypeDesc)
    (hp : tmps.getD p undef = .pointer (some ⟨g, 0, none⟩)) (hg : w.heap[g]? = some (.cells cs t fr))
    (hu : P.underlying ty = some d) (hd : (match d with | .struct _ | .array _ _ => true | _ => false) = true) (hi : (P.info? ty).map (·.size) = some cs.size) :
    (results fn tmps).run P w = .ok (.tuple #[.agg cs, tmps.getD q undef]) w := by
  have hp' : tmps[p]?.getD undef = .pointer (some ⟨g, 0, none⟩) := by simpa using hp
  simp [results, h, hp', asAddr, run_loadVar_row w g t ty cs fr d hg hu hd hi]
theorem par_eq (k r : Int) (v : Value) (l : List Int) (i : Nat) (d N : Int) (w : World) (h : IntsAt w v l) (hl : l.length ≤ 1000000) (hi : i ≤ 1000) (hN : N = parOf l i d) :
    Calls Try.prog 61 #[.agg #[.int .i64 k, .int .i32 r, v], .int .i64 i, .int .i64 d] w fun e w' => e = .returned (.int .i64 N) ∧ Ext w w' := hN ▸ par_any k r v l i d w h hl hi
def ParOk (l : List Int) : Prop := l.length ≤ 1000000 ∧ ∀ p ∈ l, p ≤ 1000000000
theorem parOf_bounds {l : List Int} (h : ParOk l) (i : Nat) (d : Int) (h0 : 0 ≤ d) (h1 : d ≤ 1000000000) : 0 ≤ parOf l i d ∧ parOf l i d ≤ 1000000000 ∧ (1 ≤ d → 1 ≤ parOf l i d) := by
  unfold parOf
  split
  · rename_i hc
    have h2 := h.2 (l.getD i 0) (by rw [getD_lt l i 0 hc.1]; exact List.getElem_mem _)
    omega
  · omega

/-- What moves the cursor alone; none: it is none. -/
def jumpG (g : Grid) (r : Int) (l : List Int) : Grid × Bool :=
  let n := parOf l 0 1
  if r = 65 then (moveG g g.X (g.Y - n), true)
  else if r = 66 then (moveG g g.X (g.Y + n), true)
  else if r = 67 then (moveG g (g.X + n) g.Y, true)
  else if r = 68 then (moveG g (g.X - n) g.Y, true)
  else if r = 71 then (moveG g (n - 1) g.Y, true)
  else if r = 100 then (moveG g g.X (n - 1), true)
  else if r = 72 ∨ r = 102 then (moveG g (parOf l 1 1 - 1) (n - 1), true)
  else (g, false)

set_option maxRecDepth 100000 in
set_option maxHeartbeats 4000000 in
theorem jump_any (g : Grid) (k r : Int) (l : List Int) (ap ar ab : Option Addr) (cp nr cr nb cb : Nat) (w : World) (hg : WFG g) (hpar : ParOk l) (hla : IntsAt w (.slice ap l.length cp) l) :
    Calls Try.prog 75 #[.agg #[.int .i64 g.W, .int .i64 g.H, .int .i64 g.X, .int .i64 g.Y, .bool g.Wrap, .int .i64 g.A, .int .i64 g.Top, .int .i64 g.Bottom, .int .i64 g.SX, .int .i64 g.SY, .int .i64 g.SA, .bool g.NoWrap, .bool g.Hidden, .slice ar nr cr, .slice ab nb cb], .agg #[.int .i64 k, .int .i32 r, .slice ap l.length cp]] w fun e w' => e = .returned (.tuple #[.agg #[.int .i64 (jumpG g r l).1.W, .int .i64 (jumpG g r l).1.H, .int .i64 (jumpG g r l).1.X, .int .i64 (jumpG g r l).1.Y, .bool (jumpG g r l).1.Wrap, .int .i64 (jumpG g r l).1.A, .int .i64 (jumpG g r l).1.Top, .int .i64 (jumpG g r l).1.Bottom, .int .i64 (jumpG g r l).1.SX, .int .i64 (jumpG g r l).1.SY, .int .i64 (jumpG g r l).1.SA, .bool (jumpG g r l).1.NoWrap, .bool (jumpG g r l).1.Hidden, .slice ar nr cr, .slice ab nb cb], .bool (jumpG g r l).2]) ∧ Ext w w' := by
  have HL := Aside.mk hla
  have hl := hpar.1
  clear hla
  have HA := Aside.mk (((Box.new w 31 #[.int .i64 g.W, .int .i64 g.H, .int .i64 g.X, .int .i64 g.Y, .bool g.Wrap, .int .i64 g.A, .int .i64 g.Top, .int .i64 g.Bottom, .int .i64 g.SX, .int .i64 g.SY, .int .i64 g.SA, .bool g.NoWrap, .bool g.Hidden, .slice ar nr cr, .slice ab nb cb]).alloc (.cells #[.int .i64 k, .int .i32 r, .slice ap l.length cp] 35)).alloc (.cells #[.int .i64 0, .int .i64 0, .int .i64 0, .int .i64 0, .bool false, .int .i64 0, .int .i64 0, .int .i64 0, .int .i64 0, .int .i64 0, .int .i64 0, .bool false, .bool false, .slice none 0 0, .slice none 0 0] 31))
  have HR := Aside.mk ((Box.newAt (w.alloc (.cells #[.int .i64 g.W, .int .i64 g.H, .int .i64 g.X, .int .i64 g.Y, .bool g.Wrap, .int .i64 g.A, .int .i64 g.Top, .int .i64 g.Bottom, .int .i64 g.SX, .int .i64 g.SY, .int .i64 g.SA, .bool g.NoWrap, .bool g.Hidden, .slice ar nr cr, .slice ab nb cb] 31)) 35 #[.int .i64 k, .int .i32 r, .slice ap l.length cp] (w.heap.size + 1) (by simp)).alloc (.cells #[.int .i64 0, .int .i64 0, .int .i64 0, .int .i64 0, .bool false, .int .i64 0, .int .i64 0, .int .i64 0, .int .i64 0, .int .i64 0, .int .i64 0, .bool false, .bool false, .slice none 0 0, .slice none 0 0] 31))
  have HZ := Aside.mk (Box.newAt ((w.alloc (.cells #[.int .i64 g.W, .int .i64 g.H, .int .i64 g.X, .int .i64 g.Y, .bool g.Wrap, .int .i64 g.A, .int .i64 g.Top, .int .i64 g.Bottom, .int .i64 g.SX, .int .i64 g.SY, .int .i64 g.SA, .bool g.NoWrap, .bool g.Hidden, .slice ar nr cr, .slice ab nb cb] 31)).alloc (.cells #[.int .i64 k, .int .i32 r, .slice ap l.length cp] 35)) 31 #[.int .i64 0, .int .i64 0, .int .i64 0, .int .i64 0, .bool false, .int .i64 0, .int .i64 0, .int .i64 0, .int .i64 0, .int .i64 0, .int .i64 0, .bool false, .bool false, .slice none 0 0, .slice none 0 0] (w.heap.size + 2) (by simp))
  have HW := Aside.mk (((Ext.alloc1 w (.cells #[.int .i64 g.W, .int .i64 g.H, .int .i64 g.X, .int .i64 g.Y, .bool g.Wrap, .int .i64 g.A, .int .i64 g.Top, .int .i64 g.Bottom, .int .i64 g.SX, .int .i64 g.SY, .int .i64 g.SA, .bool g.NoWrap, .bool g.Hidden, .slice ar nr cr, .slice ab nb cb] 31)).alloc (.cells #[.int .i64 k, .int .i32 r, .slice ap l.length cp] 35)).alloc (.cells #[.int .i64 0, .int .i64 0, .int .i64 0, .int .i64 0, .bool false, .int .i64 0, .int .i64 0, .int .i64 0, .int .i64 0, .int .i64 0, .int .i64 0, .bool false, .bool false, .slice none 0 0, .slice none 0 0] 31))
  have hX := hg.X
  have hY := hg.Y
  have hW := hg.W
  have hH := hg.H
  have hb := parOf_bounds hpar 0 1 (by omega) (by omega)
  obtain ⟨N, hN⟩ : ∃ N, N = parOf l 0 1 := ⟨_, rfl⟩
  rw [← hN] at hb
  have HN := Aside.mk hN
  have hj : jumpG g r l = if r = 65 then (moveG g g.X (g.Y - N), true)
    else if r = 66 then (moveG g g.X (g.Y + N), true)
    else if r = 67 then (moveG g (g.X + N) g.Y, true)
    else if r = 68 then (moveG g (g.X - N) g.Y, true)
    else if r = 71 then (moveG g (N - 1) g.Y, true)
    else if r = 100 then (moveG g g.X (N - 1), true)
    else if r = 72 ∨ r = 102 then (moveG g (parOf l 1 1 - 1) (N - 1), true)
    else (g, false) := by rw [hN]; rfl
  have HJ := Aside.mk hj
  clear hN hj
  have e1 : IntKind.i64.wrap (g.Y - N) = g.Y - N := IntWalk.i64_in _ (by omega)
  have e2 : IntKind.i64.wrap (g.Y + N) = g.Y + N := IntWalk.i64_in _ (by omega)
  have e3 : IntKind.i64.wrap (g.X + N) = g.X + N := IntWalk.i64_in _ (by omega)
  have e4 : IntKind.i64.wrap (g.X - N) = g.X - N := IntWalk.i64_in _ (by omega)
  have e5 : IntKind.i64.wrap (N - 1) = N - 1 := IntWalk.i64_in _ (by omega)
  by_cases h1 : r = 65
  · rw [show jumpG g r l = (moveG g g.X (g.Y - N), true) from by rw [HJ.out, if_pos h1]]
    subst h1
    go_enter Try.func75, Try.ntmps75
    go_wp2_with (first
      | (go_at_call 61; refine (par_eq k _ _ l 0 1 N _ (HL.out.ext HW.out) hl (by omega) HN.out).mono ?_; rintro e w1 ⟨rfl, he1⟩; have HE1 := Aside.mk he1; have HA1 := Aside.mk (HA.out.ext he1); have HR1 := Aside.mk (HR.out.ext he1); have HZ1 := Aside.mk (HZ.out.ext he1); obtain ⟨hc1, hf1⟩ := HA1.out.rules; obtain ⟨hc2, hf2⟩ := HR1.out.rules; clear he1)
      | (refine atLoad 31 (.tmp 2) rfl ?_; refine wpList_load_row rfl 31 (.tmp 2) rfl w.heap.size rfl 31 _ (0, 0) _ HA1.out Try.underlying31 rfl size31 ?_)
      | (go_at_call 59; refine (move_any g _ _ _ _ _ _ g.X (g.Y - N) _ hg.W6 hg.H6).mono ?_; rintro e w3 ⟨rfl, he3⟩; have HE3 := Aside.mk he3; have HZ3 := Aside.mk (HZ1.out.ext he3); clear he3)
      | (refine atStore 31 (.tmp 4) (.tmp 20) rfl ?_; refine wpList_store_box _ rfl 31 (.tmp 4) (.tmp 20) rfl (w.heap.size + 2) _ rfl rfl 31 _ HZ3.out size31 rfl rfl ?_; intro w4 hbz hgz; have HZ4 := Aside.mk hbz; have HG4 := Aside.mk hgz; clear hgz hbz))
    refine bodyPost_ret (results_cell_tmp Try.results75 _ _ (w.heap.size + 2) 31 _ (0, 0) _ rfl HZ4.out Try.underlying31 rfl size31) rfl ?_
    have hx := ((HW.out.trans HE1.out).trans HE3.out).of_grown HG4.out (by intro k hk; cases hk; omega)
    exact ⟨rfl, hx⟩
  have d1 : (r == 65) = false := by simpa using h1
  by_cases h2 : r = 66
  · rw [show jumpG g r l = (moveG g g.X (g.Y + N), true) from by rw [HJ.out, if_neg h1, if_pos h2]]
    subst h2
    go_enter Try.func75, Try.ntmps75
    go_wp2_with (first
      | (go_at_call 61; refine (par_eq k _ _ l 0 1 N _ (HL.out.ext HW.out) hl (by omega) HN.out).mono ?_; rintro e w1 ⟨rfl, he1⟩; have HE1 := Aside.mk he1; have HA1 := Aside.mk (HA.out.ext he1); have HR1 := Aside.mk (HR.out.ext he1); have HZ1 := Aside.mk (HZ.out.ext he1); obtain ⟨hc1, hf1⟩ := HA1.out.rules; obtain ⟨hc2, hf2⟩ := HR1.out.rules; clear he1)
      | (refine atLoad 31 (.tmp 2) rfl ?_; refine wpList_load_row rfl 31 (.tmp 2) rfl w.heap.size rfl 31 _ (0, 0) _ HA1.out Try.underlying31 rfl size31 ?_)
      | (go_at_call 59; refine (move_any g _ _ _ _ _ _ g.X (g.Y + N) _ hg.W6 hg.H6).mono ?_; rintro e w3 ⟨rfl, he3⟩; have HE3 := Aside.mk he3; have HZ3 := Aside.mk (HZ1.out.ext he3); clear he3)
      | (refine atStore 31 (.tmp 4) (.tmp 30) rfl ?_; refine wpList_store_box _ rfl 31 (.tmp 4) (.tmp 30) rfl (w.heap.size + 2) _ rfl rfl 31 _ HZ3.out size31 rfl rfl ?_; intro w4 hbz hgz; have HZ4 := Aside.mk hbz; have HG4 := Aside.mk hgz; clear hgz hbz))
    refine bodyPost_ret (results_cell_tmp Try.results75 _ _ (w.heap.size + 2) 31 _ (0, 0) _ rfl HZ4.out Try.underlying31 rfl size31) rfl ?_
    have hx := ((HW.out.trans HE1.out).trans HE3.out).of_grown HG4.out (by intro k hk; cases hk; omega)
    exact ⟨rfl, hx⟩
  have d2 : (r == 66) = false := by simpa using h2
  by_cases h3 : r = 67
  · rw [show jumpG g r l = (moveG g (g.X + N) g.Y, true) from by rw [HJ.out, if_neg h1, if_neg h2, if_pos h3]]
    subst h3
    go_enter Try.func75, Try.ntmps75
    go_wp2_with (first
      | (go_at_call 61; refine (par_eq k _ _ l 0 1 N _ (HL.out.ext HW.out) hl (by omega) HN.out).mono ?_; rintro e w1 ⟨rfl, he1⟩; have HE1 := Aside.mk he1; have HA1 := Aside.mk (HA.out.ext he1); have HR1 := Aside.mk (HR.out.ext he1); have HZ1 := Aside.mk (HZ.out.ext he1); obtain ⟨hc1, hf1⟩ := HA1.out.rules; obtain ⟨hc2, hf2⟩ := HR1.out.rules; clear he1)
      | (refine atLoad 31 (.tmp 2) rfl ?_; refine wpList_load_row rfl 31 (.tmp 2) rfl w.heap.size rfl 31 _ (0, 0) _ HA1.out Try.underlying31 rfl size31 ?_)
      | (go_at_call 59; refine (move_any g _ _ _ _ _ _ (g.X + N) g.Y _ hg.W6 hg.H6).mono ?_; rintro e w3 ⟨rfl, he3⟩; have HE3 := Aside.mk he3; have HZ3 := Aside.mk (HZ1.out.ext he3); clear he3)
      | (refine atStore 31 (.tmp 4) (.tmp 40) rfl ?_; refine wpList_store_box _ rfl 31 (.tmp 4) (.tmp 40) rfl (w.heap.size + 2) _ rfl rfl 31 _ HZ3.out size31 rfl rfl ?_; intro w4 hbz hgz; have HZ4 := Aside.mk hbz; have HG4 := Aside.mk hgz; clear hgz hbz))
    refine bodyPost_ret (results_cell_tmp Try.results75 _ _ (w.heap.size + 2) 31 _ (0, 0) _ rfl HZ4.out Try.underlying31 rfl size31) rfl ?_
    have hx := ((HW.out.trans HE1.out).trans HE3.out).of_grown HG4.out (by intro k hk; cases hk; omega)
    exact ⟨rfl, hx⟩
  have d3 : (r == 67) = false := by simpa using h3
  by_cases h4 : r = 68
  · rw [show jumpG g r l = (moveG g (g.X - N) g.Y, true) from by rw [HJ.out, if_neg h1, if_neg h2, if_neg h3, if_pos h4]]
    subst h4
    go_enter Try.func75, Try.ntmps75
    go_wp2_with (first
      | (go_at_call 61; refine (par_eq k _ _ l 0 1 N _ (HL.out.ext HW.out) hl (by omega) HN.out).mono ?_; rintro e w1 ⟨rfl, he1⟩; have HE1 := Aside.mk he1; have HA1 := Aside.mk (HA.out.ext he1); have HR1 := Aside.mk (HR.out.ext he1); have HZ1 := Aside.mk (HZ.out.ext he1); obtain ⟨hc1, hf1⟩ := HA1.out.rules; obtain ⟨hc2, hf2⟩ := HR1.out.rules; clear he1)
      | (refine atLoad 31 (.tmp 2) rfl ?_; refine wpList_load_row rfl 31 (.tmp 2) rfl w.heap.size rfl 31 _ (0, 0) _ HA1.out Try.underlying31 rfl size31 ?_)
      | (go_at_call 59; refine (move_any g _ _ _ _ _ _ (g.X - N) g.Y _ hg.W6 hg.H6).mono ?_; rintro e w3 ⟨rfl, he3⟩; have HE3 := Aside.mk he3; have HZ3 := Aside.mk (HZ1.out.ext he3); clear he3)
      | (refine atStore 31 (.tmp 4) (.tmp 50) rfl ?_; refine wpList_store_box _ rfl 31 (.tmp 4) (.tmp 50) rfl (w.heap.size + 2) _ rfl rfl 31 _ HZ3.out size31 rfl rfl ?_; intro w4 hbz hgz; have HZ4 := Aside.mk hbz; have HG4 := Aside.mk hgz; clear hgz hbz))
    refine bodyPost_ret (results_cell_tmp Try.results75 _ _ (w.heap.size + 2) 31 _ (0, 0) _ rfl HZ4.out Try.underlying31 rfl size31) rfl ?_
    have hx := ((HW.out.trans HE1.out).trans HE3.out).of_grown HG4.out (by intro k hk; cases hk; omega)
    exact ⟨rfl, hx⟩
  have d4 : (r == 68) = false := by simpa using h4
  by_cases h5 : r = 71
  · rw [show jumpG g r l = (moveG g (N - 1) g.Y, true) from by rw [HJ.out, if_neg h1, if_neg h2, if_neg h3, if_neg h4, if_pos h5]]
    subst h5
    go_enter Try.func75, Try.ntmps75
    go_wp2_with (first
      | (go_at_call 61; refine (par_eq k _ _ l 0 1 N _ (HL.out.ext HW.out) hl (by omega) HN.out).mono ?_; rintro e w1 ⟨rfl, he1⟩; have HE1 := Aside.mk he1; have HA1 := Aside.mk (HA.out.ext he1); have HR1 := Aside.mk (HR.out.ext he1); have HZ1 := Aside.mk (HZ.out.ext he1); obtain ⟨hc1, hf1⟩ := HA1.out.rules; obtain ⟨hc2, hf2⟩ := HR1.out.rules; clear he1)
      | (refine atLoad 31 (.tmp 2) rfl ?_; refine wpList_load_row rfl 31 (.tmp 2) rfl w.heap.size rfl 31 _ (0, 0) _ HA1.out Try.underlying31 rfl size31 ?_)
      | (go_at_call 59; refine (move_any g _ _ _ _ _ _ (N - 1) g.Y _ hg.W6 hg.H6).mono ?_; rintro e w3 ⟨rfl, he3⟩; have HE3 := Aside.mk he3; have HZ3 := Aside.mk (HZ1.out.ext he3); clear he3)
      | (refine atStore 31 (.tmp 4) (.tmp 58) rfl ?_; refine wpList_store_box _ rfl 31 (.tmp 4) (.tmp 58) rfl (w.heap.size + 2) _ rfl rfl 31 _ HZ3.out size31 rfl rfl ?_; intro w4 hbz hgz; have HZ4 := Aside.mk hbz; have HG4 := Aside.mk hgz; clear hgz hbz))
    refine bodyPost_ret (results_cell_tmp Try.results75 _ _ (w.heap.size + 2) 31 _ (0, 0) _ rfl HZ4.out Try.underlying31 rfl size31) rfl ?_
    have hx := ((HW.out.trans HE1.out).trans HE3.out).of_grown HG4.out (by intro k hk; cases hk; omega)
    exact ⟨rfl, hx⟩
  have d5 : (r == 71) = false := by simpa using h5
  by_cases h6 : r = 100
  · rw [show jumpG g r l = (moveG g g.X (N - 1), true) from by rw [HJ.out, if_neg h1, if_neg h2, if_neg h3, if_neg h4, if_neg h5, if_pos h6]]
    subst h6
    go_enter Try.func75, Try.ntmps75
    go_wp2_with (first
      | (go_at_call 61; refine (par_eq k _ _ l 0 1 N _ (HL.out.ext HW.out) hl (by omega) HN.out).mono ?_; rintro e w1 ⟨rfl, he1⟩; have HE1 := Aside.mk he1; have HA1 := Aside.mk (HA.out.ext he1); have HR1 := Aside.mk (HR.out.ext he1); have HZ1 := Aside.mk (HZ.out.ext he1); obtain ⟨hc1, hf1⟩ := HA1.out.rules; obtain ⟨hc2, hf2⟩ := HR1.out.rules; clear he1)
      | (refine atLoad 31 (.tmp 2) rfl ?_; refine wpList_load_row rfl 31 (.tmp 2) rfl w.heap.size rfl 31 _ (0, 0) _ HA1.out Try.underlying31 rfl size31 ?_)
      | (go_at_call 59; refine (move_any g _ _ _ _ _ _ g.X (N - 1) _ hg.W6 hg.H6).mono ?_; rintro e w3 ⟨rfl, he3⟩; have HE3 := Aside.mk he3; have HZ3 := Aside.mk (HZ1.out.ext he3); clear he3)
      | (refine atStore 31 (.tmp 4) (.tmp 66) rfl ?_; refine wpList_store_box _ rfl 31 (.tmp 4) (.tmp 66) rfl (w.heap.size + 2) _ rfl rfl 31 _ HZ3.out size31 rfl rfl ?_; intro w4 hbz hgz; have HZ4 := Aside.mk hbz; have HG4 := Aside.mk hgz; clear hgz hbz))
    refine bodyPost_ret (results_cell_tmp Try.results75 _ _ (w.heap.size + 2) 31 _ (0, 0) _ rfl HZ4.out Try.underlying31 rfl size31) rfl ?_
    have hx := ((HW.out.trans HE1.out).trans HE3.out).of_grown HG4.out (by intro k hk; cases hk; omega)
    exact ⟨rfl, hx⟩
  have d6 : (r == 100) = false := by simpa using h6
  by_cases h7 : r = 72 ∨ r = 102
  · have hb2 := parOf_bounds hpar 1 1 (by omega) (by omega)
    obtain ⟨N2, hN2⟩ : ∃ N2, N2 = parOf l 1 1 := ⟨_, rfl⟩
    rw [← hN2] at hb2
    have hjj : jumpG g r l = (moveG g (N2 - 1) (N - 1), true) := by rw [HJ.out, if_neg h1, if_neg h2, if_neg h3, if_neg h4, if_neg h5, if_neg h6, if_pos h7, hN2]
    rw [hjj]
    have HN2 := Aside.mk hN2
    clear hN2 hjj
    have e6 : IntKind.i64.wrap (N2 - 1) = N2 - 1 := IntWalk.i64_in _ (by omega)
    rcases h7 with rfl | rfl
    all_goals
      go_enter Try.func75, Try.ntmps75
      go_wp2_with (first
        | (go_at_call 61; refine (par_eq k _ _ l 0 1 N _ (HL.out.ext HW.out) hl (by omega) HN.out).mono ?_; rintro e w1 ⟨rfl, he1⟩; have HE1 := Aside.mk he1; have HA1 := Aside.mk (HA.out.ext he1); have HR1 := Aside.mk (HR.out.ext he1); have HZ1 := Aside.mk (HZ.out.ext he1); obtain ⟨hc1, hf1⟩ := HA1.out.rules; obtain ⟨hc2, hf2⟩ := HR1.out.rules; have HX1 := Aside.mk (HW.out.trans he1); clear he1))
      refine wp_region_till 100 (fun w' => Box w' w.heap.size 31 #[.int .i64 g.W, .int .i64 g.H, .int .i64 g.X, .int .i64 g.Y, .bool g.Wrap, .int .i64 g.A, .int .i64 g.Top, .int .i64 g.Bottom, .int .i64 g.SX, .int .i64 g.SY, .int .i64 g.SA, .bool g.NoWrap, .bool g.Hidden, .slice ar nr cr, .slice ab nb cb] ∧ Box w' (w.heap.size + 1) 35 #[.int .i64 k, .int .i32 _, .slice ap l.length cp]) (by rfl) ⟨HA1.out.drew, HR1.out.drew⟩ ?_
      intro hS
      refine ⟨kept_none _ rfl, fun hKept => ?_⟩
      refine till_take (i := 0) (oi := _) (v := ?_) rfl (by kernel_rfl) (by kernel_rfl) (by kernel_rfl) (by kernel_rfl) (fun _ _ _ h => h) hKept hS (Or.inl ⟨by rfl, ?_⟩) ?_; rotate_left; (intro wS hSw; obtain ⟨hSa, hSb⟩ := hSw; have hSc := hSa.cell; have hSd := hSb.cell; go_simp; try with_reducible rfl); intro hKept; (try simp only [List.getElem?_toArray, List.getElem?_cons_succ, List.getElem?_cons_zero, List.getElem_toArray, List.getElem_cons_succ, List.getElem_cons_zero, Act.put, List.setIfInBounds_toArray, List.set_cons_zero, List.set_cons_succ])
      refine till_take (i := 1) (oi := _) (v := ?_) rfl (by kernel_rfl) (by kernel_rfl) (by kernel_rfl) (by kernel_rfl) (fun _ _ _ h => h) hKept hS (Or.inl ⟨by rfl, ?_⟩) ?_; rotate_left; (intro wS hSw; obtain ⟨hSa, hSb⟩ := hSw; have hSc := hSa.cell; have hSd := hSb.cell; go_simp; try with_reducible rfl); intro hKept; (try simp only [List.getElem?_toArray, List.getElem?_cons_succ, List.getElem?_cons_zero, List.getElem_toArray, List.getElem_cons_succ, List.getElem_cons_zero, Act.put, List.setIfInBounds_toArray, List.set_cons_zero, List.set_cons_succ])
      refine till_take (i := 4) (oi := _) (v := ?_) rfl (by kernel_rfl) (by kernel_rfl) (by kernel_rfl) (by kernel_rfl) (fun _ _ _ h => h) hKept hS (Or.inl ⟨by rfl, ?_⟩) ?_; rotate_left; (intro wS hSw; obtain ⟨hSa, hSb⟩ := hSw; have hSc := hSa.cell; have hSd := hSb.cell; go_simp; try with_reducible rfl); intro hKept; (try simp only [List.getElem?_toArray, List.getElem?_cons_succ, List.getElem?_cons_zero, List.getElem_toArray, List.getElem_cons_succ, List.getElem_cons_zero, Act.put, List.setIfInBounds_toArray, List.set_cons_zero, List.set_cons_succ])
      refine till_take (i := 5) (oi := _) (v := ?_) rfl (by kernel_rfl) (by kernel_rfl) (by kernel_rfl) (by kernel_rfl) (fun _ _ _ h => h) hKept hS (Or.inl ⟨by rfl, ?_⟩) ?_; rotate_left; (intro wS hSw; obtain ⟨hSa, hSb⟩ := hSw; have hSc := hSa.cell; have hSd := hSb.cell; go_simp; try with_reducible rfl); intro hKept; (try simp only [List.getElem?_toArray, List.getElem?_cons_succ, List.getElem?_cons_zero, List.getElem_toArray, List.getElem_cons_succ, List.getElem_cons_zero, Act.put, List.setIfInBounds_toArray, List.set_cons_zero, List.set_cons_succ])
      refine till_one (i := 2) (by simp only [List.getElem?_toArray, List.getElem?_cons_succ, List.getElem?_cons_zero]; rfl) (by kernel_rfl) hKept ?_; intro K hK; rw [if_pos (by rfl)]
      go_simp
      refine (par_eq k _ _ l 1 1 N2 _ (HL.out.ext HX1.out.drew) hl (by omega) HN2.out).mono ?_
      rintro e w2 ⟨rfl, he2⟩
      have HA2 := Aside.mk (HA1.out.drew.ext he2)
      have HR2 := Aside.mk (HR1.out.drew.ext he2)
      have HZ2 := Aside.mk (HZ1.out.drew.ext he2)
      have HX2 := Aside.mk (HX1.out.drew.trans he2)
      clear he2
      refine hK.out _ _ (fun _ => ⟨HA2.out, HR2.out⟩) ?_; clear hS; intro hS hKept; replace hS := hS (by decide); (try simp only [List.getElem?_toArray, List.getElem?_cons_succ, List.getElem?_cons_zero, List.getElem_toArray, List.getElem_cons_succ, List.getElem_cons_zero, Act.put, List.setIfInBounds_toArray, List.set_cons_zero, List.set_cons_succ])
      refine till_take (i := 3) (oi := _) (v := ?_) rfl (by kernel_rfl) (by kernel_rfl) (by kernel_rfl) (by kernel_rfl) (fun _ _ _ h => h) hKept hS (Or.inl ⟨by rfl, ?_⟩) ?_; rotate_left; (intro wS hSw; obtain ⟨hSa, hSb⟩ := hSw; have hSc := hSa.cell; have hSd := hSb.cell; go_simp; try with_reducible rfl); intro hKept; (try simp only [List.getElem?_toArray, List.getElem?_cons_succ, List.getElem?_cons_zero, List.getElem_toArray, List.getElem_cons_succ, List.getElem_cons_zero, Act.put, List.setIfInBounds_toArray, List.set_cons_zero, List.set_cons_succ])
      refine till_one (i := 6) (by simp only [List.getElem?_toArray, List.getElem?_cons_succ, List.getElem?_cons_zero]; rfl) (by kernel_rfl) hKept ?_; intro K hK; rw [if_pos (by rfl)]
      go_simp
      refine (move_any g _ _ _ _ _ _ (N2 - 1) (N - 1) _ hg.W6 hg.H6).mono ?_
      rintro e w3 ⟨rfl, he3⟩
      have HA3 := Aside.mk (HA2.out.ext he3)
      have HR3 := Aside.mk (HR2.out.ext he3)
      have HZ3 := Aside.mk (HZ2.out.ext he3)
      have HX3 := Aside.mk (HX2.out.trans he3)
      clear he3
      refine hK.out _ _ (fun _ => ⟨HA3.out, HR3.out⟩) ?_; clear hS; intro hS hKept; replace hS := hS (by decide); (try simp only [List.getElem?_toArray, List.getElem?_cons_succ, List.getElem?_cons_zero, List.getElem_toArray, List.getElem_cons_succ, List.getElem_cons_zero, Act.put, List.setIfInBounds_toArray, List.set_cons_zero, List.set_cons_succ])
      refine till_one (i := 7) (by simp only [List.getElem?_toArray, List.getElem?_cons_succ, List.getElem?_cons_zero]; rfl) (by kernel_rfl) hKept ?_; intro K hK
      refine step_store_box _ rfl 31 (.tmp 4) (.tmp 76) rfl (w.heap.size + 2) _ rfl rfl 31 _ HZ3.out size31 rfl rfl ?_
      intro w4 hb4 hg4
      have HZ4 := Aside.mk hb4
      have HG4 := Aside.mk hg4
      have HA4 := Aside.mk (HA3.out.grown hg4 (by simp))
      have HR4 := Aside.mk (HR3.out.grown hg4 (by simp))
      clear hb4 hg4
      go_simp
      refine hK.out _ _ (fun _ => ⟨HA4.out, HR4.out⟩) ?_; clear hS; intro hS hKept; replace hS := hS (by decide); (try simp only [List.getElem?_toArray, List.getElem?_cons_succ, List.getElem?_cons_zero, List.getElem_toArray, List.getElem_cons_succ, List.getElem_cons_zero, Act.put, List.setIfInBounds_toArray, List.set_cons_zero, List.set_cons_succ])
      refine till_take (i := 8) (oi := _) (v := ?_) rfl (by kernel_rfl) (by kernel_rfl) (by kernel_rfl) (by kernel_rfl) (fun _ _ _ h => h) hKept hS (Or.inl ⟨by rfl, ?_⟩) ?_; rotate_left; (intro wS hSw; obtain ⟨hSa, hSb⟩ := hSw; have hSc := hSa.cell; have hSd := hSb.cell; go_simp; try with_reducible rfl); intro hKept; (try simp only [List.getElem?_toArray, List.getElem?_cons_succ, List.getElem?_cons_zero, List.getElem_toArray, List.getElem_cons_succ, List.getElem_cons_zero, Act.put, List.setIfInBounds_toArray, List.set_cons_zero, List.set_cons_succ])

      refine till_done (by kernel_rfl) ?_ _
      go_wp2
      refine bodyPost_ret (results_cell_tmp Try.results75 _ _ (w.heap.size + 2) 31 _ (0, 0) _ rfl HZ4.out Try.underlying31 rfl size31) rfl ?_
      have hx := HX3.out.of_grown HG4.out (by intro k hk; cases hk; omega)
      exact ⟨rfl, hx⟩
  have d7 : (r == 72) = false := by simp; omega
  have d8 : (r == 102) = false := by simp; omega
  rw [show jumpG g r l = (g, false) from by rw [HJ.out, if_neg h1, if_neg h2, if_neg h3, if_neg h4, if_neg h5, if_neg h6, if_neg h7]]
  go_enter Try.func75, Try.ntmps75
  go_wp2_with (first
    | (go_at_call 61; refine (par_eq k _ _ l 0 1 N _ (HL.out.ext HW.out) hl (by omega) HN.out).mono ?_; rintro e w1 ⟨rfl, he1⟩; have HE1 := Aside.mk he1; have HA1 := Aside.mk (HA.out.ext he1); have HR1 := Aside.mk (HR.out.ext he1); have HZ1 := Aside.mk (HZ.out.ext he1); obtain ⟨hc1, hf1⟩ := HA1.out.rules; obtain ⟨hc2, hf2⟩ := HR1.out.rules; clear he1)
    | (refine atLoad 31 (.tmp 2) rfl ?_; refine wpList_load_row rfl 31 (.tmp 2) rfl w.heap.size rfl 31 _ (0, 0) _ HA1.out Try.underlying31 rfl size31 ?_)
    | (refine atStore 31 (.tmp 4) (.tmp 77) rfl ?_; refine wpList_store_box _ rfl 31 (.tmp 4) (.tmp 77) rfl (w.heap.size + 2) _ rfl rfl 31 _ HZ1.out size31 rfl rfl ?_; intro w4 hbz hgz; have HZ4 := Aside.mk hbz; have HG4 := Aside.mk hgz; clear hgz hbz))
  refine bodyPost_ret (results_cell_tmp Try.results75 _ _ (w.heap.size + 2) 31 _ (0, 0) _ rfl HZ4.out Try.underlying31 rfl size31) rfl ?_
  have hx := (HW.out.trans HE1.out).of_grown HG4.out (by intro k hk; cases hk; omega)
  exact ⟨rfl, hx⟩
end Go.Proofs.Ytmehkikkjebnnaa
