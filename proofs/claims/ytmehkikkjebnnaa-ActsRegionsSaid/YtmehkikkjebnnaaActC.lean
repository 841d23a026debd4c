/-
  Walks: acts.control, acts.escape.
-/
import Derived.Test.YtmehkikkjebnnaaPureG
set_option linter.unusedVariables false
set_option linter.unusedSimpArgs false
namespace Go.Proofs.Ytmehkikkjebnnaa
open Go.RowKit
attribute [local go_sem] max2_i min2_i max_two min_two
attribute [local go_sem ↓] Go.wp_at_zero Go.wp_at_succ

def controlG (g : Grid) (r : Int) : Grid :=
  if r = 8 then moveG g (g.X - 1) g.Y
  else if r = 9 then moveG g ((g.X / 8 + 1) * 8) g.Y
  else if r = 10 ∨ r = 11 ∨ r = 12 then moveG (lineG g) (lineG g).X (lineG g).Y
  else if r = 13 then moveG g 0 g.Y
  else g

set_option maxRecDepth 100000 in
set_option maxHeartbeats 2000000 in
theorem control_any (g : Grid) (r : Int) (ar ab : Option Addr) (cr cb base : Nat) (w : World) (hg : WFG g) (hin : InG w base g ar cr ab cb) (hbase : base ≤ w.heap.size) :
    Calls Try.prog 35 #[.agg #[.int .i64 g.W, .int .i64 g.H, .int .i64 g.X, .int .i64 g.Y, .bool g.Wrap, .int .i64 g.A, .int .i64 g.Top, .int .i64 g.Bottom, .int .i64 g.SX, .int .i64 g.SY, .int .i64 g.SA, .bool g.NoWrap, .bool g.Hidden, .slice ar g.Rows.length cr, .slice ab g.Back.length cb], .int .i32 r] w (PassA base w none (controlG g r)) := by
  have HIN := Aside.mk hin
  clear hin
  have HA := Aside.mk ((Box.new w 31 #[.int .i64 g.W, .int .i64 g.H, .int .i64 g.X, .int .i64 g.Y, .bool g.Wrap, .int .i64 g.A, .int .i64 g.Top, .int .i64 g.Bottom, .int .i64 g.SX, .int .i64 g.SY, .int .i64 g.SA, .bool g.NoWrap, .bool g.Hidden, .slice ar g.Rows.length cr, .slice ab g.Back.length cb]).alloc (.cells #[.int .i64 0, .int .i64 0, .int .i64 0, .int .i64 0, .bool false, .int .i64 0, .int .i64 0, .int .i64 0, .int .i64 0, .int .i64 0, .int .i64 0, .bool false, .bool false, .slice none 0 0, .slice none 0 0] 31))
  have HZ := Aside.mk (Box.newAt (w.alloc (.cells #[.int .i64 g.W, .int .i64 g.H, .int .i64 g.X, .int .i64 g.Y, .bool g.Wrap, .int .i64 g.A, .int .i64 g.Top, .int .i64 g.Bottom, .int .i64 g.SX, .int .i64 g.SY, .int .i64 g.SA, .bool g.NoWrap, .bool g.Hidden, .slice ar g.Rows.length cr, .slice ab g.Back.length cb] 31)) 31 #[.int .i64 0, .int .i64 0, .int .i64 0, .int .i64 0, .bool false, .int .i64 0, .int .i64 0, .int .i64 0, .int .i64 0, .int .i64 0, .int .i64 0, .bool false, .bool false, .slice none 0 0, .slice none 0 0] (w.heap.size + 1) (by simp))
  have HW := Aside.mk ((Ext.alloc1 w (.cells #[.int .i64 g.W, .int .i64 g.H, .int .i64 g.X, .int .i64 g.Y, .bool g.Wrap, .int .i64 g.A, .int .i64 g.Top, .int .i64 g.Bottom, .int .i64 g.SX, .int .i64 g.SY, .int .i64 g.SA, .bool g.NoWrap, .bool g.Hidden, .slice ar g.Rows.length cr, .slice ab g.Back.length cb] 31)).alloc (.cells #[.int .i64 0, .int .i64 0, .int .i64 0, .int .i64 0, .bool false, .int .i64 0, .int .i64 0, .int .i64 0, .int .i64 0, .int .i64 0, .int .i64 0, .bool false, .bool false, .slice none 0 0, .slice none 0 0] 31))
  have hX := hg.X
  have hY := hg.Y
  have hW := hg.W
  have e1 : IntKind.i64.wrap (g.X - 1) = g.X - 1 := IntWalk.i64_in _ (by omega)
  by_cases h1 : r = 8
  · subst h1
    rw [show controlG g 8 = moveG g (g.X - 1) g.Y from rfl]
    go_enter Try.func35, Try.ntmps35
    go_wp2_with (first
      | (refine atLoad 31 (.tmp 2) rfl ?_; refine wpList_load_row rfl 31 (.tmp 2) rfl w.heap.size rfl 31 #[.int .i64 g.W, .int .i64 g.H, .int .i64 g.X, .int .i64 g.Y, .bool g.Wrap, .int .i64 g.A, .int .i64 g.Top, .int .i64 g.Bottom, .int .i64 g.SX, .int .i64 g.SY, .int .i64 g.SA, .bool g.NoWrap, .bool g.Hidden, .slice ar g.Rows.length cr, .slice ab g.Back.length cb] (0, 0) _ HA.out Try.underlying31 rfl size31 ?_)
      | (go_at_call 59; refine (move_any g _ _ _ _ _ _ (g.X - 1) g.Y _ hg.W6 hg.H6).mono ?_; rintro e w1 ⟨rfl, he1⟩; have HE1 := Aside.mk he1; have HZ1 := Aside.mk (HZ.out.ext he1); clear he1)
      | (refine atStore 31 (.tmp 4) (.tmp 14) rfl ?_; refine wpList_store_box _ rfl 31 (.tmp 4) (.tmp 14) rfl (w.heap.size + 1) _ rfl rfl 31 _ HZ1.out size31 rfl rfl ?_; intro w2 hbz hgz; have HZ2 := Aside.mk hbz; have HG2 := Aside.mk hgz; clear hgz hbz))
    refine bodyPost_ret (results_cell_row Try.results35 _ _ (w.heap.size + 1) 31 _ (0, 0) _ rfl HZ2.out Try.underlying31 rfl size31) rfl ?_
    have hx := (HW.out.trans HE1.out).of_grown HG2.out (by intro k hk; cases hk; omega)
    exact PassA.of ((HIN.out.ext hx).same rfl rfl) (hx.any _)
  have d1 : (r == 8) = false := by simpa using h1
  by_cases h2 : r = 9
  · subst h2
    rw [show controlG g 9 = moveG g ((g.X / 8 + 1) * 8) g.Y from rfl]
    have hdv : g.X.tdiv 8 = g.X / 8 := Int.tdiv_eq_ediv_of_nonneg (by omega)
    have e2 : IntKind.i64.wrap (g.X / 8) = g.X / 8 := IntWalk.i64_in _ (by omega)
    have e3 : IntKind.i64.wrap (g.X / 8 + 1) = g.X / 8 + 1 := IntWalk.i64_in _ (by omega)
    have e4 : IntKind.i64.wrap ((g.X / 8 + 1) * 8) = (g.X / 8 + 1) * 8 := IntWalk.i64_in _ (by omega)
    go_enter Try.func35, Try.ntmps35
    go_wp2_with (first
      | (refine atLoad 31 (.tmp 2) rfl ?_; refine wpList_load_row rfl 31 (.tmp 2) rfl w.heap.size rfl 31 #[.int .i64 g.W, .int .i64 g.H, .int .i64 g.X, .int .i64 g.Y, .bool g.Wrap, .int .i64 g.A, .int .i64 g.Top, .int .i64 g.Bottom, .int .i64 g.SX, .int .i64 g.SY, .int .i64 g.SA, .bool g.NoWrap, .bool g.Hidden, .slice ar g.Rows.length cr, .slice ab g.Back.length cb] (0, 0) _ HA.out Try.underlying31 rfl size31 ?_)
      | (go_at_call 59; refine (move_any g _ _ _ _ _ _ ((g.X / 8 + 1) * 8) g.Y _ hg.W6 hg.H6).mono ?_; rintro e w1 ⟨rfl, he1⟩; have HE1 := Aside.mk he1; have HZ1 := Aside.mk (HZ.out.ext he1); clear he1)
      | (refine atStore 31 (.tmp 4) (.tmp 25) rfl ?_; refine wpList_store_box _ rfl 31 (.tmp 4) (.tmp 25) rfl (w.heap.size + 1) _ rfl rfl 31 _ HZ1.out size31 rfl rfl ?_; intro w2 hbz hgz; have HZ2 := Aside.mk hbz; have HG2 := Aside.mk hgz; clear hgz hbz))
    refine bodyPost_ret (results_cell_row Try.results35 _ _ (w.heap.size + 1) 31 _ (0, 0) _ rfl HZ2.out Try.underlying31 rfl size31) rfl ?_
    have hx := (HW.out.trans HE1.out).of_grown HG2.out (by intro k hk; cases hk; omega)
    exact PassA.of ((HIN.out.ext hx).same rfl rfl) (hx.any _)
  have d2 : (r == 9) = false := by simpa using h2
  by_cases h3 : r = 10 ∨ r = 11 ∨ r = 12
  · rw [show controlG g r = moveG (lineG g) (lineG g).X (lineG g).Y from by unfold controlG; rw [if_neg h1, if_neg h2, if_pos h3]]
    have hwf := lineG_wf hg
    rcases h3 with rfl | rfl | rfl
    all_goals
      go_enter Try.func35, Try.ntmps35
      go_wp2_with (first
        | (refine atLoad 31 (.tmp 2) rfl ?_; refine wpList_load_row rfl 31 (.tmp 2) rfl w.heap.size rfl 31 _ (0, 0) _ HA2.out Try.underlying31 rfl size31 ?_)
        | (refine atLoad 31 (.tmp 2) rfl ?_; refine wpList_load_row rfl 31 (.tmp 2) rfl w.heap.size rfl 31 #[.int .i64 g.W, .int .i64 g.H, .int .i64 g.X, .int .i64 g.Y, .bool g.Wrap, .int .i64 g.A, .int .i64 g.Top, .int .i64 g.Bottom, .int .i64 g.SX, .int .i64 g.SY, .int .i64 g.SA, .bool g.NoWrap, .bool g.Hidden, .slice ar g.Rows.length cr, .slice ab g.Back.length cb] (0, 0) _ HA.out Try.underlying31 rfl size31 ?_)
        | (go_at_call 55; refine (line_any g _ _ _ _ base _ hg (HIN.out.ext HW.out) (by simp; omega)).mono ?_; rintro e w1 ⟨ar1, cr1, ab1, cb1, rfl, HI1, HB1⟩; have HX1 := Aside.mk (grownBy_ext HB1.out); have HA1 := Aside.mk (HA.out.ext HX1.out); have HZ1 := Aside.mk (HZ.out.ext HX1.out))
        | (go_at_call 59; refine (move_any (lineG g) _ _ _ _ _ _ (lineG g).X (lineG g).Y _ hwf.W6 hwf.H6).mono ?_; rintro e w3 ⟨rfl, he3⟩; have HE3 := Aside.mk he3; have HZ3 := Aside.mk (HZ2.out.ext he3); clear he3)
        | ((refine atStore 31 (.tmp 2) (.tmp 31) rfl ?_; refine wpList_store_box _ rfl 31 (.tmp 2) (.tmp 31) rfl w.heap.size _ rfl rfl 31 _ HA1.out size31 rfl rfl ?_; intro w2 hbz hgz; have HA2 := Aside.mk hbz; have HG2 := Aside.mk hgz; clear hgz hbz); have HZ2 := Aside.mk (HZ1.out.grown HG2.out (by simp)); obtain ⟨hc2, hf2⟩ := HA2.out.rules)
        | (refine atStore 31 (.tmp 4) (.tmp 37) rfl ?_; refine wpList_store_box _ rfl 31 (.tmp 4) (.tmp 37) rfl (w.heap.size + 1) _ rfl rfl 31 _ HZ3.out size31 rfl rfl ?_; intro w4 hbz hgz; have HZ4 := Aside.mk hbz; have HG4 := Aside.mk hgz; clear hgz hbz))
      refine bodyPost_ret (results_cell_row Try.results35 _ _ (w.heap.size + 1) 31 _ (0, 0) _ rfl HZ4.out Try.underlying31 rfl size31) rfl ?_
      have hx2 := (HW.out.trans HX1.out).of_grown HG2.out (by intro k hk; cases hk; omega)
      have hx := (hx2.trans HE3.out).of_grown HG4.out (by intro k hk; cases hk; omega)
      have hi := HI1.out.box HA1.out HG2.out
      exact PassA.of (((hi.ext HE3.out).box HZ3.out HG4.out).same rfl rfl) (hx.any _)
  have d3 : (r == 10) = false := by simp; omega
  have d4 : (r == 11) = false := by simp; omega
  have d5 : (r == 12) = false := by simp; omega
  by_cases h4 : r = 13
  · subst h4
    rw [show controlG g 13 = moveG g 0 g.Y from rfl]
    go_enter Try.func35, Try.ntmps35
    go_wp2_with (first
      | (refine atLoad 31 (.tmp 2) rfl ?_; refine wpList_load_row rfl 31 (.tmp 2) rfl w.heap.size rfl 31 #[.int .i64 g.W, .int .i64 g.H, .int .i64 g.X, .int .i64 g.Y, .bool g.Wrap, .int .i64 g.A, .int .i64 g.Top, .int .i64 g.Bottom, .int .i64 g.SX, .int .i64 g.SY, .int .i64 g.SA, .bool g.NoWrap, .bool g.Hidden, .slice ar g.Rows.length cr, .slice ab g.Back.length cb] (0, 0) _ HA.out Try.underlying31 rfl size31 ?_)
      | (go_at_call 59; refine (move_any g _ _ _ _ _ _ 0 g.Y _ hg.W6 hg.H6).mono ?_; rintro e w1 ⟨rfl, he1⟩; have HE1 := Aside.mk he1; have HZ1 := Aside.mk (HZ.out.ext he1); clear he1)
      | (refine atStore 31 (.tmp 4) (.tmp 43) rfl ?_; refine wpList_store_box _ rfl 31 (.tmp 4) (.tmp 43) rfl (w.heap.size + 1) _ rfl rfl 31 _ HZ1.out size31 rfl rfl ?_; intro w2 hbz hgz; have HZ2 := Aside.mk hbz; have HG2 := Aside.mk hgz; clear hgz hbz))
    refine bodyPost_ret (results_cell_row Try.results35 _ _ (w.heap.size + 1) 31 _ (0, 0) _ rfl HZ2.out Try.underlying31 rfl size31) rfl ?_
    have hx := (HW.out.trans HE1.out).of_grown HG2.out (by intro k hk; cases hk; omega)
    exact PassA.of ((HIN.out.ext hx).same rfl rfl) (hx.any _)
  have d6 : (r == 13) = false := by simpa using h4
  rw [show controlG g r = g from by unfold controlG; rw [if_neg h1, if_neg h2, if_neg h3, if_neg h4]]
  go_enter Try.func35, Try.ntmps35
  go_wp2_with (first
    | (refine atLoad 31 (.tmp 2) rfl ?_; refine wpList_load_row rfl 31 (.tmp 2) rfl w.heap.size rfl 31 #[.int .i64 g.W, .int .i64 g.H, .int .i64 g.X, .int .i64 g.Y, .bool g.Wrap, .int .i64 g.A, .int .i64 g.Top, .int .i64 g.Bottom, .int .i64 g.SX, .int .i64 g.SY, .int .i64 g.SA, .bool g.NoWrap, .bool g.Hidden, .slice ar g.Rows.length cr, .slice ab g.Back.length cb] (0, 0) _ HA.out Try.underlying31 rfl size31 ?_)
    | (refine atStore 31 (.tmp 4) (.tmp 44) rfl ?_; refine wpList_store_box _ rfl 31 (.tmp 4) (.tmp 44) rfl (w.heap.size + 1) _ rfl rfl 31 _ HZ.out size31 rfl rfl ?_; intro w2 hbz hgz; have HZ2 := Aside.mk hbz; have HG2 := Aside.mk hgz; clear hgz hbz))
  refine bodyPost_ret (results_cell_row Try.results35 _ _ (w.heap.size + 1) 31 _ (0, 0) _ rfl HZ2.out Try.underlying31 rfl size31) rfl ?_
  have hx := HW.out.of_grown HG2.out (by intro k hk; cases hk; omega)
  exact PassA.of ((HIN.out.ext hx).same rfl rfl) (hx.any _)

def escapeG (g : Grid) (r : Int) : Grid :=
  if r = 68 then moveG (lineG g) (lineG g).X (lineG g).Y
  else if r = 77 then moveG (backG g) (backG g).X (backG g).Y
  else if r = 69 then moveG (lineG g) 0 (lineG g).Y
  else if r = 55 then { g with SX := g.X, SY := g.Y, SA := g.A }
  else if r = 56 then moveG { g with A := g.SA } g.SX g.SY
  else if r = 99 then { newG g.W g.H with Back := g.Back }
  else g

set_option maxRecDepth 100000 in
set_option maxHeartbeats 2000000 in
theorem escape_any (g : Grid) (r : Int) (ar ab : Option Addr) (cr cb base : Nat) (w : World) (hg : WFG g) (hin : InG w base g ar cr ab cb) (hbase : base ≤ w.heap.size) :
    Calls Try.prog 36 #[.agg #[.int .i64 g.W, .int .i64 g.H, .int .i64 g.X, .int .i64 g.Y, .bool g.Wrap, .int .i64 g.A, .int .i64 g.Top, .int .i64 g.Bottom, .int .i64 g.SX, .int .i64 g.SY, .int .i64 g.SA, .bool g.NoWrap, .bool g.Hidden, .slice ar g.Rows.length cr, .slice ab g.Back.length cb], .int .i32 r] w (PassA base w none (escapeG g r)) := by
  have HIN := Aside.mk hin
  clear hin
  have HA := Aside.mk ((Box.new w 31 #[.int .i64 g.W, .int .i64 g.H, .int .i64 g.X, .int .i64 g.Y, .bool g.Wrap, .int .i64 g.A, .int .i64 g.Top, .int .i64 g.Bottom, .int .i64 g.SX, .int .i64 g.SY, .int .i64 g.SA, .bool g.NoWrap, .bool g.Hidden, .slice ar g.Rows.length cr, .slice ab g.Back.length cb]).alloc (.cells #[.int .i64 0, .int .i64 0, .int .i64 0, .int .i64 0, .bool false, .int .i64 0, .int .i64 0, .int .i64 0, .int .i64 0, .int .i64 0, .int .i64 0, .bool false, .bool false, .slice none 0 0, .slice none 0 0] 31))
  have HZ := Aside.mk (Box.newAt (w.alloc (.cells #[.int .i64 g.W, .int .i64 g.H, .int .i64 g.X, .int .i64 g.Y, .bool g.Wrap, .int .i64 g.A, .int .i64 g.Top, .int .i64 g.Bottom, .int .i64 g.SX, .int .i64 g.SY, .int .i64 g.SA, .bool g.NoWrap, .bool g.Hidden, .slice ar g.Rows.length cr, .slice ab g.Back.length cb] 31)) 31 #[.int .i64 0, .int .i64 0, .int .i64 0, .int .i64 0, .bool false, .int .i64 0, .int .i64 0, .int .i64 0, .int .i64 0, .int .i64 0, .int .i64 0, .bool false, .bool false, .slice none 0 0, .slice none 0 0] (w.heap.size + 1) (by simp))
  have HW := Aside.mk ((Ext.alloc1 w (.cells #[.int .i64 g.W, .int .i64 g.H, .int .i64 g.X, .int .i64 g.Y, .bool g.Wrap, .int .i64 g.A, .int .i64 g.Top, .int .i64 g.Bottom, .int .i64 g.SX, .int .i64 g.SY, .int .i64 g.SA, .bool g.NoWrap, .bool g.Hidden, .slice ar g.Rows.length cr, .slice ab g.Back.length cb] 31)).alloc (.cells #[.int .i64 0, .int .i64 0, .int .i64 0, .int .i64 0, .bool false, .int .i64 0, .int .i64 0, .int .i64 0, .int .i64 0, .int .i64 0, .int .i64 0, .bool false, .bool false, .slice none 0 0, .slice none 0 0] 31))
  by_cases h1 : r = 68
  · subst h1
    rw [show escapeG g 68 = moveG (lineG g) (lineG g).X (lineG g).Y from rfl]
    have hwf := lineG_wf hg
    go_enter Try.func36, Try.ntmps36
    go_wp2_with (first
      | (refine atLoad 31 (.tmp 2) rfl ?_; refine wpList_load_row rfl 31 (.tmp 2) rfl w.heap.size rfl 31 _ (0, 0) _ HA2.out Try.underlying31 rfl size31 ?_)
      | (refine atLoad 31 (.tmp 2) rfl ?_; refine wpList_load_row rfl 31 (.tmp 2) rfl w.heap.size rfl 31 #[.int .i64 g.W, .int .i64 g.H, .int .i64 g.X, .int .i64 g.Y, .bool g.Wrap, .int .i64 g.A, .int .i64 g.Top, .int .i64 g.Bottom, .int .i64 g.SX, .int .i64 g.SY, .int .i64 g.SA, .bool g.NoWrap, .bool g.Hidden, .slice ar g.Rows.length cr, .slice ab g.Back.length cb] (0, 0) _ HA.out Try.underlying31 rfl size31 ?_)
      | (go_at_call 55; refine (line_any g _ _ _ _ base _ hg (HIN.out.ext HW.out) (by simp; omega)).mono ?_; rintro e w1 ⟨ar1, cr1, ab1, cb1, rfl, HI1, HB1⟩; have HX1 := Aside.mk (grownBy_ext HB1.out); have HA1 := Aside.mk (HA.out.ext HX1.out); have HZ1 := Aside.mk (HZ.out.ext HX1.out))
      | (go_at_call 59; refine (move_any (lineG g) _ _ _ _ _ _ (lineG g).X (lineG g).Y _ hwf.W6 hwf.H6).mono ?_; rintro e w3 ⟨rfl, he3⟩; have HE3 := Aside.mk he3; have HZ3 := Aside.mk (HZ2.out.ext he3); clear he3)
      | ((refine atStore 31 (.tmp 2) (.tmp 10) rfl ?_; refine wpList_store_box _ rfl 31 (.tmp 2) (.tmp 10) rfl w.heap.size _ rfl rfl 31 _ HA1.out size31 rfl rfl ?_; intro w2 hbz hgz; have HA2 := Aside.mk hbz; have HG2 := Aside.mk hgz; clear hgz hbz); have HZ2 := Aside.mk (HZ1.out.grown HG2.out (by simp)); obtain ⟨hc2, hf2⟩ := HA2.out.rules)
      | (refine atStore 31 (.tmp 4) (.tmp 16) rfl ?_; refine wpList_store_box _ rfl 31 (.tmp 4) (.tmp 16) rfl (w.heap.size + 1) _ rfl rfl 31 _ HZ3.out size31 rfl rfl ?_; intro w4 hbz hgz; have HZ4 := Aside.mk hbz; have HG4 := Aside.mk hgz; clear hgz hbz))
    refine bodyPost_ret (results_cell_row Try.results36 _ _ (w.heap.size + 1) 31 _ (0, 0) _ rfl HZ4.out Try.underlying31 rfl size31) rfl ?_
    have hx2 := (HW.out.trans HX1.out).of_grown HG2.out (by intro k hk; cases hk; omega)
    have hx := (hx2.trans HE3.out).of_grown HG4.out (by intro k hk; cases hk; omega)
    have hi := HI1.out.box HA1.out HG2.out
    exact PassA.of (((hi.ext HE3.out).box HZ3.out HG4.out).same rfl rfl) (hx.any _)
  have d1 : (r == 68) = false := by simpa using h1
  by_cases h2 : r = 77
  · subst h2
    rw [show escapeG g 77 = moveG (backG g) (backG g).X (backG g).Y from rfl]
    have hwf := backG_wf hg
    go_enter Try.func36, Try.ntmps36
    go_wp2_with (first
      | (refine atLoad 31 (.tmp 2) rfl ?_; refine wpList_load_row rfl 31 (.tmp 2) rfl w.heap.size rfl 31 _ (0, 0) _ HA2.out Try.underlying31 rfl size31 ?_)
      | (refine atLoad 31 (.tmp 2) rfl ?_; refine wpList_load_row rfl 31 (.tmp 2) rfl w.heap.size rfl 31 #[.int .i64 g.W, .int .i64 g.H, .int .i64 g.X, .int .i64 g.Y, .bool g.Wrap, .int .i64 g.A, .int .i64 g.Top, .int .i64 g.Bottom, .int .i64 g.SX, .int .i64 g.SY, .int .i64 g.SA, .bool g.NoWrap, .bool g.Hidden, .slice ar g.Rows.length cr, .slice ab g.Back.length cb] (0, 0) _ HA.out Try.underlying31 rfl size31 ?_)
      | (go_at_call 60; refine (back_any g _ _ _ _ base _ hg (HIN.out.ext HW.out) (by simp; omega)).mono ?_; rintro e w1 ⟨ar1, cr1, ab1, cb1, rfl, HI1, HB1⟩; have HX1 := Aside.mk (grownBy_ext HB1.out); have HA1 := Aside.mk (HA.out.ext HX1.out); have HZ1 := Aside.mk (HZ.out.ext HX1.out))
      | (go_at_call 59; refine (move_any (backG g) _ _ _ _ _ _ (backG g).X (backG g).Y _ hwf.W6 hwf.H6).mono ?_; rintro e w3 ⟨rfl, he3⟩; have HE3 := Aside.mk he3; have HZ3 := Aside.mk (HZ2.out.ext he3); clear he3)
      | ((refine atStore 31 (.tmp 2) (.tmp 20) rfl ?_; refine wpList_store_box _ rfl 31 (.tmp 2) (.tmp 20) rfl w.heap.size _ rfl rfl 31 _ HA1.out size31 rfl rfl ?_; intro w2 hbz hgz; have HA2 := Aside.mk hbz; have HG2 := Aside.mk hgz; clear hgz hbz); have HZ2 := Aside.mk (HZ1.out.grown HG2.out (by simp)); obtain ⟨hc2, hf2⟩ := HA2.out.rules)
      | (refine atStore 31 (.tmp 4) (.tmp 26) rfl ?_; refine wpList_store_box _ rfl 31 (.tmp 4) (.tmp 26) rfl (w.heap.size + 1) _ rfl rfl 31 _ HZ3.out size31 rfl rfl ?_; intro w4 hbz hgz; have HZ4 := Aside.mk hbz; have HG4 := Aside.mk hgz; clear hgz hbz))
    refine bodyPost_ret (results_cell_row Try.results36 _ _ (w.heap.size + 1) 31 _ (0, 0) _ rfl HZ4.out Try.underlying31 rfl size31) rfl ?_
    have hx2 := (HW.out.trans HX1.out).of_grown HG2.out (by intro k hk; cases hk; omega)
    have hx := (hx2.trans HE3.out).of_grown HG4.out (by intro k hk; cases hk; omega)
    have hi := HI1.out.box HA1.out HG2.out
    exact PassA.of (((hi.ext HE3.out).box HZ3.out HG4.out).same rfl rfl) (hx.any _)
  have d2 : (r == 77) = false := by simpa using h2
  by_cases h3 : r = 69
  · subst h3
    rw [show escapeG g 69 = moveG (lineG g) 0 (lineG g).Y from rfl]
    have hwf := lineG_wf hg
    go_enter Try.func36, Try.ntmps36
    go_wp2_with (first
      | (refine atLoad 31 (.tmp 2) rfl ?_; refine wpList_load_row rfl 31 (.tmp 2) rfl w.heap.size rfl 31 _ (0, 0) _ HA2.out Try.underlying31 rfl size31 ?_)
      | (refine atLoad 31 (.tmp 2) rfl ?_; refine wpList_load_row rfl 31 (.tmp 2) rfl w.heap.size rfl 31 #[.int .i64 g.W, .int .i64 g.H, .int .i64 g.X, .int .i64 g.Y, .bool g.Wrap, .int .i64 g.A, .int .i64 g.Top, .int .i64 g.Bottom, .int .i64 g.SX, .int .i64 g.SY, .int .i64 g.SA, .bool g.NoWrap, .bool g.Hidden, .slice ar g.Rows.length cr, .slice ab g.Back.length cb] (0, 0) _ HA.out Try.underlying31 rfl size31 ?_)
      | (go_at_call 55; refine (line_any g _ _ _ _ base _ hg (HIN.out.ext HW.out) (by simp; omega)).mono ?_; rintro e w1 ⟨ar1, cr1, ab1, cb1, rfl, HI1, HB1⟩; have HX1 := Aside.mk (grownBy_ext HB1.out); have HA1 := Aside.mk (HA.out.ext HX1.out); have HZ1 := Aside.mk (HZ.out.ext HX1.out))
      | (go_at_call 59; refine (move_any (lineG g) _ _ _ _ _ _ 0 (lineG g).Y _ hwf.W6 hwf.H6).mono ?_; rintro e w3 ⟨rfl, he3⟩; have HE3 := Aside.mk he3; have HZ3 := Aside.mk (HZ2.out.ext he3); clear he3)
      | ((refine atStore 31 (.tmp 2) (.tmp 30) rfl ?_; refine wpList_store_box _ rfl 31 (.tmp 2) (.tmp 30) rfl w.heap.size _ rfl rfl 31 _ HA1.out size31 rfl rfl ?_; intro w2 hbz hgz; have HA2 := Aside.mk hbz; have HG2 := Aside.mk hgz; clear hgz hbz); have HZ2 := Aside.mk (HZ1.out.grown HG2.out (by simp)); obtain ⟨hc2, hf2⟩ := HA2.out.rules)
      | (refine atStore 31 (.tmp 4) (.tmp 34) rfl ?_; refine wpList_store_box _ rfl 31 (.tmp 4) (.tmp 34) rfl (w.heap.size + 1) _ rfl rfl 31 _ HZ3.out size31 rfl rfl ?_; intro w4 hbz hgz; have HZ4 := Aside.mk hbz; have HG4 := Aside.mk hgz; clear hgz hbz))
    refine bodyPost_ret (results_cell_row Try.results36 _ _ (w.heap.size + 1) 31 _ (0, 0) _ rfl HZ4.out Try.underlying31 rfl size31) rfl ?_
    have hx2 := (HW.out.trans HX1.out).of_grown HG2.out (by intro k hk; cases hk; omega)
    have hx := (hx2.trans HE3.out).of_grown HG4.out (by intro k hk; cases hk; omega)
    have hi := HI1.out.box HA1.out HG2.out
    exact PassA.of (((hi.ext HE3.out).box HZ3.out HG4.out).same rfl rfl) (hx.any _)
  have d3 : (r == 69) = false := by simpa using h3
  by_cases h4 : r = 55
  · subst h4
    rw [show escapeG g 55 = { g with SX := g.X, SY := g.Y, SA := g.A } from rfl]
    have HA7 := Aside.mk ((Box.new w 31 #[.int .i64 { g with SX := g.X, SY := g.Y, SA := g.A }.W, .int .i64 { g with SX := g.X, SY := g.Y, SA := g.A }.H, .int .i64 { g with SX := g.X, SY := g.Y, SA := g.A }.X, .int .i64 { g with SX := g.X, SY := g.Y, SA := g.A }.Y, .bool { g with SX := g.X, SY := g.Y, SA := g.A }.Wrap, .int .i64 { g with SX := g.X, SY := g.Y, SA := g.A }.A, .int .i64 { g with SX := g.X, SY := g.Y, SA := g.A }.Top, .int .i64 { g with SX := g.X, SY := g.Y, SA := g.A }.Bottom, .int .i64 { g with SX := g.X, SY := g.Y, SA := g.A }.SX, .int .i64 { g with SX := g.X, SY := g.Y, SA := g.A }.SY, .int .i64 { g with SX := g.X, SY := g.Y, SA := g.A }.SA, .bool { g with SX := g.X, SY := g.Y, SA := g.A }.NoWrap, .bool { g with SX := g.X, SY := g.Y, SA := g.A }.Hidden, .slice ar g.Rows.length cr, .slice ab g.Back.length cb]).alloc (.cells #[.int .i64 0, .int .i64 0, .int .i64 0, .int .i64 0, .bool false, .int .i64 0, .int .i64 0, .int .i64 0, .int .i64 0, .int .i64 0, .int .i64 0, .bool false, .bool false, .slice none 0 0, .slice none 0 0] 31))
    have HZ7 := Aside.mk (Box.newAt (w.alloc (.cells #[.int .i64 { g with SX := g.X, SY := g.Y, SA := g.A }.W, .int .i64 { g with SX := g.X, SY := g.Y, SA := g.A }.H, .int .i64 { g with SX := g.X, SY := g.Y, SA := g.A }.X, .int .i64 { g with SX := g.X, SY := g.Y, SA := g.A }.Y, .bool { g with SX := g.X, SY := g.Y, SA := g.A }.Wrap, .int .i64 { g with SX := g.X, SY := g.Y, SA := g.A }.A, .int .i64 { g with SX := g.X, SY := g.Y, SA := g.A }.Top, .int .i64 { g with SX := g.X, SY := g.Y, SA := g.A }.Bottom, .int .i64 { g with SX := g.X, SY := g.Y, SA := g.A }.SX, .int .i64 { g with SX := g.X, SY := g.Y, SA := g.A }.SY, .int .i64 { g with SX := g.X, SY := g.Y, SA := g.A }.SA, .bool { g with SX := g.X, SY := g.Y, SA := g.A }.NoWrap, .bool { g with SX := g.X, SY := g.Y, SA := g.A }.Hidden, .slice ar g.Rows.length cr, .slice ab g.Back.length cb] 31)) 31 #[.int .i64 0, .int .i64 0, .int .i64 0, .int .i64 0, .bool false, .int .i64 0, .int .i64 0, .int .i64 0, .int .i64 0, .int .i64 0, .int .i64 0, .bool false, .bool false, .slice none 0 0, .slice none 0 0] (w.heap.size + 1) (by simp))
    have HW7 := Aside.mk ((Ext.alloc1 w (.cells #[.int .i64 { g with SX := g.X, SY := g.Y, SA := g.A }.W, .int .i64 { g with SX := g.X, SY := g.Y, SA := g.A }.H, .int .i64 { g with SX := g.X, SY := g.Y, SA := g.A }.X, .int .i64 { g with SX := g.X, SY := g.Y, SA := g.A }.Y, .bool { g with SX := g.X, SY := g.Y, SA := g.A }.Wrap, .int .i64 { g with SX := g.X, SY := g.Y, SA := g.A }.A, .int .i64 { g with SX := g.X, SY := g.Y, SA := g.A }.Top, .int .i64 { g with SX := g.X, SY := g.Y, SA := g.A }.Bottom, .int .i64 { g with SX := g.X, SY := g.Y, SA := g.A }.SX, .int .i64 { g with SX := g.X, SY := g.Y, SA := g.A }.SY, .int .i64 { g with SX := g.X, SY := g.Y, SA := g.A }.SA, .bool { g with SX := g.X, SY := g.Y, SA := g.A }.NoWrap, .bool { g with SX := g.X, SY := g.Y, SA := g.A }.Hidden, .slice ar g.Rows.length cr, .slice ab g.Back.length cb] 31)).alloc (.cells #[.int .i64 0, .int .i64 0, .int .i64 0, .int .i64 0, .bool false, .int .i64 0, .int .i64 0, .int .i64 0, .int .i64 0, .int .i64 0, .int .i64 0, .bool false, .bool false, .slice none 0 0, .slice none 0 0] 31))
    go_enter Try.func36, Try.ntmps36
    go_wp2_with (first
      | (refine atLoad 31 (.tmp 2) rfl ?_; refine wpList_load_row rfl 31 (.tmp 2) rfl w.heap.size rfl 31 #[.int .i64 { g with SX := g.X, SY := g.Y, SA := g.A }.W, .int .i64 { g with SX := g.X, SY := g.Y, SA := g.A }.H, .int .i64 { g with SX := g.X, SY := g.Y, SA := g.A }.X, .int .i64 { g with SX := g.X, SY := g.Y, SA := g.A }.Y, .bool { g with SX := g.X, SY := g.Y, SA := g.A }.Wrap, .int .i64 { g with SX := g.X, SY := g.Y, SA := g.A }.A, .int .i64 { g with SX := g.X, SY := g.Y, SA := g.A }.Top, .int .i64 { g with SX := g.X, SY := g.Y, SA := g.A }.Bottom, .int .i64 { g with SX := g.X, SY := g.Y, SA := g.A }.SX, .int .i64 { g with SX := g.X, SY := g.Y, SA := g.A }.SY, .int .i64 { g with SX := g.X, SY := g.Y, SA := g.A }.SA, .bool { g with SX := g.X, SY := g.Y, SA := g.A }.NoWrap, .bool { g with SX := g.X, SY := g.Y, SA := g.A }.Hidden, .slice ar g.Rows.length cr, .slice ab g.Back.length cb] (0, 0) _ HA7.out Try.underlying31 rfl size31 ?_)
      | (refine atStore 31 (.tmp 4) (.tmp 68) rfl ?_; refine wpList_store_box _ rfl 31 (.tmp 4) (.tmp 68) rfl (w.heap.size + 1) _ rfl rfl 31 _ HZ7.out size31 rfl rfl ?_; intro w2 hbz hgz; have HZ2 := Aside.mk hbz; have HG2 := Aside.mk hgz; clear hgz hbz))
    refine bodyPost_ret (results_cell_row Try.results36 _ _ (w.heap.size + 1) 31 _ (0, 0) _ rfl HZ2.out Try.underlying31 rfl size31) rfl ?_
    have hx := HW7.out.of_grown HG2.out (by intro k hk; cases hk; omega)
    exact PassA.of ((HIN.out.ext hx).same rfl rfl) (hx.any _)
  have d4 : (r == 55) = false := by simpa using h4
  by_cases h5 : r = 56
  · subst h5
    rw [show escapeG g 56 = moveG { g with A := g.SA } g.SX g.SY from rfl]
    have HA8 := Aside.mk ((Box.new w 31 #[.int .i64 { g with A := g.SA }.W, .int .i64 { g with A := g.SA }.H, .int .i64 { g with A := g.SA }.X, .int .i64 { g with A := g.SA }.Y, .bool { g with A := g.SA }.Wrap, .int .i64 { g with A := g.SA }.A, .int .i64 { g with A := g.SA }.Top, .int .i64 { g with A := g.SA }.Bottom, .int .i64 { g with A := g.SA }.SX, .int .i64 { g with A := g.SA }.SY, .int .i64 { g with A := g.SA }.SA, .bool { g with A := g.SA }.NoWrap, .bool { g with A := g.SA }.Hidden, .slice ar g.Rows.length cr, .slice ab g.Back.length cb]).alloc (.cells #[.int .i64 0, .int .i64 0, .int .i64 0, .int .i64 0, .bool false, .int .i64 0, .int .i64 0, .int .i64 0, .int .i64 0, .int .i64 0, .int .i64 0, .bool false, .bool false, .slice none 0 0, .slice none 0 0] 31))
    have HZ8 := Aside.mk (Box.newAt (w.alloc (.cells #[.int .i64 { g with A := g.SA }.W, .int .i64 { g with A := g.SA }.H, .int .i64 { g with A := g.SA }.X, .int .i64 { g with A := g.SA }.Y, .bool { g with A := g.SA }.Wrap, .int .i64 { g with A := g.SA }.A, .int .i64 { g with A := g.SA }.Top, .int .i64 { g with A := g.SA }.Bottom, .int .i64 { g with A := g.SA }.SX, .int .i64 { g with A := g.SA }.SY, .int .i64 { g with A := g.SA }.SA, .bool { g with A := g.SA }.NoWrap, .bool { g with A := g.SA }.Hidden, .slice ar g.Rows.length cr, .slice ab g.Back.length cb] 31)) 31 #[.int .i64 0, .int .i64 0, .int .i64 0, .int .i64 0, .bool false, .int .i64 0, .int .i64 0, .int .i64 0, .int .i64 0, .int .i64 0, .int .i64 0, .bool false, .bool false, .slice none 0 0, .slice none 0 0] (w.heap.size + 1) (by simp))
    have HW8 := Aside.mk ((Ext.alloc1 w (.cells #[.int .i64 { g with A := g.SA }.W, .int .i64 { g with A := g.SA }.H, .int .i64 { g with A := g.SA }.X, .int .i64 { g with A := g.SA }.Y, .bool { g with A := g.SA }.Wrap, .int .i64 { g with A := g.SA }.A, .int .i64 { g with A := g.SA }.Top, .int .i64 { g with A := g.SA }.Bottom, .int .i64 { g with A := g.SA }.SX, .int .i64 { g with A := g.SA }.SY, .int .i64 { g with A := g.SA }.SA, .bool { g with A := g.SA }.NoWrap, .bool { g with A := g.SA }.Hidden, .slice ar g.Rows.length cr, .slice ab g.Back.length cb] 31)).alloc (.cells #[.int .i64 0, .int .i64 0, .int .i64 0, .int .i64 0, .bool false, .int .i64 0, .int .i64 0, .int .i64 0, .int .i64 0, .int .i64 0, .int .i64 0, .bool false, .bool false, .slice none 0 0, .slice none 0 0] 31))
    go_enter Try.func36, Try.ntmps36
    go_wp2_with (first
      | (refine atLoad 31 (.tmp 2) rfl ?_; refine wpList_load_row rfl 31 (.tmp 2) rfl w.heap.size rfl 31 #[.int .i64 { g with A := g.SA }.W, .int .i64 { g with A := g.SA }.H, .int .i64 { g with A := g.SA }.X, .int .i64 { g with A := g.SA }.Y, .bool { g with A := g.SA }.Wrap, .int .i64 { g with A := g.SA }.A, .int .i64 { g with A := g.SA }.Top, .int .i64 { g with A := g.SA }.Bottom, .int .i64 { g with A := g.SA }.SX, .int .i64 { g with A := g.SA }.SY, .int .i64 { g with A := g.SA }.SA, .bool { g with A := g.SA }.NoWrap, .bool { g with A := g.SA }.Hidden, .slice ar g.Rows.length cr, .slice ab g.Back.length cb] (0, 0) _ HA8.out Try.underlying31 rfl size31 ?_)
      | (go_at_call 59; refine (move_any { g with A := g.SA } _ _ _ _ _ _ g.SX g.SY _ hg.W6 hg.H6).mono ?_; rintro e w1 ⟨rfl, he1⟩; have HE1 := Aside.mk he1; have HZ1 := Aside.mk (HZ8.out.ext he1); clear he1)
      | (refine atStore 31 (.tmp 4) (.tmp 56) rfl ?_; refine wpList_store_box _ rfl 31 (.tmp 4) (.tmp 56) rfl (w.heap.size + 1) _ rfl rfl 31 _ HZ1.out size31 rfl rfl ?_; intro w2 hbz hgz; have HZ2 := Aside.mk hbz; have HG2 := Aside.mk hgz; clear hgz hbz))
    refine bodyPost_ret (results_cell_row Try.results36 _ _ (w.heap.size + 1) 31 _ (0, 0) _ rfl HZ2.out Try.underlying31 rfl size31) rfl ?_
    have hx := (HW8.out.trans HE1.out).of_grown HG2.out (by intro k hk; cases hk; omega)
    exact PassA.of ((HIN.out.ext hx).same rfl rfl) (hx.any _)
  have d5 : (r == 56) = false := by simpa using h5
  by_cases h6 : r = 99
  · subst h6
    rw [show escapeG g 99 = { newG g.W g.H with Back := g.Back } from rfl]
    go_enter Try.func36, Try.ntmps36
    go_wp2_with (first
      | (go_at_call 51; refine (New_any _ _ _).mono ?_; intro e w1 hp; obtain ⟨ar1, cr1, ab1, cb1, rfl, HI1, HB1⟩ := hp.inG; clear hp; have HA1 := Aside.mk (HA.out.ext HB1.out); have HZ1 := Aside.mk (HZ.out.ext HB1.out); have HN1 := Aside.mk (Box.new w1 31 #[.int .i64 0, .int .i64 0, .int .i64 0, .int .i64 0, .bool false, .int .i64 0, .int .i64 0, .int .i64 0, .int .i64 0, .int .i64 0, .int .i64 0, .bool false, .bool false, .slice none 0 0, .slice none 0 0]); have HA2 := Aside.mk (HA1.out.alloc (.cells #[.int .i64 0, .int .i64 0, .int .i64 0, .int .i64 0, .bool false, .int .i64 0, .int .i64 0, .int .i64 0, .int .i64 0, .int .i64 0, .int .i64 0, .bool false, .bool false, .slice none 0 0, .slice none 0 0] 31)); have HZ2 := Aside.mk (HZ1.out.alloc (.cells #[.int .i64 0, .int .i64 0, .int .i64 0, .int .i64 0, .bool false, .int .i64 0, .int .i64 0, .int .i64 0, .int .i64 0, .int .i64 0, .int .i64 0, .bool false, .bool false, .slice none 0 0, .slice none 0 0] 31)))
      | ((refine atStore 31 (.tmp 5) (.tmp 63) rfl ?_; refine wpList_store_box _ rfl 31 (.tmp 5) (.tmp 63) rfl w1.heap.size _ rfl rfl 31 _ HN1.out size31 rfl rfl ?_; intro w2 hbz hgz; have HN2 := Aside.mk hbz; have HG2 := Aside.mk hgz; clear hgz hbz); have HA3 := Aside.mk (HA2.out.grown HG2.out (by intro h; injection h with h; have := HA1.out.lt; omega)); have HZ3 := Aside.mk (HZ2.out.grown HG2.out (by intro h; injection h with h; have := HZ1.out.lt; omega)); obtain ⟨hc2, hf2⟩ := HN2.out.rules; obtain ⟨hc3, hf3⟩ := HA3.out.rules; (have HS := Aside.mk (HN2.out.set 14 (.slice ab g.Back.length cb)); have HN3 := Aside.mk HS.out.1; simp only [List.setIfInBounds_toArray, List.set_cons_zero, List.set_cons_succ] at HN3); have HZ4 := Aside.mk (HZ3.out.grown HS.out.2 (by intro h; injection h with h; have := HZ1.out.lt; omega)))
      | (refine atLoad 31 (.tmp 5) rfl ?_; refine wpList_load_row rfl 31 (.tmp 5) rfl w1.heap.size rfl 31 _ (0, 0) _ HN3.out Try.underlying31 rfl size31 ?_)
      | (refine atStore 31 (.tmp 4) (.tmp 67) rfl ?_; refine wpList_store_box _ rfl 31 (.tmp 4) (.tmp 67) rfl (w.heap.size + 1) _ rfl rfl 31 _ HZ4.out size31 rfl rfl ?_; intro w5 hbz hgz; have HZ5 := Aside.mk hbz; have HG5 := Aside.mk hgz; clear hgz hbz))
    refine bodyPost_ret (results_cell_row Try.results36 _ _ (w.heap.size + 1) 31 _ (0, 0) _ rfl HZ5.out Try.underlying31 rfl size31) rfl ?_
    have hx1 : Ext w w1 := HW.out.trans HB1.out
    have hx2 := (hx1.alloc (.cells #[.int .i64 0, .int .i64 0, .int .i64 0, .int .i64 0, .bool false, .int .i64 0, .int .i64 0, .int .i64 0, .int .i64 0, .int .i64 0, .int .i64 0, .bool false, .bool false, .slice none 0 0, .slice none 0 0] 31)).of_grown HG2.out (by intro k hk; cases hk; exact hx1.size)
    have hx := (hx2.of_grown HS.out.2 (by intro k hk; cases hk; exact hx1.size)).of_grown HG5.out (by intro k hk; cases hk; omega)
    have hr := (((HI1.out.rows.ext (Ext.alloc1 w1 (.cells #[.int .i64 0, .int .i64 0, .int .i64 0, .int .i64 0, .bool false, .int .i64 0, .int .i64 0, .int .i64 0, .int .i64 0, .int .i64 0, .int .i64 0, .bool false, .bool false, .slice none 0 0, .slice none 0 0] 31))).box HN1.out HG2.out).box HN2.out HS.out.2).box HZ4.out HG5.out
    refine PassA.of ⟨hr.mono (by simp; omega), HIN.out.back.ext hx, ?_⟩ (hx.any _)
    intro k hk hk'
    obtain ⟨_, h7, _⟩ := HIN.out.back.ex
    obtain ⟨_, h8, _⟩ := HI1.out.rows.ex
    have h9 := own_lt h7 k hk'
    have h10 := own_base h8 k hk
    simp at h10
    omega
  have d6 : (r == 99) = false := by simpa using h6
  rw [show escapeG g r = g from by unfold escapeG; rw [if_neg h1, if_neg h2, if_neg h3, if_neg h4, if_neg h5, if_neg h6]]
  go_enter Try.func36, Try.ntmps36
  go_wp2_with (first
    | (refine atLoad 31 (.tmp 2) rfl ?_; refine wpList_load_row rfl 31 (.tmp 2) rfl w.heap.size rfl 31 #[.int .i64 g.W, .int .i64 g.H, .int .i64 g.X, .int .i64 g.Y, .bool g.Wrap, .int .i64 g.A, .int .i64 g.Top, .int .i64 g.Bottom, .int .i64 g.SX, .int .i64 g.SY, .int .i64 g.SA, .bool g.NoWrap, .bool g.Hidden, .slice ar g.Rows.length cr, .slice ab g.Back.length cb] (0, 0) _ HA.out Try.underlying31 rfl size31 ?_)
    | (refine atStore 31 (.tmp 4) (.tmp 68) rfl ?_; refine wpList_store_box _ rfl 31 (.tmp 4) (.tmp 68) rfl (w.heap.size + 1) _ rfl rfl 31 _ HZ.out size31 rfl rfl ?_; intro w2 hbz hgz; have HZ2 := Aside.mk hbz; have HG2 := Aside.mk hgz; clear hgz hbz))
  refine bodyPost_ret (results_cell_row Try.results36 _ _ (w.heap.size + 1) 31 _ (0, 0) _ rfl HZ2.out Try.underlying31 rfl size31) rfl ?_
  have hx := HW.out.of_grown HG2.out (by intro k hk; cases hk; omega)
  exact PassA.of ((HIN.out.ext hx).same rfl rfl) (hx.any _)
end Go.Proofs.Ytmehkikkjebnnaa
