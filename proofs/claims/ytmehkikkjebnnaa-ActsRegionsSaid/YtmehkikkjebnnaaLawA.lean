/-
  Walks: polyptychlaw6.awake.
-/
import Derived.Test.YtmehkikkjebnnaaRefD
set_option linter.unusedVariables false
set_option linter.unusedSimpArgs false
namespace Go.Proofs.Ytmehkikkjebnnaa
open Go.RowKit
attribute [local go_sem] max2_i min2_i max_two min_two
attribute [local go_sem ↓] Go.wp_at_zero Go.wp_at_succ

theorem IntsAt.nil (w : World) : IntsAt w (.slice none 0 0) [] := Holds.nil w 1
theorem ParOk.nil : ParOk [] := ⟨by simp, by simp⟩
theorem ParOk.of (l : List Int) (h : l.length ≤ 100) (h1 : (l.all fun p => decide (p ≤ 1000000)) = true) : ParOk l :=
  ⟨by omega, fun p hp => by have := List.all_eq_true.1 h1 p hp; simp at this; omega⟩
/-- acts.Apply at what is known to come out. -/
theorem Apply_to (g h : Grid) (k r : Int) (l : List Int) (ap ar ab : Option Addr) (cp cr cb : Nat) (w : World) (hh : applyG g k r l = h) (hg : WFG g) (hpar : ParOk l) (hla : IntsAt w (.slice ap l.length cp) l) (hrw : RowsAt w (.slice ar g.Rows.length cr) g.Rows) (hbw : RowsAt w (.slice ab g.Back.length cb) g.Back) :
    Calls Try.prog 16 #[.agg #[.int .i64 g.W, .int .i64 g.H, .int .i64 g.X, .int .i64 g.Y, .bool g.Wrap, .int .i64 g.A, .int .i64 g.Top, .int .i64 g.Bottom, .int .i64 g.SX, .int .i64 g.SY, .int .i64 g.SA, .bool g.NoWrap, .bool g.Hidden, .slice ar g.Rows.length cr, .slice ab g.Back.length cb], .agg #[.int .i64 k, .int .i32 r, .slice ap l.length cp]] w fun e w' => ∃ ar cr ab cb, e = .returned (.agg #[.int .i64 h.W, .int .i64 h.H, .int .i64 h.X, .int .i64 h.Y, .bool h.Wrap, .int .i64 h.A, .int .i64 h.Top, .int .i64 h.Bottom, .int .i64 h.SX, .int .i64 h.SY, .int .i64 h.SA, .bool h.NoWrap, .bool h.Hidden, .slice ar h.Rows.length cr, .slice ab h.Back.length cb]) ∧ Aside (InG w' w.heap.size h ar cr ab cb) ∧ Aside (Ext w w') ∧ Aside (WFG h) := by
  subst hh
  refine (Apply_any g k r l ap ar ab cp cr cb w hg hpar hla hrw hbw).mono ?_
  intro e w' hp
  obtain ⟨ar1, cr1, ab1, cb1, rfl, h1, h2⟩ := hp.inG
  exact ⟨ar1, cr1, ab1, cb1, rfl, h1, h2, ⟨applyG_wf hg k r l⟩⟩
theorem sNew_to (x y : Int) (h : Grid) (w : World) (hh : newG x y = h) : Calls Try.prog 15 #[.int .i64 x, .int .i64 y] w fun e w' => ∃ ar cr ab cb, e = .returned (.agg #[.int .i64 h.W, .int .i64 h.H, .int .i64 h.X, .int .i64 h.Y, .bool h.Wrap, .int .i64 h.A, .int .i64 h.Top, .int .i64 h.Bottom, .int .i64 h.SX, .int .i64 h.SY, .int .i64 h.SA, .bool h.NoWrap, .bool h.Hidden, .slice ar h.Rows.length cr, .slice ab h.Back.length cb]) ∧ Aside (InG w' w.heap.size h ar cr ab cb) ∧ Aside (Ext w w') ∧ Aside (WFG h) := by
  subst hh
  refine (sNew_any x y w).mono ?_
  intro e w' hp
  obtain ⟨ar1, cr1, ab1, cb1, rfl, h1, h2⟩ := hp.inG
  exact ⟨ar1, cr1, ab1, cb1, rfl, h1, h2, ⟨newG_wf x y⟩⟩
theorem aw_0 : newG 2 2 = (⟨2, 2, 0, 0, false, 0, 0, 1, 0, 0, 0, false, false, [[⟨32, 0⟩, ⟨32, 0⟩], [⟨32, 0⟩, ⟨32, 0⟩]], []⟩ : Grid) := by decide
theorem aw_1 : applyG (⟨2, 2, 0, 0, false, 0, 0, 1, 0, 0, 0, false, false, [[⟨32, 0⟩, ⟨32, 0⟩], [⟨32, 0⟩, ⟨32, 0⟩]], []⟩ : Grid) 1 97 [] = (⟨2, 2, 1, 0, false, 0, 0, 1, 0, 0, 0, false, false, [[⟨97, 0⟩, ⟨32, 0⟩], [⟨32, 0⟩, ⟨32, 0⟩]], []⟩ : Grid) := by decide
theorem aw_2 : applyG (⟨2, 2, 1, 0, false, 0, 0, 1, 0, 0, 0, false, false, [[⟨97, 0⟩, ⟨32, 0⟩], [⟨32, 0⟩, ⟨32, 0⟩]], []⟩ : Grid) 1 98 [] = (⟨2, 2, 1, 0, true, 0, 0, 1, 0, 0, 0, false, false, [[⟨97, 0⟩, ⟨98, 0⟩], [⟨32, 0⟩, ⟨32, 0⟩]], []⟩ : Grid) := by decide
theorem aw_3 : applyG (⟨2, 2, 1, 0, true, 0, 0, 1, 0, 0, 0, false, false, [[⟨97, 0⟩, ⟨98, 0⟩], [⟨32, 0⟩, ⟨32, 0⟩]], []⟩ : Grid) 1 99 [] = (⟨2, 2, 1, 1, false, 0, 0, 1, 0, 0, 0, false, false, [[⟨97, 0⟩, ⟨98, 0⟩], [⟨99, 0⟩, ⟨32, 0⟩]], []⟩ : Grid) := by decide
theorem aw_4 : applyG (⟨2, 2, 1, 1, false, 0, 0, 1, 0, 0, 0, false, false, [[⟨97, 0⟩, ⟨98, 0⟩], [⟨99, 0⟩, ⟨32, 0⟩]], []⟩ : Grid) 4 74 [1] = (⟨2, 2, 1, 1, false, 0, 0, 1, 0, 0, 0, false, false, [[⟨32, 0⟩, ⟨32, 0⟩], [⟨32, 0⟩, ⟨32, 0⟩]], []⟩ : Grid) := by decide
theorem aw_5 : applyG (⟨2, 2, 1, 1, false, 0, 0, 1, 0, 0, 0, false, false, [[⟨97, 0⟩, ⟨98, 0⟩], [⟨99, 0⟩, ⟨32, 0⟩]], []⟩ : Grid) 4 113 [] = (⟨2, 2, 1, 1, false, 0, 0, 1, 0, 0, 0, false, false, [[⟨97, 0⟩, ⟨98, 0⟩], [⟨99, 0⟩, ⟨32, 0⟩]], []⟩ : Grid) := by decide

theorem cellsOf {w : World} {a : Option Addr} {n c : Nat} {l : List Cell} (h : CellsAt w (.slice a n c) l) (hn : 0 < l.length) : ∃ b o, a = some ⟨b, o, none⟩ ∧ ∀ i, i < l.length → w.cell? ⟨b, o + i * 2, none⟩ = some (.int .i32 (l.getD i default).R) := by
  obtain ⟨b, o, ha, _⟩ := h.at_ 0 hn
  refine ⟨b, o, ha, fun i hi => ?_⟩
  obtain ⟨b', o', ha', h1, _⟩ := h.at_ i hi
  rw [ha] at ha'
  injection ha' with e
  injection e with e1 e2
  subst e1 e2
  exact h1
theorem rows2 {w : World} {a : Option Addr} {c : Nat} {r0 r1 : List Cell} (h : RowsAt w (.slice a 2 c) [r0, r1]) :
    ∃ b o a0 c0 a1 c1, a = some ⟨b, o, none⟩ ∧ w.cell? ⟨b, o, none⟩ = some (.slice a0 r0.length c0) ∧ w.cell? ⟨b, o + 1, none⟩ = some (.slice a1 r1.length c1) ∧ Aside (CellsAt w (.slice a0 r0.length c0) r0) ∧ Aside (CellsAt w (.slice a1 r1.length c1) r1) := by
  obtain ⟨b, o, a0, c0, x0, e0, h0, k0, l0⟩ := h.at_ 0 (by simp)
  obtain ⟨b', o', a1, c1, x1, e1, h1, k1, l1⟩ := h.at_ 1 (by simp)
  rw [e0] at e1
  injection e1 with e1
  injection e1 with e1 e2
  subst e1 e2
  have l0 := l0.out
  have l1 := l1.out
  simp at l0 l1
  subst l0 l1
  exact ⟨b, o, a0, c0, a1, c1, e0, h0, h1, ⟨k0⟩, ⟨k1⟩⟩
theorem cells2 {w : World} {a : Option Addr} {c : Nat} {r0 r1 : Cell} (h : CellsAt w (.slice a 2 c) [r0, r1]) :
    ∃ b o, a = some ⟨b, o, none⟩ ∧ w.cell? ⟨b, o, none⟩ = some (.int .i32 r0.R) ∧ w.cell? ⟨b, o + 2, none⟩ = some (.int .i32 r1.R) := by
  obtain ⟨b, o, ha, hc⟩ := cellsOf h (by simp)
  exact ⟨b, o, ha, by simpa using hc 0 (by simp), by simpa using hc 1 (by simp)⟩
set_option maxRecDepth 100000 in
set_option maxHeartbeats 2000000 in
theorem awake6 (w : World) : Calls Try.prog 14 #[] w fun e w' => e = .returned (.bool true) ∧ Ext w w' := by
  go_enter Try.func14, Try.ntmps14
  go_wp2_with (fail)
  refine (sNew_to 2 2 (⟨2, 2, 0, 0, false, 0, 0, 1, 0, 0, 0, false, false, [[⟨32, 0⟩, ⟨32, 0⟩], [⟨32, 0⟩, ⟨32, 0⟩]], []⟩ : Grid) _ aw_0).mono ?_
  rintro e w0 ⟨a0, c0, b0, d0, rfl, HI0, HX0, HW0⟩
  have HB0 := Aside.mk (Box.new w0 31 #[.int .i64 (⟨2, 2, 0, 0, false, 0, 0, 1, 0, 0, 0, false, false, [[⟨32, 0⟩, ⟨32, 0⟩], [⟨32, 0⟩, ⟨32, 0⟩]], []⟩ : Grid).W, .int .i64 (⟨2, 2, 0, 0, false, 0, 0, 1, 0, 0, 0, false, false, [[⟨32, 0⟩, ⟨32, 0⟩], [⟨32, 0⟩, ⟨32, 0⟩]], []⟩ : Grid).H, .int .i64 (⟨2, 2, 0, 0, false, 0, 0, 1, 0, 0, 0, false, false, [[⟨32, 0⟩, ⟨32, 0⟩], [⟨32, 0⟩, ⟨32, 0⟩]], []⟩ : Grid).X, .int .i64 (⟨2, 2, 0, 0, false, 0, 0, 1, 0, 0, 0, false, false, [[⟨32, 0⟩, ⟨32, 0⟩], [⟨32, 0⟩, ⟨32, 0⟩]], []⟩ : Grid).Y, .bool (⟨2, 2, 0, 0, false, 0, 0, 1, 0, 0, 0, false, false, [[⟨32, 0⟩, ⟨32, 0⟩], [⟨32, 0⟩, ⟨32, 0⟩]], []⟩ : Grid).Wrap, .int .i64 (⟨2, 2, 0, 0, false, 0, 0, 1, 0, 0, 0, false, false, [[⟨32, 0⟩, ⟨32, 0⟩], [⟨32, 0⟩, ⟨32, 0⟩]], []⟩ : Grid).A, .int .i64 (⟨2, 2, 0, 0, false, 0, 0, 1, 0, 0, 0, false, false, [[⟨32, 0⟩, ⟨32, 0⟩], [⟨32, 0⟩, ⟨32, 0⟩]], []⟩ : Grid).Top, .int .i64 (⟨2, 2, 0, 0, false, 0, 0, 1, 0, 0, 0, false, false, [[⟨32, 0⟩, ⟨32, 0⟩], [⟨32, 0⟩, ⟨32, 0⟩]], []⟩ : Grid).Bottom, .int .i64 (⟨2, 2, 0, 0, false, 0, 0, 1, 0, 0, 0, false, false, [[⟨32, 0⟩, ⟨32, 0⟩], [⟨32, 0⟩, ⟨32, 0⟩]], []⟩ : Grid).SX, .int .i64 (⟨2, 2, 0, 0, false, 0, 0, 1, 0, 0, 0, false, false, [[⟨32, 0⟩, ⟨32, 0⟩], [⟨32, 0⟩, ⟨32, 0⟩]], []⟩ : Grid).SY, .int .i64 (⟨2, 2, 0, 0, false, 0, 0, 1, 0, 0, 0, false, false, [[⟨32, 0⟩, ⟨32, 0⟩], [⟨32, 0⟩, ⟨32, 0⟩]], []⟩ : Grid).SA, .bool (⟨2, 2, 0, 0, false, 0, 0, 1, 0, 0, 0, false, false, [[⟨32, 0⟩, ⟨32, 0⟩], [⟨32, 0⟩, ⟨32, 0⟩]], []⟩ : Grid).NoWrap, .bool (⟨2, 2, 0, 0, false, 0, 0, 1, 0, 0, 0, false, false, [[⟨32, 0⟩, ⟨32, 0⟩], [⟨32, 0⟩, ⟨32, 0⟩]], []⟩ : Grid).Hidden, .slice a0 2 c0, .slice b0 0 d0])
  have HJ0 := Aside.mk (HI0.out.ext (Ext.alloc1 w0 (.cells #[.int .i64 (⟨2, 2, 0, 0, false, 0, 0, 1, 0, 0, 0, false, false, [[⟨32, 0⟩, ⟨32, 0⟩], [⟨32, 0⟩, ⟨32, 0⟩]], []⟩ : Grid).W, .int .i64 (⟨2, 2, 0, 0, false, 0, 0, 1, 0, 0, 0, false, false, [[⟨32, 0⟩, ⟨32, 0⟩], [⟨32, 0⟩, ⟨32, 0⟩]], []⟩ : Grid).H, .int .i64 (⟨2, 2, 0, 0, false, 0, 0, 1, 0, 0, 0, false, false, [[⟨32, 0⟩, ⟨32, 0⟩], [⟨32, 0⟩, ⟨32, 0⟩]], []⟩ : Grid).X, .int .i64 (⟨2, 2, 0, 0, false, 0, 0, 1, 0, 0, 0, false, false, [[⟨32, 0⟩, ⟨32, 0⟩], [⟨32, 0⟩, ⟨32, 0⟩]], []⟩ : Grid).Y, .bool (⟨2, 2, 0, 0, false, 0, 0, 1, 0, 0, 0, false, false, [[⟨32, 0⟩, ⟨32, 0⟩], [⟨32, 0⟩, ⟨32, 0⟩]], []⟩ : Grid).Wrap, .int .i64 (⟨2, 2, 0, 0, false, 0, 0, 1, 0, 0, 0, false, false, [[⟨32, 0⟩, ⟨32, 0⟩], [⟨32, 0⟩, ⟨32, 0⟩]], []⟩ : Grid).A, .int .i64 (⟨2, 2, 0, 0, false, 0, 0, 1, 0, 0, 0, false, false, [[⟨32, 0⟩, ⟨32, 0⟩], [⟨32, 0⟩, ⟨32, 0⟩]], []⟩ : Grid).Top, .int .i64 (⟨2, 2, 0, 0, false, 0, 0, 1, 0, 0, 0, false, false, [[⟨32, 0⟩, ⟨32, 0⟩], [⟨32, 0⟩, ⟨32, 0⟩]], []⟩ : Grid).Bottom, .int .i64 (⟨2, 2, 0, 0, false, 0, 0, 1, 0, 0, 0, false, false, [[⟨32, 0⟩, ⟨32, 0⟩], [⟨32, 0⟩, ⟨32, 0⟩]], []⟩ : Grid).SX, .int .i64 (⟨2, 2, 0, 0, false, 0, 0, 1, 0, 0, 0, false, false, [[⟨32, 0⟩, ⟨32, 0⟩], [⟨32, 0⟩, ⟨32, 0⟩]], []⟩ : Grid).SY, .int .i64 (⟨2, 2, 0, 0, false, 0, 0, 1, 0, 0, 0, false, false, [[⟨32, 0⟩, ⟨32, 0⟩], [⟨32, 0⟩, ⟨32, 0⟩]], []⟩ : Grid).SA, .bool (⟨2, 2, 0, 0, false, 0, 0, 1, 0, 0, 0, false, false, [[⟨32, 0⟩, ⟨32, 0⟩], [⟨32, 0⟩, ⟨32, 0⟩]], []⟩ : Grid).NoWrap, .bool (⟨2, 2, 0, 0, false, 0, 0, 1, 0, 0, 0, false, false, [[⟨32, 0⟩, ⟨32, 0⟩], [⟨32, 0⟩, ⟨32, 0⟩]], []⟩ : Grid).Hidden, .slice a0 2 c0, .slice b0 0 d0] 31)))
  go_wp2_with (first | (refine atLoad 31 (.tmp 1) rfl ?_; refine wpList_load_row rfl 31 (.tmp 1) rfl w0.heap.size rfl 31 _ (0, 0) _ HB0.out Try.underlying31 rfl size31 ?_))
  refine (Apply_to (⟨2, 2, 0, 0, false, 0, 0, 1, 0, 0, 0, false, false, [[⟨32, 0⟩, ⟨32, 0⟩], [⟨32, 0⟩, ⟨32, 0⟩]], []⟩ : Grid) (⟨2, 2, 1, 0, false, 0, 0, 1, 0, 0, 0, false, false, [[⟨97, 0⟩, ⟨32, 0⟩], [⟨32, 0⟩, ⟨32, 0⟩]], []⟩ : Grid) 1 97 [] none _ _ 0 _ _ _ aw_1 HW0.out ParOk.nil (IntsAt.nil _) HJ0.out.rows.at_ HJ0.out.back.at_).mono ?_
  rintro e w1 ⟨a1, c1, b1, d1, rfl, HI1, HX1, HW1⟩
  have HBx1 := Aside.mk (HB0.out.ext HX1.out)
  go_wp2_with (first
    | ((refine atStore 31 (.tmp 1) (.tmp 8) rfl ?_; refine wpList_store_box _ rfl 31 (.tmp 1) (.tmp 8) rfl w0.heap.size _ rfl rfl 31 _ HBx1.out size31 rfl rfl ?_; intro v1 hbz hgz; have HB1 := Aside.mk hbz; have HG1 := Aside.mk hgz; clear hgz hbz); have HJ1 := Aside.mk (HI1.out.box HBx1.out HG1.out); obtain ⟨hc1, hf1⟩ := HB1.out.rules)
    | (refine atLoad 31 (.tmp 1) rfl ?_; refine wpList_load_row rfl 31 (.tmp 1) rfl w0.heap.size rfl 31 _ (0, 0) _ HB1.out Try.underlying31 rfl size31 ?_))
  refine (Apply_to (⟨2, 2, 1, 0, false, 0, 0, 1, 0, 0, 0, false, false, [[⟨97, 0⟩, ⟨32, 0⟩], [⟨32, 0⟩, ⟨32, 0⟩]], []⟩ : Grid) (⟨2, 2, 1, 0, true, 0, 0, 1, 0, 0, 0, false, false, [[⟨97, 0⟩, ⟨98, 0⟩], [⟨32, 0⟩, ⟨32, 0⟩]], []⟩ : Grid) 1 98 [] none _ _ 0 _ _ _ aw_2 HW1.out ParOk.nil (IntsAt.nil _) HJ1.out.rows.at_ HJ1.out.back.at_).mono ?_
  rintro e w2 ⟨a2, c2, b2, d2, rfl, HI2, HX2, HW2⟩
  have HBx2 := Aside.mk (HB1.out.ext HX2.out)
  go_wp2_with (first
    | ((refine atStore 31 (.tmp 1) (.tmp 11) rfl ?_; refine wpList_store_box _ rfl 31 (.tmp 1) (.tmp 11) rfl w0.heap.size _ rfl rfl 31 _ HBx2.out size31 rfl rfl ?_; intro v2 hbz hgz; have HB2 := Aside.mk hbz; have HG2 := Aside.mk hgz; clear hgz hbz); have HJ2 := Aside.mk (HI2.out.box HBx2.out HG2.out); obtain ⟨hc2, hf2⟩ := HB2.out.rules)
    | (refine atLoad 31 (.tmp 1) rfl ?_; refine wpList_load_row rfl 31 (.tmp 1) rfl w0.heap.size rfl 31 _ (0, 0) _ HB2.out Try.underlying31 rfl size31 ?_))
  refine (Apply_to (⟨2, 2, 1, 0, true, 0, 0, 1, 0, 0, 0, false, false, [[⟨97, 0⟩, ⟨98, 0⟩], [⟨32, 0⟩, ⟨32, 0⟩]], []⟩ : Grid) (⟨2, 2, 1, 1, false, 0, 0, 1, 0, 0, 0, false, false, [[⟨97, 0⟩, ⟨98, 0⟩], [⟨99, 0⟩, ⟨32, 0⟩]], []⟩ : Grid) 1 99 [] none _ _ 0 _ _ _ aw_3 HW2.out ParOk.nil (IntsAt.nil _) HJ2.out.rows.at_ HJ2.out.back.at_).mono ?_
  rintro e w3 ⟨a3, c3, b3, d3, rfl, HI3, HX3, HW3⟩
  have HBx3 := Aside.mk (HB2.out.ext HX3.out)
  go_wp2_with (first
    | ((refine atStore 31 (.tmp 1) (.tmp 16) rfl ?_; refine wpList_store_box _ rfl 31 (.tmp 1) (.tmp 16) rfl w0.heap.size _ rfl rfl 31 _ HBx3.out size31 rfl rfl ?_; intro v3 hbz hgz; have HB3 := Aside.mk hbz; have HG3 := Aside.mk hgz; clear hgz hbz); have HJ3 := Aside.mk (HI3.out.box HBx3.out HG3.out); obtain ⟨hc3, hf3⟩ := HB3.out.rules; obtain ⟨bR, oR, aA, cA, aB, cB, rfl, hr0, hr1, HC0, HC1⟩ := rows2 HJ3.out.rows.at_)
    | (refine atLoad 31 (.tmp 1) rfl ?_; refine wpList_load_row rfl 31 (.tmp 1) rfl w0.heap.size rfl 31 _ (0, 0) _ HB3.out Try.underlying31 rfl size31 ?_))
  have HP3 : Aside (IntsAt (v3.alloc (.cells #[.int .i64 1] 3)) (.slice (some ⟨v3.heap.size, 0, none⟩) 1 1) [1]) := ⟨Holds.new1 v3 3 (.int .i64 1) rfl⟩
  have HXp := Aside.mk (Ext.alloc1 v3 (.cells #[.int .i64 1] 3))
  refine (Apply_to (⟨2, 2, 1, 1, false, 0, 0, 1, 0, 0, 0, false, false, [[⟨97, 0⟩, ⟨98, 0⟩], [⟨99, 0⟩, ⟨32, 0⟩]], []⟩ : Grid) (⟨2, 2, 1, 1, false, 0, 0, 1, 0, 0, 0, false, false, [[⟨32, 0⟩, ⟨32, 0⟩], [⟨32, 0⟩, ⟨32, 0⟩]], []⟩ : Grid) 4 74 [1] _ _ _ _ _ _ _ aw_4 HW3.out (ParOk.of _ (by decide) (by decide)) HP3.out (HJ3.out.rows.at_.ext HXp.out) (HJ3.out.back.at_.ext HXp.out)).mono ?_
  rintro e w4 ⟨a4, c4, b4, d4, rfl, HI4, HX4, HW4⟩
  have HX34 := Aside.mk (HXp.out.trans HX4.out)
  have HXh := Aside.mk (Ext.alloc1 w4 (.cells #[.int .i64 (⟨2, 2, 1, 1, false, 0, 0, 1, 0, 0, 0, false, false, [[⟨32, 0⟩, ⟨32, 0⟩], [⟨32, 0⟩, ⟨32, 0⟩]], []⟩ : Grid).W, .int .i64 (⟨2, 2, 1, 1, false, 0, 0, 1, 0, 0, 0, false, false, [[⟨32, 0⟩, ⟨32, 0⟩], [⟨32, 0⟩, ⟨32, 0⟩]], []⟩ : Grid).H, .int .i64 (⟨2, 2, 1, 1, false, 0, 0, 1, 0, 0, 0, false, false, [[⟨32, 0⟩, ⟨32, 0⟩], [⟨32, 0⟩, ⟨32, 0⟩]], []⟩ : Grid).X, .int .i64 (⟨2, 2, 1, 1, false, 0, 0, 1, 0, 0, 0, false, false, [[⟨32, 0⟩, ⟨32, 0⟩], [⟨32, 0⟩, ⟨32, 0⟩]], []⟩ : Grid).Y, .bool (⟨2, 2, 1, 1, false, 0, 0, 1, 0, 0, 0, false, false, [[⟨32, 0⟩, ⟨32, 0⟩], [⟨32, 0⟩, ⟨32, 0⟩]], []⟩ : Grid).Wrap, .int .i64 (⟨2, 2, 1, 1, false, 0, 0, 1, 0, 0, 0, false, false, [[⟨32, 0⟩, ⟨32, 0⟩], [⟨32, 0⟩, ⟨32, 0⟩]], []⟩ : Grid).A, .int .i64 (⟨2, 2, 1, 1, false, 0, 0, 1, 0, 0, 0, false, false, [[⟨32, 0⟩, ⟨32, 0⟩], [⟨32, 0⟩, ⟨32, 0⟩]], []⟩ : Grid).Top, .int .i64 (⟨2, 2, 1, 1, false, 0, 0, 1, 0, 0, 0, false, false, [[⟨32, 0⟩, ⟨32, 0⟩], [⟨32, 0⟩, ⟨32, 0⟩]], []⟩ : Grid).Bottom, .int .i64 (⟨2, 2, 1, 1, false, 0, 0, 1, 0, 0, 0, false, false, [[⟨32, 0⟩, ⟨32, 0⟩], [⟨32, 0⟩, ⟨32, 0⟩]], []⟩ : Grid).SX, .int .i64 (⟨2, 2, 1, 1, false, 0, 0, 1, 0, 0, 0, false, false, [[⟨32, 0⟩, ⟨32, 0⟩], [⟨32, 0⟩, ⟨32, 0⟩]], []⟩ : Grid).SY, .int .i64 (⟨2, 2, 1, 1, false, 0, 0, 1, 0, 0, 0, false, false, [[⟨32, 0⟩, ⟨32, 0⟩], [⟨32, 0⟩, ⟨32, 0⟩]], []⟩ : Grid).SA, .bool (⟨2, 2, 1, 1, false, 0, 0, 1, 0, 0, 0, false, false, [[⟨32, 0⟩, ⟨32, 0⟩], [⟨32, 0⟩, ⟨32, 0⟩]], []⟩ : Grid).NoWrap, .bool (⟨2, 2, 1, 1, false, 0, 0, 1, 0, 0, 0, false, false, [[⟨32, 0⟩, ⟨32, 0⟩], [⟨32, 0⟩, ⟨32, 0⟩]], []⟩ : Grid).Hidden, .slice a4 2 c4, .slice b4 0 d4] 31))
  have HB4 := Aside.mk ((HB3.out.ext HX34.out).ext HXh.out)
  have HBh := Aside.mk (Box.new w4 31 #[.int .i64 (⟨2, 2, 1, 1, false, 0, 0, 1, 0, 0, 0, false, false, [[⟨32, 0⟩, ⟨32, 0⟩], [⟨32, 0⟩, ⟨32, 0⟩]], []⟩ : Grid).W, .int .i64 (⟨2, 2, 1, 1, false, 0, 0, 1, 0, 0, 0, false, false, [[⟨32, 0⟩, ⟨32, 0⟩], [⟨32, 0⟩, ⟨32, 0⟩]], []⟩ : Grid).H, .int .i64 (⟨2, 2, 1, 1, false, 0, 0, 1, 0, 0, 0, false, false, [[⟨32, 0⟩, ⟨32, 0⟩], [⟨32, 0⟩, ⟨32, 0⟩]], []⟩ : Grid).X, .int .i64 (⟨2, 2, 1, 1, false, 0, 0, 1, 0, 0, 0, false, false, [[⟨32, 0⟩, ⟨32, 0⟩], [⟨32, 0⟩, ⟨32, 0⟩]], []⟩ : Grid).Y, .bool (⟨2, 2, 1, 1, false, 0, 0, 1, 0, 0, 0, false, false, [[⟨32, 0⟩, ⟨32, 0⟩], [⟨32, 0⟩, ⟨32, 0⟩]], []⟩ : Grid).Wrap, .int .i64 (⟨2, 2, 1, 1, false, 0, 0, 1, 0, 0, 0, false, false, [[⟨32, 0⟩, ⟨32, 0⟩], [⟨32, 0⟩, ⟨32, 0⟩]], []⟩ : Grid).A, .int .i64 (⟨2, 2, 1, 1, false, 0, 0, 1, 0, 0, 0, false, false, [[⟨32, 0⟩, ⟨32, 0⟩], [⟨32, 0⟩, ⟨32, 0⟩]], []⟩ : Grid).Top, .int .i64 (⟨2, 2, 1, 1, false, 0, 0, 1, 0, 0, 0, false, false, [[⟨32, 0⟩, ⟨32, 0⟩], [⟨32, 0⟩, ⟨32, 0⟩]], []⟩ : Grid).Bottom, .int .i64 (⟨2, 2, 1, 1, false, 0, 0, 1, 0, 0, 0, false, false, [[⟨32, 0⟩, ⟨32, 0⟩], [⟨32, 0⟩, ⟨32, 0⟩]], []⟩ : Grid).SX, .int .i64 (⟨2, 2, 1, 1, false, 0, 0, 1, 0, 0, 0, false, false, [[⟨32, 0⟩, ⟨32, 0⟩], [⟨32, 0⟩, ⟨32, 0⟩]], []⟩ : Grid).SY, .int .i64 (⟨2, 2, 1, 1, false, 0, 0, 1, 0, 0, 0, false, false, [[⟨32, 0⟩, ⟨32, 0⟩], [⟨32, 0⟩, ⟨32, 0⟩]], []⟩ : Grid).SA, .bool (⟨2, 2, 1, 1, false, 0, 0, 1, 0, 0, 0, false, false, [[⟨32, 0⟩, ⟨32, 0⟩], [⟨32, 0⟩, ⟨32, 0⟩]], []⟩ : Grid).NoWrap, .bool (⟨2, 2, 1, 1, false, 0, 0, 1, 0, 0, 0, false, false, [[⟨32, 0⟩, ⟨32, 0⟩], [⟨32, 0⟩, ⟨32, 0⟩]], []⟩ : Grid).Hidden, .slice a4 2 c4, .slice b4 0 d4])
  have HJ4 := Aside.mk ((HJ3.out.ext HX34.out).ext HXh.out)
  have HJh := Aside.mk (HI4.out.ext HXh.out)
  go_wp2_with (first
    | (refine atLoad 31 (.tmp 1) rfl ?_; refine wpList_load_row rfl 31 (.tmp 1) rfl w0.heap.size rfl 31 _ (0, 0) _ HB4.out Try.underlying31 rfl size31 ?_))
  refine (Apply_to (⟨2, 2, 1, 1, false, 0, 0, 1, 0, 0, 0, false, false, [[⟨97, 0⟩, ⟨98, 0⟩], [⟨99, 0⟩, ⟨32, 0⟩]], []⟩ : Grid) (⟨2, 2, 1, 1, false, 0, 0, 1, 0, 0, 0, false, false, [[⟨97, 0⟩, ⟨98, 0⟩], [⟨99, 0⟩, ⟨32, 0⟩]], []⟩ : Grid) 4 113 [] none _ _ 0 _ _ _ aw_5 HW3.out ParOk.nil (IntsAt.nil _) HJ4.out.rows.at_ HJ4.out.back.at_).mono ?_
  rintro e w5 ⟨a5, c5, b5, d5, rfl, HI5, HX5, HW5⟩
  have HXk := Aside.mk (HX5.out.trans (Ext.alloc1 w5 (.cells #[.int .i64 (⟨2, 2, 1, 1, false, 0, 0, 1, 0, 0, 0, false, false, [[⟨97, 0⟩, ⟨98, 0⟩], [⟨99, 0⟩, ⟨32, 0⟩]], []⟩ : Grid).W, .int .i64 (⟨2, 2, 1, 1, false, 0, 0, 1, 0, 0, 0, false, false, [[⟨97, 0⟩, ⟨98, 0⟩], [⟨99, 0⟩, ⟨32, 0⟩]], []⟩ : Grid).H, .int .i64 (⟨2, 2, 1, 1, false, 0, 0, 1, 0, 0, 0, false, false, [[⟨97, 0⟩, ⟨98, 0⟩], [⟨99, 0⟩, ⟨32, 0⟩]], []⟩ : Grid).X, .int .i64 (⟨2, 2, 1, 1, false, 0, 0, 1, 0, 0, 0, false, false, [[⟨97, 0⟩, ⟨98, 0⟩], [⟨99, 0⟩, ⟨32, 0⟩]], []⟩ : Grid).Y, .bool (⟨2, 2, 1, 1, false, 0, 0, 1, 0, 0, 0, false, false, [[⟨97, 0⟩, ⟨98, 0⟩], [⟨99, 0⟩, ⟨32, 0⟩]], []⟩ : Grid).Wrap, .int .i64 (⟨2, 2, 1, 1, false, 0, 0, 1, 0, 0, 0, false, false, [[⟨97, 0⟩, ⟨98, 0⟩], [⟨99, 0⟩, ⟨32, 0⟩]], []⟩ : Grid).A, .int .i64 (⟨2, 2, 1, 1, false, 0, 0, 1, 0, 0, 0, false, false, [[⟨97, 0⟩, ⟨98, 0⟩], [⟨99, 0⟩, ⟨32, 0⟩]], []⟩ : Grid).Top, .int .i64 (⟨2, 2, 1, 1, false, 0, 0, 1, 0, 0, 0, false, false, [[⟨97, 0⟩, ⟨98, 0⟩], [⟨99, 0⟩, ⟨32, 0⟩]], []⟩ : Grid).Bottom, .int .i64 (⟨2, 2, 1, 1, false, 0, 0, 1, 0, 0, 0, false, false, [[⟨97, 0⟩, ⟨98, 0⟩], [⟨99, 0⟩, ⟨32, 0⟩]], []⟩ : Grid).SX, .int .i64 (⟨2, 2, 1, 1, false, 0, 0, 1, 0, 0, 0, false, false, [[⟨97, 0⟩, ⟨98, 0⟩], [⟨99, 0⟩, ⟨32, 0⟩]], []⟩ : Grid).SY, .int .i64 (⟨2, 2, 1, 1, false, 0, 0, 1, 0, 0, 0, false, false, [[⟨97, 0⟩, ⟨98, 0⟩], [⟨99, 0⟩, ⟨32, 0⟩]], []⟩ : Grid).SA, .bool (⟨2, 2, 1, 1, false, 0, 0, 1, 0, 0, 0, false, false, [[⟨97, 0⟩, ⟨98, 0⟩], [⟨99, 0⟩, ⟨32, 0⟩]], []⟩ : Grid).NoWrap, .bool (⟨2, 2, 1, 1, false, 0, 0, 1, 0, 0, 0, false, false, [[⟨97, 0⟩, ⟨98, 0⟩], [⟨99, 0⟩, ⟨32, 0⟩]], []⟩ : Grid).Hidden, .slice a5 2 c5, .slice b5 0 d5] 31)))
  have HBk := Aside.mk (Box.new w5 31 #[.int .i64 (⟨2, 2, 1, 1, false, 0, 0, 1, 0, 0, 0, false, false, [[⟨97, 0⟩, ⟨98, 0⟩], [⟨99, 0⟩, ⟨32, 0⟩]], []⟩ : Grid).W, .int .i64 (⟨2, 2, 1, 1, false, 0, 0, 1, 0, 0, 0, false, false, [[⟨97, 0⟩, ⟨98, 0⟩], [⟨99, 0⟩, ⟨32, 0⟩]], []⟩ : Grid).H, .int .i64 (⟨2, 2, 1, 1, false, 0, 0, 1, 0, 0, 0, false, false, [[⟨97, 0⟩, ⟨98, 0⟩], [⟨99, 0⟩, ⟨32, 0⟩]], []⟩ : Grid).X, .int .i64 (⟨2, 2, 1, 1, false, 0, 0, 1, 0, 0, 0, false, false, [[⟨97, 0⟩, ⟨98, 0⟩], [⟨99, 0⟩, ⟨32, 0⟩]], []⟩ : Grid).Y, .bool (⟨2, 2, 1, 1, false, 0, 0, 1, 0, 0, 0, false, false, [[⟨97, 0⟩, ⟨98, 0⟩], [⟨99, 0⟩, ⟨32, 0⟩]], []⟩ : Grid).Wrap, .int .i64 (⟨2, 2, 1, 1, false, 0, 0, 1, 0, 0, 0, false, false, [[⟨97, 0⟩, ⟨98, 0⟩], [⟨99, 0⟩, ⟨32, 0⟩]], []⟩ : Grid).A, .int .i64 (⟨2, 2, 1, 1, false, 0, 0, 1, 0, 0, 0, false, false, [[⟨97, 0⟩, ⟨98, 0⟩], [⟨99, 0⟩, ⟨32, 0⟩]], []⟩ : Grid).Top, .int .i64 (⟨2, 2, 1, 1, false, 0, 0, 1, 0, 0, 0, false, false, [[⟨97, 0⟩, ⟨98, 0⟩], [⟨99, 0⟩, ⟨32, 0⟩]], []⟩ : Grid).Bottom, .int .i64 (⟨2, 2, 1, 1, false, 0, 0, 1, 0, 0, 0, false, false, [[⟨97, 0⟩, ⟨98, 0⟩], [⟨99, 0⟩, ⟨32, 0⟩]], []⟩ : Grid).SX, .int .i64 (⟨2, 2, 1, 1, false, 0, 0, 1, 0, 0, 0, false, false, [[⟨97, 0⟩, ⟨98, 0⟩], [⟨99, 0⟩, ⟨32, 0⟩]], []⟩ : Grid).SY, .int .i64 (⟨2, 2, 1, 1, false, 0, 0, 1, 0, 0, 0, false, false, [[⟨97, 0⟩, ⟨98, 0⟩], [⟨99, 0⟩, ⟨32, 0⟩]], []⟩ : Grid).SA, .bool (⟨2, 2, 1, 1, false, 0, 0, 1, 0, 0, 0, false, false, [[⟨97, 0⟩, ⟨98, 0⟩], [⟨99, 0⟩, ⟨32, 0⟩]], []⟩ : Grid).NoWrap, .bool (⟨2, 2, 1, 1, false, 0, 0, 1, 0, 0, 0, false, false, [[⟨97, 0⟩, ⟨98, 0⟩], [⟨99, 0⟩, ⟨32, 0⟩]], []⟩ : Grid).Hidden, .slice a5 2 c5, .slice b5 0 d5])
  have HB5 := Aside.mk (HB4.out.ext HXk.out)
  have HBh5 := Aside.mk (HBh.out.ext HXk.out)
  have HJ5 := Aside.mk (HJ4.out.ext HXk.out)
  have HJk := Aside.mk (HI5.out.ext (Ext.alloc1 w5 (.cells #[.int .i64 (⟨2, 2, 1, 1, false, 0, 0, 1, 0, 0, 0, false, false, [[⟨97, 0⟩, ⟨98, 0⟩], [⟨99, 0⟩, ⟨32, 0⟩]], []⟩ : Grid).W, .int .i64 (⟨2, 2, 1, 1, false, 0, 0, 1, 0, 0, 0, false, false, [[⟨97, 0⟩, ⟨98, 0⟩], [⟨99, 0⟩, ⟨32, 0⟩]], []⟩ : Grid).H, .int .i64 (⟨2, 2, 1, 1, false, 0, 0, 1, 0, 0, 0, false, false, [[⟨97, 0⟩, ⟨98, 0⟩], [⟨99, 0⟩, ⟨32, 0⟩]], []⟩ : Grid).X, .int .i64 (⟨2, 2, 1, 1, false, 0, 0, 1, 0, 0, 0, false, false, [[⟨97, 0⟩, ⟨98, 0⟩], [⟨99, 0⟩, ⟨32, 0⟩]], []⟩ : Grid).Y, .bool (⟨2, 2, 1, 1, false, 0, 0, 1, 0, 0, 0, false, false, [[⟨97, 0⟩, ⟨98, 0⟩], [⟨99, 0⟩, ⟨32, 0⟩]], []⟩ : Grid).Wrap, .int .i64 (⟨2, 2, 1, 1, false, 0, 0, 1, 0, 0, 0, false, false, [[⟨97, 0⟩, ⟨98, 0⟩], [⟨99, 0⟩, ⟨32, 0⟩]], []⟩ : Grid).A, .int .i64 (⟨2, 2, 1, 1, false, 0, 0, 1, 0, 0, 0, false, false, [[⟨97, 0⟩, ⟨98, 0⟩], [⟨99, 0⟩, ⟨32, 0⟩]], []⟩ : Grid).Top, .int .i64 (⟨2, 2, 1, 1, false, 0, 0, 1, 0, 0, 0, false, false, [[⟨97, 0⟩, ⟨98, 0⟩], [⟨99, 0⟩, ⟨32, 0⟩]], []⟩ : Grid).Bottom, .int .i64 (⟨2, 2, 1, 1, false, 0, 0, 1, 0, 0, 0, false, false, [[⟨97, 0⟩, ⟨98, 0⟩], [⟨99, 0⟩, ⟨32, 0⟩]], []⟩ : Grid).SX, .int .i64 (⟨2, 2, 1, 1, false, 0, 0, 1, 0, 0, 0, false, false, [[⟨97, 0⟩, ⟨98, 0⟩], [⟨99, 0⟩, ⟨32, 0⟩]], []⟩ : Grid).SY, .int .i64 (⟨2, 2, 1, 1, false, 0, 0, 1, 0, 0, 0, false, false, [[⟨97, 0⟩, ⟨98, 0⟩], [⟨99, 0⟩, ⟨32, 0⟩]], []⟩ : Grid).SA, .bool (⟨2, 2, 1, 1, false, 0, 0, 1, 0, 0, 0, false, false, [[⟨97, 0⟩, ⟨98, 0⟩], [⟨99, 0⟩, ⟨32, 0⟩]], []⟩ : Grid).NoWrap, .bool (⟨2, 2, 1, 1, false, 0, 0, 1, 0, 0, 0, false, false, [[⟨97, 0⟩, ⟨98, 0⟩], [⟨99, 0⟩, ⟨32, 0⟩]], []⟩ : Grid).Hidden, .slice a5 2 c5, .slice b5 0 d5] 31)))
  have HJh5 := Aside.mk (HJh.out.ext HXk.out)
  have HXA := Aside.mk ((HX34.out.trans HXh.out).trans HXk.out)
  have hr0' := HXA.out.cell hr0
  have hr1' := HXA.out.cell hr1
  obtain ⟨bA, oA, rfl, hq0, hq1⟩ := cells2 (HC0.out.ext HXA.out)
  obtain ⟨bB, oB, rfl, hq2, hq3⟩ := cells2 (HC1.out.ext HXA.out)
  obtain ⟨bH, oH, aC, cC, aD, cD, rfl, hh0, hh1, HC2, HC3⟩ := rows2 HJh5.out.rows.at_
  obtain ⟨bC, oC, rfl, hq4, hq5⟩ := cells2 HC2.out
  clear hc1 hc2 hc3 hf1 hf2 hf3 hr0 hr1
  obtain ⟨hc5, hf5⟩ := HB5.out.rules
  obtain ⟨hc6, hf6⟩ := HBh5.out.rules
  obtain ⟨hc7, hf7⟩ := HBk.out.rules
  go_wp2_with (fail)
  refine (Same_true (⟨2, 2, 1, 1, false, 0, 0, 1, 0, 0, 0, false, false, [[⟨97, 0⟩, ⟨98, 0⟩], [⟨99, 0⟩, ⟨32, 0⟩]], []⟩ : Grid) _ _ _ _ _ _ _ _ _ HJk.out.rows.at_ HJk.out.back.at_ HJ5.out.rows.at_ HJ5.out.back.at_ HW3.out.small HW3.out.smallB).mono ?_
  rintro e w6 ⟨rfl, he6⟩
  have HE6 := Aside.mk he6
  clear he6
  go_wp2
  go_ret
  have x0 : Ext w (w0.alloc (.cells #[.int .i64 (⟨2, 2, 0, 0, false, 0, 0, 1, 0, 0, 0, false, false, [[⟨32, 0⟩, ⟨32, 0⟩], [⟨32, 0⟩, ⟨32, 0⟩]], []⟩ : Grid).W, .int .i64 (⟨2, 2, 0, 0, false, 0, 0, 1, 0, 0, 0, false, false, [[⟨32, 0⟩, ⟨32, 0⟩], [⟨32, 0⟩, ⟨32, 0⟩]], []⟩ : Grid).H, .int .i64 (⟨2, 2, 0, 0, false, 0, 0, 1, 0, 0, 0, false, false, [[⟨32, 0⟩, ⟨32, 0⟩], [⟨32, 0⟩, ⟨32, 0⟩]], []⟩ : Grid).X, .int .i64 (⟨2, 2, 0, 0, false, 0, 0, 1, 0, 0, 0, false, false, [[⟨32, 0⟩, ⟨32, 0⟩], [⟨32, 0⟩, ⟨32, 0⟩]], []⟩ : Grid).Y, .bool (⟨2, 2, 0, 0, false, 0, 0, 1, 0, 0, 0, false, false, [[⟨32, 0⟩, ⟨32, 0⟩], [⟨32, 0⟩, ⟨32, 0⟩]], []⟩ : Grid).Wrap, .int .i64 (⟨2, 2, 0, 0, false, 0, 0, 1, 0, 0, 0, false, false, [[⟨32, 0⟩, ⟨32, 0⟩], [⟨32, 0⟩, ⟨32, 0⟩]], []⟩ : Grid).A, .int .i64 (⟨2, 2, 0, 0, false, 0, 0, 1, 0, 0, 0, false, false, [[⟨32, 0⟩, ⟨32, 0⟩], [⟨32, 0⟩, ⟨32, 0⟩]], []⟩ : Grid).Top, .int .i64 (⟨2, 2, 0, 0, false, 0, 0, 1, 0, 0, 0, false, false, [[⟨32, 0⟩, ⟨32, 0⟩], [⟨32, 0⟩, ⟨32, 0⟩]], []⟩ : Grid).Bottom, .int .i64 (⟨2, 2, 0, 0, false, 0, 0, 1, 0, 0, 0, false, false, [[⟨32, 0⟩, ⟨32, 0⟩], [⟨32, 0⟩, ⟨32, 0⟩]], []⟩ : Grid).SX, .int .i64 (⟨2, 2, 0, 0, false, 0, 0, 1, 0, 0, 0, false, false, [[⟨32, 0⟩, ⟨32, 0⟩], [⟨32, 0⟩, ⟨32, 0⟩]], []⟩ : Grid).SY, .int .i64 (⟨2, 2, 0, 0, false, 0, 0, 1, 0, 0, 0, false, false, [[⟨32, 0⟩, ⟨32, 0⟩], [⟨32, 0⟩, ⟨32, 0⟩]], []⟩ : Grid).SA, .bool (⟨2, 2, 0, 0, false, 0, 0, 1, 0, 0, 0, false, false, [[⟨32, 0⟩, ⟨32, 0⟩], [⟨32, 0⟩, ⟨32, 0⟩]], []⟩ : Grid).NoWrap, .bool (⟨2, 2, 0, 0, false, 0, 0, 1, 0, 0, 0, false, false, [[⟨32, 0⟩, ⟨32, 0⟩], [⟨32, 0⟩, ⟨32, 0⟩]], []⟩ : Grid).Hidden, .slice a0 2 c0, .slice b0 0 d0] 31)) := HX0.out.alloc _
  have hb : ∀ k, some w0.heap.size = some k → w.heap.size ≤ k := by intro k hk; cases hk; exact HX0.out.size
  have x1 := (x0.trans HX1.out).of_grown HG1.out hb
  have x2 := (x1.trans HX2.out).of_grown HG2.out hb
  have x3 := (x2.trans HX3.out).of_grown HG3.out hb
  exact ⟨rfl, (x3.trans HXA.out).trans HE6.out⟩
end Go.Proofs.Ytmehkikkjebnnaa
