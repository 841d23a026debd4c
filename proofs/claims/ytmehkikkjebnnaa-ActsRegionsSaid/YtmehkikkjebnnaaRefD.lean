/-
  Walks: polyptychref4.Same, two screens that read alike.
-/
import Derived.Test.YtmehkikkjebnnaaRefC
set_option linter.unusedVariables false
set_option linter.unusedSimpArgs false
namespace Go.Proofs.Ytmehkikkjebnnaa
open Go.RowKit
attribute [local go_sem] max2_i min2_i max_two min_two
attribute [local go_sem ↓] Go.wp_at_zero Go.wp_at_succ

set_option maxRecDepth 100000 in
set_option maxHeartbeats 2000000 in
theorem Same_true (g : Grid) (ar ab br bb : Option Addr) (cr cb dr db : Nat) (w : World) (h1 : RowsAt w (.slice ar g.Rows.length cr) g.Rows) (h2 : RowsAt w (.slice ab g.Back.length cb) g.Back) (h3 : RowsAt w (.slice br g.Rows.length dr) g.Rows) (h4 : RowsAt w (.slice bb g.Back.length db) g.Back) (hs : Small g.Rows) (hb : Small g.Back) :
    Calls Try.prog 23 #[.agg #[.int .i64 g.W, .int .i64 g.H, .int .i64 g.X, .int .i64 g.Y, .bool g.Wrap, .int .i64 g.A, .int .i64 g.Top, .int .i64 g.Bottom, .int .i64 g.SX, .int .i64 g.SY, .int .i64 g.SA, .bool g.NoWrap, .bool g.Hidden, .slice ar g.Rows.length cr, .slice ab g.Back.length cb], .agg #[.int .i64 g.W, .int .i64 g.H, .int .i64 g.X, .int .i64 g.Y, .bool g.Wrap, .int .i64 g.A, .int .i64 g.Top, .int .i64 g.Bottom, .int .i64 g.SX, .int .i64 g.SY, .int .i64 g.SA, .bool g.NoWrap, .bool g.Hidden, .slice br g.Rows.length dr, .slice bb g.Back.length db]] w fun e w' => e = .returned (.bool true) ∧ Ext w w' := by
  have H1 := Aside.mk h1
  have H2 := Aside.mk h2
  have H3 := Aside.mk h3
  have H4 := Aside.mk h4
  clear h1 h2 h3 h4
  go_enter Try.func23, Try.ntmps23
  go_wp2_with (first
    | (go_at_call_of 17 (Value.slice ar g.Rows.length cr); refine (SameRows_true _ _ _ _ _ _ (H1.out.ext ?_) (H3.out.ext ?_) hs).mono ?_; rotate_left 2; rintro e w1 ⟨rfl, n1, rfl⟩)
    | (go_at_call_of 17 (Value.slice ab g.Back.length cb); refine (SameRows_true _ _ _ _ _ _ (H2.out.ext ?_) (H4.out.ext ?_) hb).mono ?_; rotate_left 2; rintro e w2 ⟨rfl, n2, rfl⟩))
  · go_ret
    exact ⟨rfl, by repeat (first | exact Ext.refl _ | apply Ext.drewN | apply Ext.alloc)⟩
  all_goals (repeat (first | exact Ext.refl _ | apply Ext.drewN | apply Ext.alloc))
end Go.Proofs.Ytmehkikkjebnnaa
