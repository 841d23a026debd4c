/-
  Walks: grid.Still, grid.part, slices.Clone over rows, slices.Grow, slices.Concat.
-/
import Derived.Test.YtmehkikkjebnnaaGridA
set_option linter.unusedVariables false
set_option linter.unusedSimpArgs false
namespace Go.Proofs.Ytmehkikkjebnnaa
open Go.RowKit
attribute [local go_sem] max2_i min2_i max_two min_two
attribute [local go_sem ↓] Go.wp_at_zero Go.wp_at_succ

set_option maxRecDepth 100000 in
set_option maxHeartbeats 1000000 in
theorem Still_any (g : Grid) (ar ab : Option Addr) (cr cb : Nat) (w : World) (hr : RowsAt w (.slice ar g.Rows.length cr) g.Rows) (hb : RowsAt w (.slice ab g.Back.length cb) g.Back) (hsr : Small g.Rows) (hsb : Small g.Back) :
    Calls Try.prog 33 #[.agg #[.int .i64 g.W, .int .i64 g.H, .int .i64 g.X, .int .i64 g.Y, .bool g.Wrap, .int .i64 g.A, .int .i64 g.Top, .int .i64 g.Bottom, .int .i64 g.SX, .int .i64 g.SY, .int .i64 g.SA, .bool g.NoWrap, .bool g.Hidden, .slice ar g.Rows.length cr, .slice ab g.Back.length cb]] w (PassG w.heap.size w g) := by
  have HR := Aside.mk hr
  have HB := Aside.mk hb
  clear hr hb
  have HA := Aside.mk ((Box.new w 31 #[.int .i64 g.W, .int .i64 g.H, .int .i64 g.X, .int .i64 g.Y, .bool g.Wrap, .int .i64 g.A, .int .i64 g.Top, .int .i64 g.Bottom, .int .i64 g.SX, .int .i64 g.SY, .int .i64 g.SA, .bool g.NoWrap, .bool g.Hidden, .slice ar g.Rows.length cr, .slice ab g.Back.length cb]).alloc (.cells #[.int .i64 0, .int .i64 0, .int .i64 0, .int .i64 0, .bool false, .int .i64 0, .int .i64 0, .int .i64 0, .int .i64 0, .int .i64 0, .int .i64 0, .bool false, .bool false, .slice none 0 0, .slice none 0 0] 31))
  have HZ := Aside.mk (Box.newAt (w.alloc (.cells #[.int .i64 g.W, .int .i64 g.H, .int .i64 g.X, .int .i64 g.Y, .bool g.Wrap, .int .i64 g.A, .int .i64 g.Top, .int .i64 g.Bottom, .int .i64 g.SX, .int .i64 g.SY, .int .i64 g.SA, .bool g.NoWrap, .bool g.Hidden, .slice ar g.Rows.length cr, .slice ab g.Back.length cb] 31)) 31 #[.int .i64 0, .int .i64 0, .int .i64 0, .int .i64 0, .bool false, .int .i64 0, .int .i64 0, .int .i64 0, .int .i64 0, .int .i64 0, .int .i64 0, .bool false, .bool false, .slice none 0 0, .slice none 0 0] (w.heap.size + 1) (by simp))
  have HW := Aside.mk ((Ext.alloc1 w (.cells #[.int .i64 g.W, .int .i64 g.H, .int .i64 g.X, .int .i64 g.Y, .bool g.Wrap, .int .i64 g.A, .int .i64 g.Top, .int .i64 g.Bottom, .int .i64 g.SX, .int .i64 g.SY, .int .i64 g.SA, .bool g.NoWrap, .bool g.Hidden, .slice ar g.Rows.length cr, .slice ab g.Back.length cb] 31)).alloc (.cells #[.int .i64 0, .int .i64 0, .int .i64 0, .int .i64 0, .bool false, .int .i64 0, .int .i64 0, .int .i64 0, .int .i64 0, .int .i64 0, .int .i64 0, .bool false, .bool false, .slice none 0 0, .slice none 0 0] 31))
  go_enter Try.func33, Try.ntmps33
  go_wp2
  go_region_with (first | (go_at_call_of 54 (Value.slice ar g.Rows.length cr); refine (all_rows _ g.Rows _ ?_ hsr).mono ?_; exact HR.out.ext HW.out.drew; rintro e w1 ⟨au, cu, rfl, hu, he1⟩; have HU := Aside.mk hu; have HE1 := Aside.mk he1; have HA1 := Aside.mk (HA.out.drew.ext he1); have HZ1 := Aside.mk (HZ.out.drew.ext he1); have HW1 := Aside.mk (HW.out.drew.trans he1); obtain ⟨hc1, hf1⟩ := HA1.out.rules; clear hu he1)
                        | (go_at_call_of 54 (Value.slice ab g.Back.length cb); refine (all_rows _ g.Back _ ?_ hsb).mono ?_; exact HB.out.ext HW1.out; rintro e w2 ⟨bu, du, rfl, hu2, he2⟩; have HU2 := Aside.mk hu2; have HE2 := Aside.mk he2; have HA2 := Aside.mk (HA1.out.ext he2); have HZ2 := Aside.mk (HZ1.out.ext he2); have HW2 := Aside.mk (HW1.out.trans he2); clear hc1 hf1; obtain ⟨hc2, hf2⟩ := HA2.out.rules; clear hu2 he2))
  all_goals
    have HS1 := Aside.mk (HA2.out.set 13 (.slice au g.Rows.length cu))
    have HS2 := Aside.mk (HS1.out.1.set 14 (.slice bu g.Back.length du))
    have HA3 : Aside (Box _ w.heap.size 31 #[.int .i64 g.W, .int .i64 g.H, .int .i64 g.X, .int .i64 g.Y, .bool g.Wrap, .int .i64 g.A, .int .i64 g.Top, .int .i64 g.Bottom, .int .i64 g.SX, .int .i64 g.SY, .int .i64 g.SA, .bool g.NoWrap, .bool g.Hidden, .slice au g.Rows.length cu, .slice bu g.Back.length du]) := ⟨HS2.out.1⟩
    have HZ3 := Aside.mk ((HZ2.out.grown HS1.out.2 (by simp)).grown HS2.out.2 (by simp))
    clear hc2 hf2
    go_wp2_with (first
      | (refine atLoad 31 (.tmp 1) rfl ?_; refine wpList_load_row rfl 31 (.tmp 1) rfl w.heap.size rfl 31 _ (0, 0) _ HA3.out Try.underlying31 rfl size31 ?_)
      | (refine atStore 31 (.tmp 2) (.tmp 11) rfl ?_; refine wpList_store_box _ rfl 31 (.tmp 2) (.tmp 11) rfl (w.heap.size + 1) _ rfl rfl 31 _ HZ3.out size31 rfl rfl ?_; intro w4 hb4 hg4; have HB4 := Aside.mk hb4; have HG4 := Aside.mk hg4; clear hg4 hb4))
    refine bodyPost_ret (results_cell_row Try.results33 _ _ (w.heap.size + 1) 31 _ (0, 0) _ rfl HB4.out Try.underlying31 rfl size31) rfl ?_
    have hbz : w.heap.size + 2 ≤ w1.heap.size := by have := HE1.out.size; simp at this; omega
    have hk1 := (((HU.out.mono (base' := w.heap.size + 2) (by simp)).ext HE2.out).keep HS1.out.2 (by intro j hj hk; omega)).keep HS2.out.2 (by intro j hj hk; omega)
    have hk2 := ((HU2.out.mono hbz).keep HS1.out.2 (by intro j hj hk; omega)).keep HS2.out.2 (by intro j hj hk; omega)
    refine PassG.mk' g (OwnR.mono (base := w.heap.size + 2) (hk1.keep HG4.out (by intro j hj hk; omega)) (by omega)) (OwnR.mono (base := w.heap.size + 2) (hk2.keep HG4.out (by intro j hj hk; omega)) (by omega)) ?_ ?_
    · intro k hk hk'
      obtain ⟨vs, hv, _⟩ := HU.out.ex
      obtain ⟨vs', hv', _⟩ := HU2.out.ex
      have h1 := own_lt hv k hk
      have h2 := own_base hv' k hk'
      omega
    · exact ((HW2.out.of_grown HS1.out.2 (by intro k hk; cases hk; exact Nat.le_refl _)).of_grown HS2.out.2 (by intro k hk; cases hk; exact Nat.le_refl _)).of_grown HG4.out (by intro k hk; cases hk; omega)

theorem results_tmp4 {fn : Func} {t u v x : Tmp} (h : fn.results = #[.tmp t, .tmp u, .tmp v, .tmp x]) (tmps : Array Value) (P : Program) (w : World) :
    (results fn tmps).run P w = .ok (.tuple #[tmps.getD t undef, tmps.getD u undef, tmps.getD v undef, tmps.getD x undef]) w := by
  simp [results, h]

set_option maxRecDepth 100000 in
theorem part_any (g : Grid) (ar : Option Addr) (cr : Nat) (bv : Value) (top bottom n : Int) (w : World) (hW : 0 ≤ g.W ∧ g.W ≤ 1000000) (hH : 0 ≤ g.H ∧ g.H ≤ 1000000) (hl : g.Rows.length ≤ 1000000) :
    Calls Try.prog 114 #[.agg #[.int .i64 g.W, .int .i64 g.H, .int .i64 g.X, .int .i64 g.Y, .bool g.Wrap, .int .i64 g.A, .int .i64 g.Top, .int .i64 g.Bottom, .int .i64 g.SX, .int .i64 g.SY, .int .i64 g.SA, .bool g.NoWrap, .bool g.Hidden, .slice ar g.Rows.length cr, bv], .int .i64 top, .int .i64 bottom, .int .i64 n] w fun e w' =>
      e = .returned (.tuple #[.int .i64 (min (max top 0) (max (g.H - 1) 0)), .int .i64 (min (max bottom 0) (max (g.H - 1) 0)), .int .i64 (min (max n 0) (min (max bottom 0) (max (g.H - 1) 0) - min (max top 0) (max (g.H - 1) 0) + 1)),
        .bool (decide (min (max top 0) (max (g.H - 1) 0) ≤ min (max bottom 0) (max (g.H - 1) 0)) && decide (min (max bottom 0) (max (g.H - 1) 0) < g.Rows.length))]) ∧ Ext w w' := by
  obtain ⟨hH0, hH1⟩ := hH
  obtain ⟨T, hT⟩ : ∃ T, T = min (max top 0) (max (g.H - 1) 0) := ⟨_, rfl⟩
  obtain ⟨B, hB⟩ : ∃ B, B = min (max bottom 0) (max (g.H - 1) 0) := ⟨_, rfl⟩
  have hT0 : 0 ≤ T := by omega
  have hT1 : T ≤ 1000000 := by omega
  have hB0 : 0 ≤ B := by omega
  have hB1 : B ≤ 1000000 := by omega
  rw [← hT, ← hB]
  have HT := Aside.mk hT
  have HB := Aside.mk hB
  clear hT hB
  have e1 : IntKind.i64.wrap (B - T) = B - T := IntWalk.i64_in _ (by omega)
  have e2 : IntKind.i64.wrap (B - T + 1) = B - T + 1 := IntWalk.i64_in _ (by omega)
  have HA := Aside.mk (Box.new w 31 #[.int .i64 g.W, .int .i64 g.H, .int .i64 g.X, .int .i64 g.Y, .bool g.Wrap, .int .i64 g.A, .int .i64 g.Top, .int .i64 g.Bottom, .int .i64 g.SX, .int .i64 g.SY, .int .i64 g.SA, .bool g.NoWrap, .bool g.Hidden, .slice ar g.Rows.length cr, bv])
  rcases Bool.eq_false_or_eq_true (decide (T ≤ B)) with hd | hd
  all_goals
    go_enter Try.func114, Try.ntmps114
    go_wp2_with (first
      | (refine atLoad 31 (.tmp 4) rfl ?_; refine wpList_load_row rfl 31 (.tmp 4) rfl w.heap.size rfl 31 #[.int .i64 g.W, .int .i64 g.H, .int .i64 g.X, .int .i64 g.Y, .bool g.Wrap, .int .i64 g.A, .int .i64 g.Top, .int .i64 g.Bottom, .int .i64 g.SX, .int .i64 g.SY, .int .i64 g.SA, .bool g.NoWrap, .bool g.Hidden, .slice ar g.Rows.length cr, bv] (0, 0) _ HA.out Try.underlying31 rfl size31 ?_)
      | (refine atLoad 31 (.tmp 4) rfl ?_; refine wpList_load_row rfl 31 (.tmp 4) rfl w.heap.size rfl 31 #[.int .i64 g.W, .int .i64 g.H, .int .i64 g.X, .int .i64 g.Y, .bool g.Wrap, .int .i64 g.A, .int .i64 g.Top, .int .i64 g.Bottom, .int .i64 g.SX, .int .i64 g.SY, .int .i64 g.SA, .bool g.NoWrap, .bool g.Hidden, .slice ar g.Rows.length cr, bv] (0, 0) _ HA1.out Try.underlying31 rfl size31 ?_)
      | (go_at_call_of 105 (Value.int .i64 top); refine (Held_eq g _ _ _ _ _ T _ hW ⟨hH0, hH1⟩ rfl HT.out).mono ?_; rintro e w1 ⟨rfl, he1⟩; have HE1 := Aside.mk he1; have HA1 := Aside.mk (HA.out.ext he1); clear he1)
      | (go_at_call_of 105 (Value.int .i64 bottom); refine (Held_eq g _ _ _ _ _ B _ hW ⟨hH0, hH1⟩ rfl HB.out).mono ?_; rintro e w2 ⟨rfl, he2⟩; have HE2 := Aside.mk he2; have HA2 := Aside.mk (HA1.out.ext he2); obtain ⟨hc2, hf2⟩ := HA2.out.rules; clear he2))
    go_quiet (fail)
    go_wp2
    (try simp only [Exit.inBlock, Exit.then])
    refine bodyPost_ret (results_tmp4 rfl _ _ _) rfl ?_
    simp only [hd]
    exact ⟨rfl, (((Ext.alloc1 _ _).trans HE1.out).trans HE2.out).drewN _⟩
end Go.Proofs.Ytmehkikkjebnnaa
