/-
  Walks: acts.between.
-/
import Derived.Test.YtmehkikkjebnnaaActH
set_option linter.unusedVariables false
set_option linter.unusedSimpArgs false
namespace Go.Proofs.Ytmehkikkjebnnaa
open Go.RowKit
attribute [local go_sem] max2_i min2_i max_two min_two
attribute [local go_sem ↓] Go.wp_at_zero Go.wp_at_succ

theorem Up_eq (g h : Grid) (ar ab : Option Addr) (cr cb : Nat) (top bottom n : Int) (w : World) (hh : h = upG g top bottom n) (hr : RowsAt w (.slice ar g.Rows.length cr) g.Rows) (hb : RowsAt w (.slice ab g.Back.length cb) g.Back) (hsr : Small g.Rows) (hsb : Small g.Back)
    (hW : 0 ≤ g.W ∧ g.W ≤ 1000000) (hH : 0 ≤ g.H ∧ g.H ≤ 1000000) :
    Calls Try.prog 71 #[.agg #[.int .i64 g.W, .int .i64 g.H, .int .i64 g.X, .int .i64 g.Y, .bool g.Wrap, .int .i64 g.A, .int .i64 g.Top, .int .i64 g.Bottom, .int .i64 g.SX, .int .i64 g.SY, .int .i64 g.SA, .bool g.NoWrap, .bool g.Hidden, .slice ar g.Rows.length cr, .slice ab g.Back.length cb], .int .i64 top, .int .i64 bottom, .int .i64 n] w (PassG w.heap.size w h) := hh ▸ Up_any g ar ab cr cb top bottom n w hr hb hsr hsb hW hH
theorem Down_eq (g h : Grid) (ar ab : Option Addr) (cr cb : Nat) (top bottom n : Int) (w : World) (hh : h = downG g top bottom n) (hr : RowsAt w (.slice ar g.Rows.length cr) g.Rows) (hb : RowsAt w (.slice ab g.Back.length cb) g.Back) (hsr : Small g.Rows) (hsb : Small g.Back)
    (hW : 0 ≤ g.W ∧ g.W ≤ 1000000) (hH : 0 ≤ g.H ∧ g.H ≤ 1000000) :
    Calls Try.prog 72 #[.agg #[.int .i64 g.W, .int .i64 g.H, .int .i64 g.X, .int .i64 g.Y, .bool g.Wrap, .int .i64 g.A, .int .i64 g.Top, .int .i64 g.Bottom, .int .i64 g.SX, .int .i64 g.SY, .int .i64 g.SA, .bool g.NoWrap, .bool g.Hidden, .slice ar g.Rows.length cr, .slice ab g.Back.length cb], .int .i64 top, .int .i64 bottom, .int .i64 n] w (PassG w.heap.size w h) := hh ▸ Down_any g ar ab cr cb top bottom n w hr hb hsr hsb hW hH

def betweenG (g : Grid) (r : Int) (l : List Int) : Grid :=
  if g.Y < g.Top ∨ g.Y > g.Bottom then g
  else
    let n := parOf l 0 1
    let h := if r = 76 then downG g g.Y g.Bottom n else upG g g.Y g.Bottom n
    moveG { h with Back := g.Back } 0 h.Y

set_option maxRecDepth 100000 in
set_option maxHeartbeats 2000000 in
theorem between_any (g : Grid) (k r : Int) (l : List Int) (ap ar ab : Option Addr) (cp cr cb base : Nat) (w : World) (hg : WFG g) (hpar : ParOk l) (hla : IntsAt w (.slice ap l.length cp) l) (hin : InG w base g ar cr ab cb) (hbase : base ≤ w.heap.size) :
    Calls Try.prog 64 #[.agg #[.int .i64 g.W, .int .i64 g.H, .int .i64 g.X, .int .i64 g.Y, .bool g.Wrap, .int .i64 g.A, .int .i64 g.Top, .int .i64 g.Bottom, .int .i64 g.SX, .int .i64 g.SY, .int .i64 g.SA, .bool g.NoWrap, .bool g.Hidden, .slice ar g.Rows.length cr, .slice ab g.Back.length cb], .agg #[.int .i64 k, .int .i32 r, .slice ap l.length cp]] w (PassA base w none (betweenG g r l)) := by
  have HIN := Aside.mk hin
  have HL := Aside.mk hla
  have hl := hpar.1
  clear hla hin
  have HA := Aside.mk (((Box.new w 31 #[.int .i64 g.W, .int .i64 g.H, .int .i64 g.X, .int .i64 g.Y, .bool g.Wrap, .int .i64 g.A, .int .i64 g.Top, .int .i64 g.Bottom, .int .i64 g.SX, .int .i64 g.SY, .int .i64 g.SA, .bool g.NoWrap, .bool g.Hidden, .slice ar g.Rows.length cr, .slice ab g.Back.length cb]).alloc (.cells #[.int .i64 k, .int .i32 r, .slice ap l.length cp] 35)).alloc (.cells #[.int .i64 0, .int .i64 0, .int .i64 0, .int .i64 0, .bool false, .int .i64 0, .int .i64 0, .int .i64 0, .int .i64 0, .int .i64 0, .int .i64 0, .bool false, .bool false, .slice none 0 0, .slice none 0 0] 31))
  have HR := Aside.mk ((Box.newAt (w.alloc (.cells #[.int .i64 g.W, .int .i64 g.H, .int .i64 g.X, .int .i64 g.Y, .bool g.Wrap, .int .i64 g.A, .int .i64 g.Top, .int .i64 g.Bottom, .int .i64 g.SX, .int .i64 g.SY, .int .i64 g.SA, .bool g.NoWrap, .bool g.Hidden, .slice ar g.Rows.length cr, .slice ab g.Back.length cb] 31)) 35 #[.int .i64 k, .int .i32 r, .slice ap l.length cp] (w.heap.size + 1) (by simp)).alloc (.cells #[.int .i64 0, .int .i64 0, .int .i64 0, .int .i64 0, .bool false, .int .i64 0, .int .i64 0, .int .i64 0, .int .i64 0, .int .i64 0, .int .i64 0, .bool false, .bool false, .slice none 0 0, .slice none 0 0] 31))
  have HZ := Aside.mk (Box.newAt ((w.alloc (.cells #[.int .i64 g.W, .int .i64 g.H, .int .i64 g.X, .int .i64 g.Y, .bool g.Wrap, .int .i64 g.A, .int .i64 g.Top, .int .i64 g.Bottom, .int .i64 g.SX, .int .i64 g.SY, .int .i64 g.SA, .bool g.NoWrap, .bool g.Hidden, .slice ar g.Rows.length cr, .slice ab g.Back.length cb] 31)).alloc (.cells #[.int .i64 k, .int .i32 r, .slice ap l.length cp] 35)) 31 #[.int .i64 0, .int .i64 0, .int .i64 0, .int .i64 0, .bool false, .int .i64 0, .int .i64 0, .int .i64 0, .int .i64 0, .int .i64 0, .int .i64 0, .bool false, .bool false, .slice none 0 0, .slice none 0 0] (w.heap.size + 2) (by simp))
  have HW := Aside.mk (((Ext.alloc1 w (.cells #[.int .i64 g.W, .int .i64 g.H, .int .i64 g.X, .int .i64 g.Y, .bool g.Wrap, .int .i64 g.A, .int .i64 g.Top, .int .i64 g.Bottom, .int .i64 g.SX, .int .i64 g.SY, .int .i64 g.SA, .bool g.NoWrap, .bool g.Hidden, .slice ar g.Rows.length cr, .slice ab g.Back.length cb] 31)).alloc (.cells #[.int .i64 k, .int .i32 r, .slice ap l.length cp] 35)).alloc (.cells #[.int .i64 0, .int .i64 0, .int .i64 0, .int .i64 0, .bool false, .int .i64 0, .int .i64 0, .int .i64 0, .int .i64 0, .int .i64 0, .int .i64 0, .bool false, .bool false, .slice none 0 0, .slice none 0 0] 31))
  obtain ⟨N, hN⟩ : ∃ N, N = parOf l 0 1 := ⟨_, rfl⟩
  have HN := Aside.mk hN
  by_cases hc : g.Y < g.Top ∨ g.Y > g.Bottom
  · rw [show betweenG g r l = g from by unfold betweenG; rw [if_pos hc]]
    clear hN
    rcases Bool.eq_false_or_eq_true (decide (g.Y < g.Top)) with hd | hd
    · go_enter Try.func64, Try.ntmps64
      go_wp2_with (first
        | (refine atLoad 31 (.tmp 2) rfl ?_; refine wpList_load_row rfl 31 (.tmp 2) rfl w.heap.size rfl 31 _ (0, 0) _ HA.out Try.underlying31 rfl size31 ?_)
        | (refine atStore 31 (.tmp 4) (.tmp 19) rfl ?_; refine wpList_store_box _ rfl 31 (.tmp 4) (.tmp 19) rfl (w.heap.size + 2) _ rfl rfl 31 _ HZ.out size31 rfl rfl ?_; intro w9 hbz hgz; have HZ9 := Aside.mk hbz; have HG9 := Aside.mk hgz; clear hgz hbz))
      refine bodyPost_ret (results_cell_row Try.results64 _ _ (w.heap.size + 2) 31 _ (0, 0) _ rfl HZ9.out Try.underlying31 rfl size31) rfl ?_
      have hx := HW.out.of_grown HG9.out (by intro k hk; cases hk; omega)
      exact PassA.of (HIN.out.ext hx) (hx.any _)
    · have hd2 : decide (g.Bottom < g.Y) = true := by simp at hd ⊢; omega
      go_enter Try.func64, Try.ntmps64
      go_wp2_with (first
        | (refine atLoad 31 (.tmp 2) rfl ?_; refine wpList_load_row rfl 31 (.tmp 2) rfl w.heap.size rfl 31 _ (0, 0) _ HA.out Try.underlying31 rfl size31 ?_)
        | (refine atStore 31 (.tmp 4) (.tmp 19) rfl ?_; refine wpList_store_box _ rfl 31 (.tmp 4) (.tmp 19) rfl (w.heap.size + 2) _ rfl rfl 31 _ HZ.out size31 rfl rfl ?_; intro w9 hbz hgz; have HZ9 := Aside.mk hbz; have HG9 := Aside.mk hgz; clear hgz hbz))
      refine bodyPost_ret (results_cell_row Try.results64 _ _ (w.heap.size + 2) 31 _ (0, 0) _ rfl HZ9.out Try.underlying31 rfl size31) rfl ?_
      have hx := HW.out.of_grown HG9.out (by intro k hk; cases hk; omega)
      exact PassA.of (HIN.out.ext hx) (hx.any _)
  have hd1 : decide (g.Y < g.Top) = false := by simp; omega
  have hd2 : decide (g.Bottom < g.Y) = false := by simp; omega
  by_cases hr : r = 76
  · subst hr
    obtain ⟨h, hh⟩ : ∃ h, h = downG g g.Y g.Bottom N := ⟨_, rfl⟩
    rw [show betweenG g 76 l = moveG { h with Back := g.Back } 0 h.Y from by rw [hh, hN]; unfold betweenG; rw [if_neg hc]; rfl]
    have hwh : WFG h := by rw [hh]; exact downG_wf hg _ _ _
    have HH := Aside.mk hh
    clear hh hN hc
    go_enter Try.func64, Try.ntmps64
    go_wp2
    refine wp_region_till 100 (fun w' => Box w' w.heap.size 31 #[.int .i64 g.W, .int .i64 g.H, .int .i64 g.X, .int .i64 g.Y, .bool g.Wrap, .int .i64 g.A, .int .i64 g.Top, .int .i64 g.Bottom, .int .i64 g.SX, .int .i64 g.SY, .int .i64 g.SA, .bool g.NoWrap, .bool g.Hidden, .slice ar g.Rows.length cr, .slice ab g.Back.length cb] ∧ Box w' (w.heap.size + 1) 35 #[.int .i64 k, .int .i32 _, .slice ap l.length cp]) (by rfl) ⟨HA.out.drew, HR.out.drew⟩ ?_
    intro hS
    refine ⟨kept_none _ rfl, fun hKept => ?_⟩
    refine till_take (i := 0) (oi := _) (v := ?_) rfl (by kernel_rfl) (by kernel_rfl) (by kernel_rfl) (by kernel_rfl) (fun _ _ _ h => h) hKept hS (Or.inl ⟨by rfl, ?_⟩) ?_; rotate_left; (intro wS hSw; obtain ⟨hSa, hSb⟩ := hSw; have hSc := hSa.cell; have hSd := hSb.cell; go_simp; try with_reducible rfl); intro hKept; (try simp only [List.getElem?_toArray, List.getElem?_cons_succ, List.getElem?_cons_zero, List.getElem_toArray, List.getElem_cons_succ, List.getElem_cons_zero, Act.put, List.setIfInBounds_toArray, List.set_cons_zero, List.set_cons_succ])
    refine till_take (i := 2) (oi := _) (v := ?_) rfl (by kernel_rfl) (by kernel_rfl) (by kernel_rfl) (by kernel_rfl) (fun _ _ _ h => h) hKept hS (Or.inl ⟨by rfl, ?_⟩) ?_; rotate_left; (intro wS hSw; obtain ⟨hSa, hSb⟩ := hSw; have hSc := hSa.cell; have hSd := hSb.cell; go_simp; try with_reducible rfl); intro hKept; (try simp only [List.getElem?_toArray, List.getElem?_cons_succ, List.getElem?_cons_zero, List.getElem_toArray, List.getElem_cons_succ, List.getElem_cons_zero, Act.put, List.setIfInBounds_toArray, List.set_cons_zero, List.set_cons_succ])
    refine till_take (i := 3) (oi := _) (v := ?_) rfl (by kernel_rfl) (by kernel_rfl) (by kernel_rfl) (by kernel_rfl) (fun _ _ _ h => h) hKept hS (Or.inl ⟨by rfl, ?_⟩) ?_; rotate_left; (intro wS hSw; obtain ⟨hSa, hSb⟩ := hSw; have hSc := hSa.cell; have hSd := hSb.cell; go_simp; try with_reducible rfl); intro hKept; (try simp only [List.getElem?_toArray, List.getElem?_cons_succ, List.getElem?_cons_zero, List.getElem_toArray, List.getElem_cons_succ, List.getElem_cons_zero, Act.put, List.setIfInBounds_toArray, List.set_cons_zero, List.set_cons_succ])
    refine till_one (i := 1) (by simp only [List.getElem?_toArray, List.getElem?_cons_succ, List.getElem?_cons_zero]; rfl) (by kernel_rfl) hKept ?_; intro K hK; rw [if_pos (by rfl)]
    go_simp
    refine (par_eq k _ _ l 0 1 N _ (HL.out.ext HW.out.drew) hl (by omega) HN.out).mono ?_
    rintro e w1 ⟨rfl, he1⟩
    have HA1 := Aside.mk (HA.out.drew.ext he1)
    have HR1 := Aside.mk (HR.out.drew.ext he1)
    have HZ1 := Aside.mk (HZ.out.drew.ext he1)
    have HX1 := Aside.mk (HW.out.drew.trans he1)
    clear he1
    refine hK.out _ _ (fun _ => ⟨HA1.out, HR1.out⟩) ?_; clear hS; intro hS hKept; replace hS := hS (by decide); (try simp only [List.getElem?_toArray, List.getElem?_cons_succ, List.getElem?_cons_zero, List.getElem_toArray, List.getElem_cons_succ, List.getElem_cons_zero, Act.put, List.setIfInBounds_toArray, List.set_cons_zero, List.set_cons_succ])
    refine till_take (i := 4) (oi := _) (v := ?_) rfl (by kernel_rfl) (by kernel_rfl) (by kernel_rfl) (by kernel_rfl) (fun _ _ _ h => h) hKept hS (Or.inl ⟨by rfl, ?_⟩) ?_; rotate_left; (intro wS hSw; obtain ⟨hSa, hSb⟩ := hSw; have hSc := hSa.cell; have hSd := hSb.cell; go_simp; try with_reducible rfl); intro hKept; (try simp only [List.getElem?_toArray, List.getElem?_cons_succ, List.getElem?_cons_zero, List.getElem_toArray, List.getElem_cons_succ, List.getElem_cons_zero, Act.put, List.setIfInBounds_toArray, List.set_cons_zero, List.set_cons_succ])
    refine till_take (i := 5) (oi := _) (v := ?_) rfl (by kernel_rfl) (by kernel_rfl) (by kernel_rfl) (by kernel_rfl) (fun _ _ _ h => h) hKept hS (Or.inl ⟨by rfl, ?_⟩) ?_; rotate_left; (intro wS hSw; obtain ⟨hSa, hSb⟩ := hSw; have hSc := hSa.cell; have hSd := hSb.cell; go_simp; try with_reducible rfl); intro hKept; (try simp only [List.getElem?_toArray, List.getElem?_cons_succ, List.getElem?_cons_zero, List.getElem_toArray, List.getElem_cons_succ, List.getElem_cons_zero, Act.put, List.setIfInBounds_toArray, List.set_cons_zero, List.set_cons_succ])
    refine till_done (by kernel_rfl) ?_ _
    obtain ⟨hc1, hf1⟩ := HA1.out.rules
    obtain ⟨hc2, hf2⟩ := HR1.out.rules
    go_wp2_with (first
      | (refine atLoad 31 (.tmp 2) rfl ?_; refine wpList_load_row rfl 31 (.tmp 2) rfl w.heap.size rfl 31 _ (0, 0) _ HA7.out Try.underlying31 rfl size31 ?_)
      | (refine atLoad 31 (.tmp 2) rfl ?_; refine wpList_load_row rfl 31 (.tmp 2) rfl w.heap.size rfl 31 _ (0, 0) _ HA1.out Try.underlying31 rfl size31 ?_)
      | (go_at_call 72; refine (Down_eq g h _ _ _ _ g.Y g.Bottom N _ HH.out (HIN.out.rows.at_.ext HX1.out) (HIN.out.back.at_.ext HX1.out) hg.small hg.smallB hg.W6 hg.H6).mono ?_; intro e w5 hp; obtain ⟨ar5, cr5, ab5, cb5, rfl, HI5, HB5⟩ := hp.inG; clear hp; have HX5 := Aside.mk (HX1.out.trans HB5.out); have HA5 := Aside.mk (HA1.out.ext HB5.out); have HZ5 := Aside.mk (HZ1.out.ext HB5.out))
      | ((refine atStore 31 (.tmp 2) (.tmp 33) rfl ?_; refine wpList_store_box _ rfl 31 (.tmp 2) (.tmp 33) rfl w.heap.size _ rfl rfl 31 _ HA5.out size31 rfl rfl ?_; intro w6 hbz hgz; have HA6 := Aside.mk hbz; have HG6 := Aside.mk hgz; clear hgz hbz); have HZ6 := Aside.mk (HZ5.out.grown HG6.out (by simp)); obtain ⟨hc6, hf6⟩ := HA6.out.rules; (have HS := Aside.mk (HA6.out.set 14 (.slice ab g.Back.length cb)); have HA7 := Aside.mk HS.out.1; simp only [List.setIfInBounds_toArray, List.set_cons_zero, List.set_cons_succ] at HA7); have HZ7 := Aside.mk (HZ6.out.grown HS.out.2 (by simp)); have HX7 := Aside.mk ((HX5.out.of_grown HG6.out (by intro k hk; cases hk; omega)).of_grown HS.out.2 (by intro k hk; cases hk; omega)))
      | (go_at_call 59; refine (move_any { h with Back := g.Back } _ _ _ _ _ _ 0 h.Y _ hwh.W6 hwh.H6).mono ?_; rintro e w8 ⟨rfl, he8⟩; have HE8 := Aside.mk he8; have HZ8 := Aside.mk (HZ7.out.ext he8); clear he8)
      | (refine atStore 31 (.tmp 4) (.tmp 46) rfl ?_; refine wpList_store_box _ rfl 31 (.tmp 4) (.tmp 46) rfl (w.heap.size + 2) _ rfl rfl 31 _ HZ8.out size31 rfl rfl ?_; intro w9 hbz hgz; have HZ9 := Aside.mk hbz; have HG9 := Aside.mk hgz; clear hgz hbz))
    refine bodyPost_ret (results_cell_row Try.results64 _ _ (w.heap.size + 2) 31 _ (0, 0) _ rfl HZ9.out Try.underlying31 rfl size31) rfl ?_
    have hx := (HX7.out.trans HE8.out).of_grown HG9.out (by intro k hk; cases hk; omega)
    have hr := ((((HI5.out.rows.box HA5.out HG6.out).box HA6.out HS.out.2).ext HE8.out).box HZ8.out HG9.out)
    refine PassA.of ⟨hr.mono (by have := HX1.out.size; omega), HIN.out.back.ext hx, ?_⟩ (hx.any _)
    intro k hk hk'
    obtain ⟨_, h7, _⟩ := HIN.out.back.ex
    obtain ⟨_, h8, _⟩ := HI5.out.rows.ex
    have h9 := own_lt h7 k hk'
    have h10 := own_base h8 k hk
    have h11 := HX1.out.size
    omega
  · obtain ⟨h, hh⟩ : ∃ h, h = upG g g.Y g.Bottom N := ⟨_, rfl⟩
    rw [show betweenG g r l = moveG { h with Back := g.Back } 0 h.Y from by rw [hh, hN]; unfold betweenG; rw [if_neg hc]; simp only [if_neg hr]]
    have hwh : WFG h := by rw [hh]; exact upG_wf hg _ _ _
    have HH := Aside.mk hh
    have hrd : (r == 76) = false := by simpa using hr
    clear hh hN hc hr
    go_enter Try.func64, Try.ntmps64
    go_wp2
    refine wp_region_till 100 (fun w' => Box w' w.heap.size 31 #[.int .i64 g.W, .int .i64 g.H, .int .i64 g.X, .int .i64 g.Y, .bool g.Wrap, .int .i64 g.A, .int .i64 g.Top, .int .i64 g.Bottom, .int .i64 g.SX, .int .i64 g.SY, .int .i64 g.SA, .bool g.NoWrap, .bool g.Hidden, .slice ar g.Rows.length cr, .slice ab g.Back.length cb] ∧ Box w' (w.heap.size + 1) 35 #[.int .i64 k, .int .i32 _, .slice ap l.length cp]) (by rfl) ⟨HA.out.drew, HR.out.drew⟩ ?_
    intro hS
    refine ⟨kept_none _ rfl, fun hKept => ?_⟩
    refine till_take (i := 0) (oi := _) (v := ?_) rfl (by kernel_rfl) (by kernel_rfl) (by kernel_rfl) (by kernel_rfl) (fun _ _ _ h => h) hKept hS (Or.inl ⟨by rfl, ?_⟩) ?_; rotate_left; (intro wS hSw; obtain ⟨hSa, hSb⟩ := hSw; have hSc := hSa.cell; have hSd := hSb.cell; go_simp; try with_reducible rfl); intro hKept; (try simp only [List.getElem?_toArray, List.getElem?_cons_succ, List.getElem?_cons_zero, List.getElem_toArray, List.getElem_cons_succ, List.getElem_cons_zero, Act.put, List.setIfInBounds_toArray, List.set_cons_zero, List.set_cons_succ])
    refine till_take (i := 2) (oi := _) (v := ?_) rfl (by kernel_rfl) (by kernel_rfl) (by kernel_rfl) (by kernel_rfl) (fun _ _ _ h => h) hKept hS (Or.inl ⟨by rfl, ?_⟩) ?_; rotate_left; (intro wS hSw; obtain ⟨hSa, hSb⟩ := hSw; have hSc := hSa.cell; have hSd := hSb.cell; go_simp; try with_reducible rfl); intro hKept; (try simp only [List.getElem?_toArray, List.getElem?_cons_succ, List.getElem?_cons_zero, List.getElem_toArray, List.getElem_cons_succ, List.getElem_cons_zero, Act.put, List.setIfInBounds_toArray, List.set_cons_zero, List.set_cons_succ])
    refine till_take (i := 3) (oi := _) (v := ?_) rfl (by kernel_rfl) (by kernel_rfl) (by kernel_rfl) (by kernel_rfl) (fun _ _ _ h => h) hKept hS (Or.inl ⟨by rfl, ?_⟩) ?_; rotate_left; (intro wS hSw; obtain ⟨hSa, hSb⟩ := hSw; have hSc := hSa.cell; have hSd := hSb.cell; go_simp; try with_reducible rfl); intro hKept; (try simp only [List.getElem?_toArray, List.getElem?_cons_succ, List.getElem?_cons_zero, List.getElem_toArray, List.getElem_cons_succ, List.getElem_cons_zero, Act.put, List.setIfInBounds_toArray, List.set_cons_zero, List.set_cons_succ])
    refine till_one (i := 1) (by simp only [List.getElem?_toArray, List.getElem?_cons_succ, List.getElem?_cons_zero]; rfl) (by kernel_rfl) hKept ?_; intro K hK; rw [if_pos (by rfl)]
    go_simp
    refine (par_eq k _ _ l 0 1 N _ (HL.out.ext HW.out.drew) hl (by omega) HN.out).mono ?_
    rintro e w1 ⟨rfl, he1⟩
    have HA1 := Aside.mk (HA.out.drew.ext he1)
    have HR1 := Aside.mk (HR.out.drew.ext he1)
    have HZ1 := Aside.mk (HZ.out.drew.ext he1)
    have HX1 := Aside.mk (HW.out.drew.trans he1)
    clear he1
    refine hK.out _ _ (fun _ => ⟨HA1.out, HR1.out⟩) ?_; clear hS; intro hS hKept; replace hS := hS (by decide); (try simp only [List.getElem?_toArray, List.getElem?_cons_succ, List.getElem?_cons_zero, List.getElem_toArray, List.getElem_cons_succ, List.getElem_cons_zero, Act.put, List.setIfInBounds_toArray, List.set_cons_zero, List.set_cons_succ])
    refine till_take (i := 4) (oi := _) (v := ?_) rfl (by kernel_rfl) (by kernel_rfl) (by kernel_rfl) (by kernel_rfl) (fun _ _ _ h => h) hKept hS (Or.inl ⟨by rfl, ?_⟩) ?_; rotate_left; (intro wS hSw; obtain ⟨hSa, hSb⟩ := hSw; have hSc := hSa.cell; have hSd := hSb.cell; go_simp; try with_reducible rfl); intro hKept; (try simp only [List.getElem?_toArray, List.getElem?_cons_succ, List.getElem?_cons_zero, List.getElem_toArray, List.getElem_cons_succ, List.getElem_cons_zero, Act.put, List.setIfInBounds_toArray, List.set_cons_zero, List.set_cons_succ])
    refine till_take (i := 5) (oi := _) (v := ?_) rfl (by kernel_rfl) (by kernel_rfl) (by kernel_rfl) (by kernel_rfl) (fun _ _ _ h => h) hKept hS (Or.inl ⟨by rfl, ?_⟩) ?_; rotate_left; (intro wS hSw; obtain ⟨hSa, hSb⟩ := hSw; have hSc := hSa.cell; have hSd := hSb.cell; go_simp; try with_reducible rfl); intro hKept; (try simp only [List.getElem?_toArray, List.getElem?_cons_succ, List.getElem?_cons_zero, List.getElem_toArray, List.getElem_cons_succ, List.getElem_cons_zero, Act.put, List.setIfInBounds_toArray, List.set_cons_zero, List.set_cons_succ])
    refine till_done (by kernel_rfl) ?_ _
    obtain ⟨hc1, hf1⟩ := HA1.out.rules
    obtain ⟨hc2, hf2⟩ := HR1.out.rules
    go_wp2_with (first
      | (refine atLoad 31 (.tmp 2) rfl ?_; refine wpList_load_row rfl 31 (.tmp 2) rfl w.heap.size rfl 31 _ (0, 0) _ HA7.out Try.underlying31 rfl size31 ?_)
      | (refine atLoad 31 (.tmp 2) rfl ?_; refine wpList_load_row rfl 31 (.tmp 2) rfl w.heap.size rfl 31 _ (0, 0) _ HA1.out Try.underlying31 rfl size31 ?_)
      | (go_at_call 71; refine (Up_eq g h _ _ _ _ g.Y g.Bottom N _ HH.out (HIN.out.rows.at_.ext HX1.out) (HIN.out.back.at_.ext HX1.out) hg.small hg.smallB hg.W6 hg.H6).mono ?_; intro e w5 hp; obtain ⟨ar5, cr5, ab5, cb5, rfl, HI5, HB5⟩ := hp.inG; clear hp; have HX5 := Aside.mk (HX1.out.trans HB5.out); have HA5 := Aside.mk (HA1.out.ext HB5.out); have HZ5 := Aside.mk (HZ1.out.ext HB5.out))
      | ((refine atStore 31 (.tmp 2) (.tmp 40) rfl ?_; refine wpList_store_box _ rfl 31 (.tmp 2) (.tmp 40) rfl w.heap.size _ rfl rfl 31 _ HA5.out size31 rfl rfl ?_; intro w6 hbz hgz; have HA6 := Aside.mk hbz; have HG6 := Aside.mk hgz; clear hgz hbz); have HZ6 := Aside.mk (HZ5.out.grown HG6.out (by simp)); obtain ⟨hc6, hf6⟩ := HA6.out.rules; (have HS := Aside.mk (HA6.out.set 14 (.slice ab g.Back.length cb)); have HA7 := Aside.mk HS.out.1; simp only [List.setIfInBounds_toArray, List.set_cons_zero, List.set_cons_succ] at HA7); have HZ7 := Aside.mk (HZ6.out.grown HS.out.2 (by simp)); have HX7 := Aside.mk ((HX5.out.of_grown HG6.out (by intro k hk; cases hk; omega)).of_grown HS.out.2 (by intro k hk; cases hk; omega)))
      | (go_at_call 59; refine (move_any { h with Back := g.Back } _ _ _ _ _ _ 0 h.Y _ hwh.W6 hwh.H6).mono ?_; rintro e w8 ⟨rfl, he8⟩; have HE8 := Aside.mk he8; have HZ8 := Aside.mk (HZ7.out.ext he8); clear he8)
      | (refine atStore 31 (.tmp 4) (.tmp 46) rfl ?_; refine wpList_store_box _ rfl 31 (.tmp 4) (.tmp 46) rfl (w.heap.size + 2) _ rfl rfl 31 _ HZ8.out size31 rfl rfl ?_; intro w9 hbz hgz; have HZ9 := Aside.mk hbz; have HG9 := Aside.mk hgz; clear hgz hbz))
    refine bodyPost_ret (results_cell_row Try.results64 _ _ (w.heap.size + 2) 31 _ (0, 0) _ rfl HZ9.out Try.underlying31 rfl size31) rfl ?_
    have hx := (HX7.out.trans HE8.out).of_grown HG9.out (by intro k hk; cases hk; omega)
    have hr := ((((HI5.out.rows.box HA5.out HG6.out).box HA6.out HS.out.2).ext HE8.out).box HZ8.out HG9.out)
    refine PassA.of ⟨hr.mono (by have := HX1.out.size; omega), HIN.out.back.ext hx, ?_⟩ (hx.any _)
    intro k hk hk'
    obtain ⟨_, h7, _⟩ := HIN.out.back.ex
    obtain ⟨_, h8, _⟩ := HI5.out.rows.ex
    have h9 := own_lt h7 k hk'
    have h10 := own_base h8 k hk
    have h11 := HX1.out.size
    omega
end Go.Proofs.Ytmehkikkjebnnaa
