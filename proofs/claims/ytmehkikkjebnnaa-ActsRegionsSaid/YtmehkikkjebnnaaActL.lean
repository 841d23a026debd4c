/-
  Walks: acts.long.
-/
import Derived.Test.YtmehkikkjebnnaaActK
set_option linter.unusedVariables false
set_option linter.unusedSimpArgs false
namespace Go.Proofs.Ytmehkikkjebnnaa
open Go.RowKit
attribute [local go_sem] max2_i min2_i max_two min_two
attribute [local go_sem ↓] Go.wp_at_zero Go.wp_at_succ

theorem screen_eq (g h : Grid) (k r : Int) (l : List Int) (ap ar ab : Option Addr) (cp cr cb base : Nat) (w : World) (hh : h = screenG g l) (hg : WFG g) (hpar : ParOk l) (hla : IntsAt w (.slice ap l.length cp) l) (hap : 0 < l.length → ∀ b o, ap = some ⟨b, o, none⟩ → b < base) (hin : InG w base g ar cr ab cb) (hbase : base ≤ w.heap.size) :
    Calls Try.prog 62 #[.agg #[.int .i64 g.W, .int .i64 g.H, .int .i64 g.X, .int .i64 g.Y, .bool g.Wrap, .int .i64 g.A, .int .i64 g.Top, .int .i64 g.Bottom, .int .i64 g.SX, .int .i64 g.SY, .int .i64 g.SA, .bool g.NoWrap, .bool g.Hidden, .slice ar g.Rows.length cr, .slice ab g.Back.length cb], .agg #[.int .i64 k, .int .i32 r, .slice ap l.length cp]] w (PassR base w h) := hh ▸ screen_any g k r l ap ar ab cp cr cb base w hg hpar hla hap hin hbase
theorem between_eq (g h : Grid) (k r : Int) (l : List Int) (ap ar ab : Option Addr) (cp cr cb base : Nat) (w : World) (hh : h = betweenG g r l) (hg : WFG g) (hpar : ParOk l) (hla : IntsAt w (.slice ap l.length cp) l) (hin : InG w base g ar cr ab cb) (hbase : base ≤ w.heap.size) :
    Calls Try.prog 64 #[.agg #[.int .i64 g.W, .int .i64 g.H, .int .i64 g.X, .int .i64 g.Y, .bool g.Wrap, .int .i64 g.A, .int .i64 g.Top, .int .i64 g.Bottom, .int .i64 g.SX, .int .i64 g.SY, .int .i64 g.SA, .bool g.NoWrap, .bool g.Hidden, .slice ar g.Rows.length cr, .slice ab g.Back.length cb], .agg #[.int .i64 k, .int .i32 r, .slice ap l.length cp]] w (PassR base w h) := hh ▸ (between_any g k r l ap ar ab cp cr cb base w hg hpar hla hin hbase).mono fun _ _ h => h.toR0

theorem PassG.toR {base : Nat} {w w' : World} {g : Grid} {e : Ending} (h : PassG w.heap.size w g e w') (hb : base ≤ w.heap.size) : PassR base w g e w' := by
  obtain ⟨ar, cr, ab, cb, rfl, h1, h2⟩ := h.inG
  exact PassR.of (h1.out.mono hb) (Ext.growR h2.out base)
theorem regionG_rows (g : Grid) (l : List Int) : (regionG g l).Rows = g.Rows ∧ (regionG g l).Back = g.Back := by
  unfold regionG
  simp only
  split
  · exact ⟨rfl, rfl⟩
  · exact ⟨rfl, rfl⟩
theorem jumpG_rows (g : Grid) (r : Int) (l : List Int) : (jumpG g r l).1.Rows = g.Rows ∧ (jumpG g r l).1.Back = g.Back := by
  unfold jumpG
  simp only
  repeat' split
  all_goals exact ⟨rfl, rfl⟩
theorem region_eq (g h : Grid) (k r : Int) (l : List Int) (ap ar ab : Option Addr) (cp cr cb base : Nat) (w : World) (hh : h = regionG g l) (hg : WFG g) (hpar : ParOk l) (hla : IntsAt w (.slice ap l.length cp) l) (hin : InG w base g ar cr ab cb) :
    Calls Try.prog 73 #[.agg #[.int .i64 g.W, .int .i64 g.H, .int .i64 g.X, .int .i64 g.Y, .bool g.Wrap, .int .i64 g.A, .int .i64 g.Top, .int .i64 g.Bottom, .int .i64 g.SX, .int .i64 g.SY, .int .i64 g.SA, .bool g.NoWrap, .bool g.Hidden, .slice ar g.Rows.length cr, .slice ab g.Back.length cb], .agg #[.int .i64 k, .int .i32 r, .slice ap l.length cp]] w (PassR base w h) := by
  refine (region_any g k r l ap ar ab cp _ cr _ cb w hg hpar hla).mono ?_
  rintro e w1 ⟨rfl, he⟩
  have h1 := regionG_rows g l
  subst hh
  rw [← h1.1, ← h1.2]
  exact PassR.of ((hin.ext he).same h1.1 h1.2) (he.growR base)

theorem attrApply_eq (a : Int) (v : Value) (l : List Int) (q : Int) (w : World) (hq : q = attrApply a l) (h : IntsAt w v l) (hl : l.length ≤ 1000000) :
    Calls Try.prog 74 #[.int .i64 a, v] w fun e w' => e = .returned (.int .i64 q) ∧ w = w' := hq ▸ attrApply_any a v l w h hl
theorem jump_eq (g J : Grid) (jb : Bool) (k r : Int) (l : List Int) (ap ar ab : Option Addr) (cp nr cr nb cb : Nat) (w : World) (hJ : jumpG g r l = (J, jb)) (hg : WFG g) (hpar : ParOk l) (hla : IntsAt w (.slice ap l.length cp) l) :
    Calls Try.prog 75 #[.agg #[.int .i64 g.W, .int .i64 g.H, .int .i64 g.X, .int .i64 g.Y, .bool g.Wrap, .int .i64 g.A, .int .i64 g.Top, .int .i64 g.Bottom, .int .i64 g.SX, .int .i64 g.SY, .int .i64 g.SA, .bool g.NoWrap, .bool g.Hidden, .slice ar nr cr, .slice ab nb cb], .agg #[.int .i64 k, .int .i32 r, .slice ap l.length cp]] w fun e w' => e = .returned (.tuple #[.agg #[.int .i64 J.W, .int .i64 J.H, .int .i64 J.X, .int .i64 J.Y, .bool J.Wrap, .int .i64 J.A, .int .i64 J.Top, .int .i64 J.Bottom, .int .i64 J.SX, .int .i64 J.SY, .int .i64 J.SA, .bool J.NoWrap, .bool J.Hidden, .slice ar nr cr, .slice ab nb cb], .bool jb]) ∧ Ext w w' := by
  have h := jump_any g k r l ap ar ab cp nr cr nb cb w hg hpar hla
  rw [hJ] at h
  exact h

def longG (g : Grid) (r : Int) (l : List Int) : Grid :=
  let n := parOf l 0 1
  if r = 74 then screenG g l
  else if r = 75 then rowG g l
  else if r = 76 ∨ r = 77 then betweenG g r l
  else if r = 64 then turnG g fun row => insertC row g.X n
  else if r = 80 then turnG g fun row => deleteC row g.X n
  else if r = 88 then turnG g fun row => clearC row g.X (g.X + n)
  else if r = 83 then upG g g.Top g.Bottom n
  else if r = 84 then downG g g.Top g.Bottom n
  else if r = 114 then regionG g l
  else if r = 109 then { g with A := attrApply g.A l }
  else (jumpG g r l).1

set_option maxRecDepth 100000 in
set_option maxHeartbeats 4000000 in
theorem long_any (g : Grid) (k r : Int) (l : List Int) (ap ar ab : Option Addr) (cp cr cb base : Nat) (w : World) (hg : WFG g) (hpar : ParOk l) (hla : IntsAt w (.slice ap l.length cp) l) (hap : 0 < l.length → ∀ b o, ap = some ⟨b, o, none⟩ → b < base) (hin : InG w base g ar cr ab cb) (hbase : base ≤ w.heap.size) :
    Calls Try.prog 37 #[.agg #[.int .i64 g.W, .int .i64 g.H, .int .i64 g.X, .int .i64 g.Y, .bool g.Wrap, .int .i64 g.A, .int .i64 g.Top, .int .i64 g.Bottom, .int .i64 g.SX, .int .i64 g.SY, .int .i64 g.SA, .bool g.NoWrap, .bool g.Hidden, .slice ar g.Rows.length cr, .slice ab g.Back.length cb], .agg #[.int .i64 k, .int .i32 r, .slice ap l.length cp]] w (PassR base w (longG g r l)) := by
  have HIN := Aside.mk hin
  have HL := Aside.mk hla
  have hl := hpar.1
  clear hla hin
  have HA := Aside.mk (((Box.new w 31 #[.int .i64 g.W, .int .i64 g.H, .int .i64 g.X, .int .i64 g.Y, .bool g.Wrap, .int .i64 g.A, .int .i64 g.Top, .int .i64 g.Bottom, .int .i64 g.SX, .int .i64 g.SY, .int .i64 g.SA, .bool g.NoWrap, .bool g.Hidden, .slice ar g.Rows.length cr, .slice ab g.Back.length cb]).alloc (.cells #[.int .i64 k, .int .i32 r, .slice ap l.length cp] 35)).alloc (.cells #[.int .i64 0, .int .i64 0, .int .i64 0, .int .i64 0, .bool false, .int .i64 0, .int .i64 0, .int .i64 0, .int .i64 0, .int .i64 0, .int .i64 0, .bool false, .bool false, .slice none 0 0, .slice none 0 0] 31))
  have HR := Aside.mk ((Box.newAt (w.alloc (.cells #[.int .i64 g.W, .int .i64 g.H, .int .i64 g.X, .int .i64 g.Y, .bool g.Wrap, .int .i64 g.A, .int .i64 g.Top, .int .i64 g.Bottom, .int .i64 g.SX, .int .i64 g.SY, .int .i64 g.SA, .bool g.NoWrap, .bool g.Hidden, .slice ar g.Rows.length cr, .slice ab g.Back.length cb] 31)) 35 #[.int .i64 k, .int .i32 r, .slice ap l.length cp] (w.heap.size + 1) (by simp)).alloc (.cells #[.int .i64 0, .int .i64 0, .int .i64 0, .int .i64 0, .bool false, .int .i64 0, .int .i64 0, .int .i64 0, .int .i64 0, .int .i64 0, .int .i64 0, .bool false, .bool false, .slice none 0 0, .slice none 0 0] 31))
  have HZ := Aside.mk (Box.newAt ((w.alloc (.cells #[.int .i64 g.W, .int .i64 g.H, .int .i64 g.X, .int .i64 g.Y, .bool g.Wrap, .int .i64 g.A, .int .i64 g.Top, .int .i64 g.Bottom, .int .i64 g.SX, .int .i64 g.SY, .int .i64 g.SA, .bool g.NoWrap, .bool g.Hidden, .slice ar g.Rows.length cr, .slice ab g.Back.length cb] 31)).alloc (.cells #[.int .i64 k, .int .i32 r, .slice ap l.length cp] 35)) 31 #[.int .i64 0, .int .i64 0, .int .i64 0, .int .i64 0, .bool false, .int .i64 0, .int .i64 0, .int .i64 0, .int .i64 0, .int .i64 0, .int .i64 0, .bool false, .bool false, .slice none 0 0, .slice none 0 0] (w.heap.size + 2) (by simp))
  have HW := Aside.mk (((Ext.alloc1 w (.cells #[.int .i64 g.W, .int .i64 g.H, .int .i64 g.X, .int .i64 g.Y, .bool g.Wrap, .int .i64 g.A, .int .i64 g.Top, .int .i64 g.Bottom, .int .i64 g.SX, .int .i64 g.SY, .int .i64 g.SA, .bool g.NoWrap, .bool g.Hidden, .slice ar g.Rows.length cr, .slice ab g.Back.length cb] 31)).alloc (.cells #[.int .i64 k, .int .i32 r, .slice ap l.length cp] 35)).alloc (.cells #[.int .i64 0, .int .i64 0, .int .i64 0, .int .i64 0, .bool false, .int .i64 0, .int .i64 0, .int .i64 0, .int .i64 0, .int .i64 0, .int .i64 0, .bool false, .bool false, .slice none 0 0, .slice none 0 0] 31))
  obtain ⟨N, hN⟩ : ∃ N, N = parOf l 0 1 := ⟨_, rfl⟩
  have HN := Aside.mk hN
  have hb := parOf_bounds hpar 0 1 (by omega) (by omega)
  rw [← hN] at hb
  have hX := hg.X
  have hW := hg.W
  have e1 : IntKind.i64.wrap (g.X + N) = g.X + N := IntWalk.i64_in _ (by omega)
  have hmf : ∀ (fn : Fn) (first cap : Array Value) (w : World), (Instr.makeFunc fn first cap).run Try.prog w = .ok (.func fn first cap) w := fun _ _ _ _ => rfl
  by_cases h1 : r = 74
  · subst h1
    obtain ⟨h, hh⟩ : ∃ h, h = screenG g l := ⟨_, rfl⟩
    rw [show longG g 74 l = h from hh.symm]
    have HH := Aside.mk hh
    clear hh hN
    go_enter Try.func37, Try.ntmps37
    go_wp2_with (first
      | (go_at_call 61; refine (par_eq k _ _ l 0 1 N _ (HL.out.ext HW.out) hl (by omega) HN.out).mono ?_; rintro e w1 ⟨rfl, he1⟩; have HA2 := Aside.mk ((HA.out.ext he1).alloc (.cells #[.int .i64 N] 3)); have HR2 := Aside.mk ((HR.out.ext he1).alloc (.cells #[.int .i64 N] 3)); have HZ2 := Aside.mk ((HZ.out.ext he1).alloc (.cells #[.int .i64 N] 3)); have HX2 := Aside.mk ((HW.out.trans he1).alloc (.cells #[.int .i64 N] 3)); have HN2 := Aside.mk (Box.new w1 3 #[.int .i64 N]); obtain ⟨hc1, hf1⟩ := HA2.out.rules; obtain ⟨hc2, hf2⟩ := HR2.out.rules; obtain ⟨hc3, hf3⟩ := HN2.out.rules; have hsz := HX2.out.size; have HIN2 := Aside.mk (HIN.out.ext HX2.out); have HL2 := Aside.mk (HL.out.ext HX2.out); clear he1)
      | (refine atLoad 31 (.tmp 2) rfl ?_; refine wpList_load_row rfl 31 (.tmp 2) rfl w.heap.size rfl 31 _ (0, 0) _ HA2.out Try.underlying31 rfl size31 ?_)
      | (go_at_call 62; refine (screen_eq g h k _ l ap _ ab cp cr cb base _ HH.out hg hpar HL2.out hap HIN2.out (by omega)).mono ?_; rintro e w5 ⟨ar5, cr5, ab5, cb5, rfl, HI5, HG5⟩; have HZ5 := Aside.mk (HZ2.out.growR HG5.out (by decide)))
      | (refine atStore 31 (.tmp 4) (.tmp 14) rfl ?_; refine wpList_store_box _ rfl 31 (.tmp 4) (.tmp 14) rfl (w.heap.size + 2) _ rfl rfl 31 _ HZ5.out size31 rfl rfl ?_; intro w9 hbz hgz; have HZ9 := Aside.mk hbz; have HG9 := Aside.mk hgz; clear hgz hbz))
    refine bodyPost_ret (results_cell_row Try.results37 _ _ (w.heap.size + 2) 31 _ (0, 0) _ rfl HZ9.out Try.underlying31 rfl size31) rfl ?_
    exact PassR.of (HI5.out.box HZ5.out HG9.out) (((HX2.out.growR base).trans HG5.out).then_new HG9.out (by omega))
  have d1 : (r == 74) = false := by simpa using h1
  by_cases h2 : r = 75
  · subst h2
    obtain ⟨h, hh⟩ : ∃ h, h = rowG g l := ⟨_, rfl⟩
    rw [show longG g 75 l = h from hh.symm]
    have HH := Aside.mk hh
    clear hh hN
    go_enter Try.func37, Try.ntmps37
    go_wp2_with (first
      | (go_at_call 61; refine (par_eq k _ _ l 0 1 N _ (HL.out.ext HW.out) hl (by omega) HN.out).mono ?_; rintro e w1 ⟨rfl, he1⟩; have HA2 := Aside.mk ((HA.out.ext he1).alloc (.cells #[.int .i64 N] 3)); have HR2 := Aside.mk ((HR.out.ext he1).alloc (.cells #[.int .i64 N] 3)); have HZ2 := Aside.mk ((HZ.out.ext he1).alloc (.cells #[.int .i64 N] 3)); have HX2 := Aside.mk ((HW.out.trans he1).alloc (.cells #[.int .i64 N] 3)); have HN2 := Aside.mk (Box.new w1 3 #[.int .i64 N]); obtain ⟨hc1, hf1⟩ := HA2.out.rules; obtain ⟨hc2, hf2⟩ := HR2.out.rules; obtain ⟨hc3, hf3⟩ := HN2.out.rules; have hsz := HX2.out.size; have HIN2 := Aside.mk (HIN.out.ext HX2.out); have HL2 := Aside.mk (HL.out.ext HX2.out); clear he1)
      | (refine atLoad 31 (.tmp 2) rfl ?_; refine wpList_load_row rfl 31 (.tmp 2) rfl w.heap.size rfl 31 _ (0, 0) _ HA2.out Try.underlying31 rfl size31 ?_)
      | (go_at_call 63; refine (row_eq g h k _ l ap _ ab cp cr cb base _ HH.out hg hpar HL2.out HIN2.out (by omega)).mono ?_; rintro e w5 ⟨ar5, cr5, ab5, cb5, rfl, HI5, HG5⟩; have HZ5 := Aside.mk (HZ2.out.growR HG5.out (by decide)))
      | (refine atStore 31 (.tmp 4) (.tmp 19) rfl ?_; refine wpList_store_box _ rfl 31 (.tmp 4) (.tmp 19) rfl (w.heap.size + 2) _ rfl rfl 31 _ HZ5.out size31 rfl rfl ?_; intro w9 hbz hgz; have HZ9 := Aside.mk hbz; have HG9 := Aside.mk hgz; clear hgz hbz))
    refine bodyPost_ret (results_cell_row Try.results37 _ _ (w.heap.size + 2) 31 _ (0, 0) _ rfl HZ9.out Try.underlying31 rfl size31) rfl ?_
    exact PassR.of (HI5.out.box HZ5.out HG9.out) (((HX2.out.growR base).trans HG5.out).then_new HG9.out (by omega))
  have d2 : (r == 75) = false := by simpa using h2
  by_cases h3 : r = 76 ∨ r = 77
  · obtain ⟨h, hh⟩ : ∃ h, h = betweenG g r l := ⟨_, rfl⟩
    rw [show longG g r l = h from by rw [hh]; unfold longG; simp only; rw [if_neg h1, if_neg h2, if_pos h3]]
    have HH := Aside.mk hh
    clear hh hN
    rcases h3 with rfl | rfl
    · have hq := HH
      go_enter Try.func37, Try.ntmps37
      go_wp2_with (first
        | (go_at_call 61; refine (par_eq k _ _ l 0 1 N _ (HL.out.ext HW.out) hl (by omega) HN.out).mono ?_; rintro e w1 ⟨rfl, he1⟩; have HA2 := Aside.mk ((HA.out.ext he1).alloc (.cells #[.int .i64 N] 3)); have HR2 := Aside.mk ((HR.out.ext he1).alloc (.cells #[.int .i64 N] 3)); have HZ2 := Aside.mk ((HZ.out.ext he1).alloc (.cells #[.int .i64 N] 3)); have HX2 := Aside.mk ((HW.out.trans he1).alloc (.cells #[.int .i64 N] 3)); have HN2 := Aside.mk (Box.new w1 3 #[.int .i64 N]); obtain ⟨hc1, hf1⟩ := HA2.out.rules; obtain ⟨hc2, hf2⟩ := HR2.out.rules; obtain ⟨hc3, hf3⟩ := HN2.out.rules; have hsz := HX2.out.size; have HIN2 := Aside.mk (HIN.out.ext HX2.out); have HL2 := Aside.mk (HL.out.ext HX2.out); clear he1)
        | (refine atLoad 31 (.tmp 2) rfl ?_; refine wpList_load_row rfl 31 (.tmp 2) rfl w.heap.size rfl 31 _ (0, 0) _ HA2.out Try.underlying31 rfl size31 ?_)
        | (go_at_call 64; refine (between_eq g h k _ l ap _ ab cp cr cb base _ HH.out hg hpar HL2.out HIN2.out (by omega)).mono ?_; rintro e w5 ⟨ar5, cr5, ab5, cb5, rfl, HI5, HG5⟩; have HZ5 := Aside.mk (HZ2.out.growR HG5.out (by decide)))
        | (refine atStore 31 (.tmp 4) (.tmp 25) rfl ?_; refine wpList_store_box _ rfl 31 (.tmp 4) (.tmp 25) rfl (w.heap.size + 2) _ rfl rfl 31 _ HZ5.out size31 rfl rfl ?_; intro w9 hbz hgz; have HZ9 := Aside.mk hbz; have HG9 := Aside.mk hgz; clear hgz hbz))
      refine bodyPost_ret (results_cell_row Try.results37 _ _ (w.heap.size + 2) 31 _ (0, 0) _ rfl HZ9.out Try.underlying31 rfl size31) rfl ?_
      exact PassR.of (HI5.out.box HZ5.out HG9.out) (((HX2.out.growR base).trans HG5.out).then_new HG9.out (by omega))
    · have hq := HH
      go_enter Try.func37, Try.ntmps37
      go_wp2_with (first
        | (go_at_call 61; refine (par_eq k _ _ l 0 1 N _ (HL.out.ext HW.out) hl (by omega) HN.out).mono ?_; rintro e w1 ⟨rfl, he1⟩; have HA2 := Aside.mk ((HA.out.ext he1).alloc (.cells #[.int .i64 N] 3)); have HR2 := Aside.mk ((HR.out.ext he1).alloc (.cells #[.int .i64 N] 3)); have HZ2 := Aside.mk ((HZ.out.ext he1).alloc (.cells #[.int .i64 N] 3)); have HX2 := Aside.mk ((HW.out.trans he1).alloc (.cells #[.int .i64 N] 3)); have HN2 := Aside.mk (Box.new w1 3 #[.int .i64 N]); obtain ⟨hc1, hf1⟩ := HA2.out.rules; obtain ⟨hc2, hf2⟩ := HR2.out.rules; obtain ⟨hc3, hf3⟩ := HN2.out.rules; have hsz := HX2.out.size; have HIN2 := Aside.mk (HIN.out.ext HX2.out); have HL2 := Aside.mk (HL.out.ext HX2.out); clear he1)
        | (refine atLoad 31 (.tmp 2) rfl ?_; refine wpList_load_row rfl 31 (.tmp 2) rfl w.heap.size rfl 31 _ (0, 0) _ HA2.out Try.underlying31 rfl size31 ?_)
        | (go_at_call 64; refine (between_eq g h k _ l ap _ ab cp cr cb base _ HH.out hg hpar HL2.out HIN2.out (by omega)).mono ?_; rintro e w5 ⟨ar5, cr5, ab5, cb5, rfl, HI5, HG5⟩; have HZ5 := Aside.mk (HZ2.out.growR HG5.out (by decide)))
        | (refine atStore 31 (.tmp 4) (.tmp 25) rfl ?_; refine wpList_store_box _ rfl 31 (.tmp 4) (.tmp 25) rfl (w.heap.size + 2) _ rfl rfl 31 _ HZ5.out size31 rfl rfl ?_; intro w9 hbz hgz; have HZ9 := Aside.mk hbz; have HG9 := Aside.mk hgz; clear hgz hbz))
      refine bodyPost_ret (results_cell_row Try.results37 _ _ (w.heap.size + 2) 31 _ (0, 0) _ rfl HZ9.out Try.underlying31 rfl size31) rfl ?_
      exact PassR.of (HI5.out.box HZ5.out HG9.out) (((HX2.out.growR base).trans HG5.out).then_new HG9.out (by omega))
  have d3 : (r == 76) = false := by simp; omega
  have d4 : (r == 77) = false := by simp; omega
  by_cases h5 : r = 64
  · subst h5
    obtain ⟨t, ht⟩ : ∃ t, t = turnG g (fun row => insertC row g.X N) := ⟨_, rfl⟩
    rw [show longG g 64 l = t from by rw [ht, hN]; rfl]
    have HT := Aside.mk ht
    clear ht hN
    go_enter Try.func37, Try.ntmps37
    go_wp2_with (first
      | (go_at_call 61; refine (par_eq k _ _ l 0 1 N _ (HL.out.ext HW.out) hl (by omega) HN.out).mono ?_; rintro e w1 ⟨rfl, he1⟩; have HA2 := Aside.mk ((HA.out.ext he1).alloc (.cells #[.int .i64 N] 3)); have HR2 := Aside.mk ((HR.out.ext he1).alloc (.cells #[.int .i64 N] 3)); have HZ2 := Aside.mk ((HZ.out.ext he1).alloc (.cells #[.int .i64 N] 3)); have HX2 := Aside.mk ((HW.out.trans he1).alloc (.cells #[.int .i64 N] 3)); have HN2 := Aside.mk (Box.new w1 3 #[.int .i64 N]); obtain ⟨hc1, hf1⟩ := HA2.out.rules; obtain ⟨hc2, hf2⟩ := HR2.out.rules; obtain ⟨hc3, hf3⟩ := HN2.out.rules; have hsz := HX2.out.size; have HIN2 := Aside.mk (HIN.out.ext HX2.out); have HL2 := Aside.mk (HL.out.ext HX2.out); clear he1)
      | (refine atLoad 31 (.tmp 2) rfl ?_; refine wpList_load_row rfl 31 (.tmp 2) rfl w.heap.size rfl 31 _ (0, 0) _ HA2.out Try.underlying31 rfl size31 ?_)
      | (go_at_call 56; refine (turn_eq g t 65 _ _ _ _ _ _ base _ HT.out hg HIN2.out (by omega) (long1_turns g _ _ _ _ _ _ _ _ N _ HA2.out HN2.out) callf65).mono ?_; intro e w5 hp5; obtain ⟨ar5, cr5, ab5, cb5, rfl, HI5, HG5⟩ := hp5.toR HIN2.out; clear hp5; have HZ5 := Aside.mk (HZ2.out.growR HG5.out (by decide)))
      | (refine atStore 31 (.tmp 4) (.tmp 30) rfl ?_; refine wpList_store_box _ rfl 31 (.tmp 4) (.tmp 30) rfl (w.heap.size + 2) _ rfl rfl 31 _ HZ5.out size31 rfl rfl ?_; intro w9 hbz hgz; have HZ9 := Aside.mk hbz; have HG9 := Aside.mk hgz; clear hgz hbz))
    refine bodyPost_ret (results_cell_row Try.results37 _ _ (w.heap.size + 2) 31 _ (0, 0) _ rfl HZ9.out Try.underlying31 rfl size31) rfl ?_
    exact PassR.of (HI5.out.box HZ5.out HG9.out) (((HX2.out.growR base).trans HG5.out).then_new HG9.out (by omega))
  have d5 : (r == 64) = false := by simpa using h5
  by_cases h6 : r = 80
  · subst h6
    obtain ⟨t, ht⟩ : ∃ t, t = turnG g (fun row => deleteC row g.X N) := ⟨_, rfl⟩
    rw [show longG g 80 l = t from by rw [ht, hN]; rfl]
    have HT := Aside.mk ht
    clear ht hN
    go_enter Try.func37, Try.ntmps37
    go_wp2_with (first
      | (go_at_call 61; refine (par_eq k _ _ l 0 1 N _ (HL.out.ext HW.out) hl (by omega) HN.out).mono ?_; rintro e w1 ⟨rfl, he1⟩; have HA2 := Aside.mk ((HA.out.ext he1).alloc (.cells #[.int .i64 N] 3)); have HR2 := Aside.mk ((HR.out.ext he1).alloc (.cells #[.int .i64 N] 3)); have HZ2 := Aside.mk ((HZ.out.ext he1).alloc (.cells #[.int .i64 N] 3)); have HX2 := Aside.mk ((HW.out.trans he1).alloc (.cells #[.int .i64 N] 3)); have HN2 := Aside.mk (Box.new w1 3 #[.int .i64 N]); obtain ⟨hc1, hf1⟩ := HA2.out.rules; obtain ⟨hc2, hf2⟩ := HR2.out.rules; obtain ⟨hc3, hf3⟩ := HN2.out.rules; have hsz := HX2.out.size; have HIN2 := Aside.mk (HIN.out.ext HX2.out); have HL2 := Aside.mk (HL.out.ext HX2.out); clear he1)
      | (refine atLoad 31 (.tmp 2) rfl ?_; refine wpList_load_row rfl 31 (.tmp 2) rfl w.heap.size rfl 31 _ (0, 0) _ HA2.out Try.underlying31 rfl size31 ?_)
      | (go_at_call 56; refine (turn_eq g t 67 _ _ _ _ _ _ base _ HT.out hg HIN2.out (by omega) (long2_turns g _ _ _ _ _ _ _ _ N _ HA2.out HN2.out) callf67).mono ?_; intro e w5 hp5; obtain ⟨ar5, cr5, ab5, cb5, rfl, HI5, HG5⟩ := hp5.toR HIN2.out; clear hp5; have HZ5 := Aside.mk (HZ2.out.growR HG5.out (by decide)))
      | (refine atStore 31 (.tmp 4) (.tmp 35) rfl ?_; refine wpList_store_box _ rfl 31 (.tmp 4) (.tmp 35) rfl (w.heap.size + 2) _ rfl rfl 31 _ HZ5.out size31 rfl rfl ?_; intro w9 hbz hgz; have HZ9 := Aside.mk hbz; have HG9 := Aside.mk hgz; clear hgz hbz))
    refine bodyPost_ret (results_cell_row Try.results37 _ _ (w.heap.size + 2) 31 _ (0, 0) _ rfl HZ9.out Try.underlying31 rfl size31) rfl ?_
    exact PassR.of (HI5.out.box HZ5.out HG9.out) (((HX2.out.growR base).trans HG5.out).then_new HG9.out (by omega))
  have d6 : (r == 80) = false := by simpa using h6
  by_cases h7 : r = 88
  · subst h7
    obtain ⟨t, ht⟩ : ∃ t, t = turnG g (fun row => clearC row g.X (g.X + N)) := ⟨_, rfl⟩
    rw [show longG g 88 l = t from by rw [ht, hN]; rfl]
    have HT := Aside.mk ht
    clear ht hN
    go_enter Try.func37, Try.ntmps37
    go_wp2_with (first
      | (go_at_call 61; refine (par_eq k _ _ l 0 1 N _ (HL.out.ext HW.out) hl (by omega) HN.out).mono ?_; rintro e w1 ⟨rfl, he1⟩; have HA2 := Aside.mk ((HA.out.ext he1).alloc (.cells #[.int .i64 N] 3)); have HR2 := Aside.mk ((HR.out.ext he1).alloc (.cells #[.int .i64 N] 3)); have HZ2 := Aside.mk ((HZ.out.ext he1).alloc (.cells #[.int .i64 N] 3)); have HX2 := Aside.mk ((HW.out.trans he1).alloc (.cells #[.int .i64 N] 3)); have HN2 := Aside.mk (Box.new w1 3 #[.int .i64 N]); obtain ⟨hc1, hf1⟩ := HA2.out.rules; obtain ⟨hc2, hf2⟩ := HR2.out.rules; obtain ⟨hc3, hf3⟩ := HN2.out.rules; have hsz := HX2.out.size; have HIN2 := Aside.mk (HIN.out.ext HX2.out); have HL2 := Aside.mk (HL.out.ext HX2.out); clear he1)
      | (refine atLoad 31 (.tmp 2) rfl ?_; refine wpList_load_row rfl 31 (.tmp 2) rfl w.heap.size rfl 31 _ (0, 0) _ HA2.out Try.underlying31 rfl size31 ?_)
      | (go_at_call 56; refine (turn_eq g t 69 _ _ _ _ _ _ base _ HT.out hg HIN2.out (by omega) (long3_turns g _ _ _ _ _ _ _ _ N _ HA2.out HN2.out e1) callf69).mono ?_; intro e w5 hp5; obtain ⟨ar5, cr5, ab5, cb5, rfl, HI5, HG5⟩ := hp5.toR HIN2.out; clear hp5; have HZ5 := Aside.mk (HZ2.out.growR HG5.out (by decide)))
      | (refine atStore 31 (.tmp 4) (.tmp 40) rfl ?_; refine wpList_store_box _ rfl 31 (.tmp 4) (.tmp 40) rfl (w.heap.size + 2) _ rfl rfl 31 _ HZ5.out size31 rfl rfl ?_; intro w9 hbz hgz; have HZ9 := Aside.mk hbz; have HG9 := Aside.mk hgz; clear hgz hbz))
    refine bodyPost_ret (results_cell_row Try.results37 _ _ (w.heap.size + 2) 31 _ (0, 0) _ rfl HZ9.out Try.underlying31 rfl size31) rfl ?_
    exact PassR.of (HI5.out.box HZ5.out HG9.out) (((HX2.out.growR base).trans HG5.out).then_new HG9.out (by omega))
  have d7 : (r == 88) = false := by simpa using h7
  by_cases h8 : r = 83
  · subst h8
    obtain ⟨h, hh⟩ : ∃ h, h = upG g g.Top g.Bottom N := ⟨_, rfl⟩
    rw [show longG g 83 l = h from by rw [hh, hN]; rfl]
    have HH := Aside.mk hh
    clear hh hN
    go_enter Try.func37, Try.ntmps37
    go_wp2_with (first
      | (go_at_call 61; refine (par_eq k _ _ l 0 1 N _ (HL.out.ext HW.out) hl (by omega) HN.out).mono ?_; rintro e w1 ⟨rfl, he1⟩; have HA2 := Aside.mk ((HA.out.ext he1).alloc (.cells #[.int .i64 N] 3)); have HR2 := Aside.mk ((HR.out.ext he1).alloc (.cells #[.int .i64 N] 3)); have HZ2 := Aside.mk ((HZ.out.ext he1).alloc (.cells #[.int .i64 N] 3)); have HX2 := Aside.mk ((HW.out.trans he1).alloc (.cells #[.int .i64 N] 3)); have HN2 := Aside.mk (Box.new w1 3 #[.int .i64 N]); obtain ⟨hc1, hf1⟩ := HA2.out.rules; obtain ⟨hc2, hf2⟩ := HR2.out.rules; obtain ⟨hc3, hf3⟩ := HN2.out.rules; have hsz := HX2.out.size; have HIN2 := Aside.mk (HIN.out.ext HX2.out); have HL2 := Aside.mk (HL.out.ext HX2.out); clear he1)
      | (refine atLoad 31 (.tmp 2) rfl ?_; refine wpList_load_row rfl 31 (.tmp 2) rfl w.heap.size rfl 31 _ (0, 0) _ HA2.out Try.underlying31 rfl size31 ?_)
      | (go_at_call 71; refine (Up_eq g h _ _ _ _ _ _ N _ HH.out HIN2.out.rows.at_ HIN2.out.back.at_ hg.small hg.smallB hg.W6 hg.H6).mono ?_; intro e w5 hp5; obtain ⟨ar5, cr5, ab5, cb5, rfl, HI5, HG5⟩ := hp5.toR (base := base) (by omega); clear hp5; have HZ5 := Aside.mk (HZ2.out.growR HG5.out (by decide)))
      | (refine atStore 31 (.tmp 4) (.tmp 49) rfl ?_; refine wpList_store_box _ rfl 31 (.tmp 4) (.tmp 49) rfl (w.heap.size + 2) _ rfl rfl 31 _ HZ5.out size31 rfl rfl ?_; intro w9 hbz hgz; have HZ9 := Aside.mk hbz; have HG9 := Aside.mk hgz; clear hgz hbz))
    refine bodyPost_ret (results_cell_row Try.results37 _ _ (w.heap.size + 2) 31 _ (0, 0) _ rfl HZ9.out Try.underlying31 rfl size31) rfl ?_
    exact PassR.of (HI5.out.box HZ5.out HG9.out) (((HX2.out.growR base).trans HG5.out).then_new HG9.out (by omega))
  have d8 : (r == 83) = false := by simpa using h8
  by_cases h9 : r = 84
  · subst h9
    obtain ⟨h, hh⟩ : ∃ h, h = downG g g.Top g.Bottom N := ⟨_, rfl⟩
    rw [show longG g 84 l = h from by rw [hh, hN]; rfl]
    have HH := Aside.mk hh
    clear hh hN
    go_enter Try.func37, Try.ntmps37
    go_wp2_with (first
      | (go_at_call 61; refine (par_eq k _ _ l 0 1 N _ (HL.out.ext HW.out) hl (by omega) HN.out).mono ?_; rintro e w1 ⟨rfl, he1⟩; have HA2 := Aside.mk ((HA.out.ext he1).alloc (.cells #[.int .i64 N] 3)); have HR2 := Aside.mk ((HR.out.ext he1).alloc (.cells #[.int .i64 N] 3)); have HZ2 := Aside.mk ((HZ.out.ext he1).alloc (.cells #[.int .i64 N] 3)); have HX2 := Aside.mk ((HW.out.trans he1).alloc (.cells #[.int .i64 N] 3)); have HN2 := Aside.mk (Box.new w1 3 #[.int .i64 N]); obtain ⟨hc1, hf1⟩ := HA2.out.rules; obtain ⟨hc2, hf2⟩ := HR2.out.rules; obtain ⟨hc3, hf3⟩ := HN2.out.rules; have hsz := HX2.out.size; have HIN2 := Aside.mk (HIN.out.ext HX2.out); have HL2 := Aside.mk (HL.out.ext HX2.out); clear he1)
      | (refine atLoad 31 (.tmp 2) rfl ?_; refine wpList_load_row rfl 31 (.tmp 2) rfl w.heap.size rfl 31 _ (0, 0) _ HA2.out Try.underlying31 rfl size31 ?_)
      | (go_at_call 72; refine (Down_eq g h _ _ _ _ _ _ N _ HH.out HIN2.out.rows.at_ HIN2.out.back.at_ hg.small hg.smallB hg.W6 hg.H6).mono ?_; intro e w5 hp5; obtain ⟨ar5, cr5, ab5, cb5, rfl, HI5, HG5⟩ := hp5.toR (base := base) (by omega); clear hp5; have HZ5 := Aside.mk (HZ2.out.growR HG5.out (by decide)))
      | (refine atStore 31 (.tmp 4) (.tmp 58) rfl ?_; refine wpList_store_box _ rfl 31 (.tmp 4) (.tmp 58) rfl (w.heap.size + 2) _ rfl rfl 31 _ HZ5.out size31 rfl rfl ?_; intro w9 hbz hgz; have HZ9 := Aside.mk hbz; have HG9 := Aside.mk hgz; clear hgz hbz))
    refine bodyPost_ret (results_cell_row Try.results37 _ _ (w.heap.size + 2) 31 _ (0, 0) _ rfl HZ9.out Try.underlying31 rfl size31) rfl ?_
    exact PassR.of (HI5.out.box HZ5.out HG9.out) (((HX2.out.growR base).trans HG5.out).then_new HG9.out (by omega))
  have d9 : (r == 84) = false := by simpa using h9
  by_cases h10 : r = 114
  · subst h10
    obtain ⟨h, hh⟩ : ∃ h, h = regionG g l := ⟨_, rfl⟩
    rw [show longG g 114 l = h from hh.symm]
    have HH := Aside.mk hh
    clear hh hN
    go_enter Try.func37, Try.ntmps37
    go_wp2_with (first
      | (go_at_call 61; refine (par_eq k _ _ l 0 1 N _ (HL.out.ext HW.out) hl (by omega) HN.out).mono ?_; rintro e w1 ⟨rfl, he1⟩; have HA2 := Aside.mk ((HA.out.ext he1).alloc (.cells #[.int .i64 N] 3)); have HR2 := Aside.mk ((HR.out.ext he1).alloc (.cells #[.int .i64 N] 3)); have HZ2 := Aside.mk ((HZ.out.ext he1).alloc (.cells #[.int .i64 N] 3)); have HX2 := Aside.mk ((HW.out.trans he1).alloc (.cells #[.int .i64 N] 3)); have HN2 := Aside.mk (Box.new w1 3 #[.int .i64 N]); obtain ⟨hc1, hf1⟩ := HA2.out.rules; obtain ⟨hc2, hf2⟩ := HR2.out.rules; obtain ⟨hc3, hf3⟩ := HN2.out.rules; have hsz := HX2.out.size; have HIN2 := Aside.mk (HIN.out.ext HX2.out); have HL2 := Aside.mk (HL.out.ext HX2.out); clear he1)
      | (refine atLoad 31 (.tmp 2) rfl ?_; refine wpList_load_row rfl 31 (.tmp 2) rfl w.heap.size rfl 31 _ (0, 0) _ HA2.out Try.underlying31 rfl size31 ?_)
      | (go_at_call 73; refine (region_eq g h k _ l ap _ ab cp cr cb base _ HH.out hg hpar HL2.out HIN2.out).mono ?_; rintro e w5 ⟨ar5, cr5, ab5, cb5, rfl, HI5, HG5⟩; have HZ5 := Aside.mk (HZ2.out.growR HG5.out (by decide)))
      | (refine atStore 31 (.tmp 4) (.tmp 63) rfl ?_; refine wpList_store_box _ rfl 31 (.tmp 4) (.tmp 63) rfl (w.heap.size + 2) _ rfl rfl 31 _ HZ5.out size31 rfl rfl ?_; intro w9 hbz hgz; have HZ9 := Aside.mk hbz; have HG9 := Aside.mk hgz; clear hgz hbz))
    refine bodyPost_ret (results_cell_row Try.results37 _ _ (w.heap.size + 2) 31 _ (0, 0) _ rfl HZ9.out Try.underlying31 rfl size31) rfl ?_
    exact PassR.of (HI5.out.box HZ5.out HG9.out) (((HX2.out.growR base).trans HG5.out).then_new HG9.out (by omega))
  have d10 : (r == 114) = false := by simpa using h10
  by_cases h11 : r = 109
  · subst h11
    rw [show longG g 109 l = { g with A := attrApply g.A l } from rfl]
    obtain ⟨q, hq⟩ : ∃ q, q = attrApply g.A l := ⟨_, rfl⟩
    rw [← hq]
    have HQ := Aside.mk hq
    clear hq hN
    go_enter Try.func37, Try.ntmps37
    go_wp2_with (first
      | (go_at_call 61; refine (par_eq k _ _ l 0 1 N _ (HL.out.ext HW.out) hl (by omega) HN.out).mono ?_; rintro e w1 ⟨rfl, he1⟩; have HA2 := Aside.mk ((HA.out.ext he1).alloc (.cells #[.int .i64 N] 3)); have HR2 := Aside.mk ((HR.out.ext he1).alloc (.cells #[.int .i64 N] 3)); have HZ2 := Aside.mk ((HZ.out.ext he1).alloc (.cells #[.int .i64 N] 3)); have HX2 := Aside.mk ((HW.out.trans he1).alloc (.cells #[.int .i64 N] 3)); have HN2 := Aside.mk (Box.new w1 3 #[.int .i64 N]); obtain ⟨hc1, hf1⟩ := HA2.out.rules; obtain ⟨hc2, hf2⟩ := HR2.out.rules; obtain ⟨hc3, hf3⟩ := HN2.out.rules; have hsz := HX2.out.size; have HIN2 := Aside.mk (HIN.out.ext HX2.out); have HL2 := Aside.mk (HL.out.ext HX2.out); clear he1)
      | (go_at_call 74; refine (attrApply_eq _ _ l q _ HQ.out HL2.out hl).mono ?_; rintro e w4 ⟨rfl, rfl⟩; (have HS := Aside.mk (HA2.out.set 5 (.int .i64 q)); have HA3 := Aside.mk HS.out.1; simp only [List.setIfInBounds_toArray, List.set_cons_zero, List.set_cons_succ] at HA3); have HZ3 := Aside.mk (HZ2.out.grown HS.out.2 (by simp)))
      | (refine atLoad 31 (.tmp 2) rfl ?_; refine wpList_load_row rfl 31 (.tmp 2) rfl w.heap.size rfl 31 _ (0, 0) _ HA3.out Try.underlying31 rfl size31 ?_)
      | (refine atStore 31 (.tmp 4) (.tmp 72) rfl ?_; refine wpList_store_box _ rfl 31 (.tmp 4) (.tmp 72) rfl (w.heap.size + 2) _ rfl rfl 31 _ HZ3.out size31 rfl rfl ?_; intro w9 hbz hgz; have HZ9 := Aside.mk hbz; have HG9 := Aside.mk hgz; clear hgz hbz))
    refine bodyPost_ret (results_cell_row Try.results37 _ _ (w.heap.size + 2) 31 _ (0, 0) _ rfl HZ9.out Try.underlying31 rfl size31) rfl ?_
    have hx := ((HX2.out.of_grown HS.out.2 (by intro k hk; cases hk; omega)).of_grown HG9.out (by intro k hk; cases hk; omega))
    exact PassR.of ((HIN.out.ext hx).same rfl rfl) (hx.growR base)
  have d11 : (r == 109) = false := by simpa using h11
  obtain ⟨J, jb, hJ⟩ : ∃ J jb, jumpG g r l = (J, jb) := ⟨_, _, rfl⟩
  have hlj : longG g r l = J := by unfold longG; simp only; rw [if_neg h1, if_neg h2, if_neg h3, if_neg h5, if_neg h6, if_neg h7, if_neg h8, if_neg h9, if_neg h10, if_neg h11, hJ]
  have hJr := jumpG_rows g r l
  rw [hJ] at hJr
  have HJ := Aside.mk hJ
  have HJR := Aside.mk hJr
  rw [hlj]
  clear hJ hlj hJr hN
  go_enter Try.func37, Try.ntmps37
  go_wp2_with (first
    | (go_at_call 61; refine (par_eq k _ _ l 0 1 N _ (HL.out.ext HW.out) hl (by omega) HN.out).mono ?_; rintro e w1 ⟨rfl, he1⟩; have HA2 := Aside.mk ((HA.out.ext he1).alloc (.cells #[.int .i64 N] 3)); have HR2 := Aside.mk ((HR.out.ext he1).alloc (.cells #[.int .i64 N] 3)); have HZ2 := Aside.mk ((HZ.out.ext he1).alloc (.cells #[.int .i64 N] 3)); have HX2 := Aside.mk ((HW.out.trans he1).alloc (.cells #[.int .i64 N] 3)); have HN2 := Aside.mk (Box.new w1 3 #[.int .i64 N]); obtain ⟨hc1, hf1⟩ := HA2.out.rules; obtain ⟨hc2, hf2⟩ := HR2.out.rules; obtain ⟨hc3, hf3⟩ := HN2.out.rules; have hsz := HX2.out.size; have HIN2 := Aside.mk (HIN.out.ext HX2.out); have HL2 := Aside.mk (HL.out.ext HX2.out); clear he1)
    | (refine atLoad 31 (.tmp 2) rfl ?_; refine wpList_load_row rfl 31 (.tmp 2) rfl w.heap.size rfl 31 _ (0, 0) _ HA6.out Try.underlying31 rfl size31 ?_)
    | (refine atLoad 31 (.tmp 2) rfl ?_; refine wpList_load_row rfl 31 (.tmp 2) rfl w.heap.size rfl 31 _ (0, 0) _ HA2.out Try.underlying31 rfl size31 ?_)
    | (go_at_call 75; refine (jump_eq g J jb k r l ap _ ab cp _ cr _ cb _ HJ.out hg hpar HL2.out).mono ?_; rintro e w5 ⟨rfl, he5⟩; have HX5 := Aside.mk (HX2.out.trans he5); have HA5 := Aside.mk (HA2.out.ext he5); have HZ5 := Aside.mk (HZ2.out.ext he5); clear he5)
    | ((refine atStore 31 (.tmp 2) (.tmp 77) rfl ?_; refine wpList_store_box _ rfl 31 (.tmp 2) (.tmp 77) rfl w.heap.size _ rfl rfl 31 _ HA5.out size31 rfl rfl ?_; intro w6 hbz hgz; have HA6 := Aside.mk hbz; have HG6 := Aside.mk hgz; clear hgz hbz); have HZ6 := Aside.mk (HZ5.out.grown HG6.out (by simp)))
    | (refine atStore 31 (.tmp 4) (.tmp 79) rfl ?_; refine wpList_store_box _ rfl 31 (.tmp 4) (.tmp 79) rfl (w.heap.size + 2) _ rfl rfl 31 _ HZ6.out size31 rfl rfl ?_; intro w9 hbz hgz; have HZ9 := Aside.mk hbz; have HG9 := Aside.mk hgz; clear hgz hbz))
  refine bodyPost_ret (results_cell_row Try.results37 _ _ (w.heap.size + 2) 31 _ (0, 0) _ rfl HZ9.out Try.underlying31 rfl size31) rfl ?_
  have hx := ((HX5.out.of_grown HG6.out (by intro k hk; cases hk; omega)).of_grown HG9.out (by intro k hk; cases hk; omega))
  rw [← HJR.out.1, ← HJR.out.2]
  exact PassR.of ((HIN.out.ext hx).same HJR.out.1 HJR.out.2) (hx.growR base)
end Go.Proofs.Ytmehkikkjebnnaa
