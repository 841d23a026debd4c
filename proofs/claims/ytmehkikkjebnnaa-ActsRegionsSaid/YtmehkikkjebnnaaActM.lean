/-
  Walks: acts.Apply.
-/
import Derived.Test.YtmehkikkjebnnaaActL
set_option linter.unusedVariables false
set_option linter.unusedSimpArgs false
namespace Go.Proofs.Ytmehkikkjebnnaa
open Go.RowKit
attribute [local go_sem] max2_i min2_i max_two min_two
attribute [local go_sem ↓] Go.wp_at_zero Go.wp_at_succ

theorem GrowR.mono {base base' : Nat} {w w' : World} (h : GrowR base w w') (hb : base' ≤ base) : GrowR base' w w' := ⟨h.os, h.tape, h.output, h.size, fun k hk hc => h.block k hk (hc.imp (fun h => Nat.lt_of_lt_of_le h hb) id)⟩
theorem PassG.of' {base : Nat} {w w' : World} {g : Grid} {ar ab : Option Addr} {cr cb : Nat} (h : InG w' base g ar cr ab cb) (hb : Below base w w') : PassG base w g (.returned (.agg #[.int .i64 g.W, .int .i64 g.H, .int .i64 g.X, .int .i64 g.Y, .bool g.Wrap, .int .i64 g.A, .int .i64 g.Top, .int .i64 g.Bottom, .int .i64 g.SX, .int .i64 g.SY, .int .i64 g.SA, .bool g.NoWrap, .bool g.Hidden, .slice ar g.Rows.length cr, .slice ab g.Back.length cb])) w' :=
  PassG.mk' g h.rows h.back h.apart hb
theorem IntsAt.below {w : World} {a : Option Addr} {c : Nat} {l : List Int} (h : IntsAt w (.slice a l.length c) l) (hn : 0 < l.length) : ∀ b o, a = some ⟨b, o, none⟩ → b < w.heap.size := by
  intro b o ha
  obtain ⟨b', o', e, hc⟩ := h.at_ 0 hn
  rw [ha] at e
  injection e with e
  injection e with e1 _
  subst e1
  exact World.block_lt_of_cell? w _ hc

def applyG (g : Grid) (k r : Int) (l : List Int) : Grid :=
  if k = 1 then putG g r
  else if k = 2 then controlG g r
  else if k = 3 then escapeG g r
  else if k = 4 then longG g r l
  else if k = 5 then privG g r l
  else g

theorem put_eq (g h : Grid) (r : Int) (ar ab : Option Addr) (cr cb base : Nat) (w : World) (hh : h = putG g r) (hg : WFG g) (hin : InG w base g ar cr ab cb) (hbase : base ≤ w.heap.size) :
    Calls Try.prog 34 #[.agg #[.int .i64 g.W, .int .i64 g.H, .int .i64 g.X, .int .i64 g.Y, .bool g.Wrap, .int .i64 g.A, .int .i64 g.Top, .int .i64 g.Bottom, .int .i64 g.SX, .int .i64 g.SY, .int .i64 g.SA, .bool g.NoWrap, .bool g.Hidden, .slice ar g.Rows.length cr, .slice ab g.Back.length cb], .int .i32 r] w (PassR base w h) := hh ▸ put_any g r ar ab cr cb base w hg hin hbase
theorem control_eq (g h : Grid) (r : Int) (ar ab : Option Addr) (cr cb base : Nat) (w : World) (hh : h = controlG g r) (hg : WFG g) (hin : InG w base g ar cr ab cb) (hbase : base ≤ w.heap.size) :
    Calls Try.prog 35 #[.agg #[.int .i64 g.W, .int .i64 g.H, .int .i64 g.X, .int .i64 g.Y, .bool g.Wrap, .int .i64 g.A, .int .i64 g.Top, .int .i64 g.Bottom, .int .i64 g.SX, .int .i64 g.SY, .int .i64 g.SA, .bool g.NoWrap, .bool g.Hidden, .slice ar g.Rows.length cr, .slice ab g.Back.length cb], .int .i32 r] w (PassR base w h) := hh ▸ (control_any g r ar ab cr cb base w hg hin hbase).mono fun _ _ h => h.toR0
theorem escape_eq (g h : Grid) (r : Int) (ar ab : Option Addr) (cr cb base : Nat) (w : World) (hh : h = escapeG g r) (hg : WFG g) (hin : InG w base g ar cr ab cb) (hbase : base ≤ w.heap.size) :
    Calls Try.prog 36 #[.agg #[.int .i64 g.W, .int .i64 g.H, .int .i64 g.X, .int .i64 g.Y, .bool g.Wrap, .int .i64 g.A, .int .i64 g.Top, .int .i64 g.Bottom, .int .i64 g.SX, .int .i64 g.SY, .int .i64 g.SA, .bool g.NoWrap, .bool g.Hidden, .slice ar g.Rows.length cr, .slice ab g.Back.length cb], .int .i32 r] w (PassR base w h) := hh ▸ (escape_any g r ar ab cr cb base w hg hin hbase).mono fun _ _ h => h.toR0
theorem long_eq (g h : Grid) (k r : Int) (l : List Int) (ap ar ab : Option Addr) (cp cr cb base : Nat) (w : World) (hh : h = longG g r l) (hg : WFG g) (hpar : ParOk l) (hla : IntsAt w (.slice ap l.length cp) l) (hap : 0 < l.length → ∀ b o, ap = some ⟨b, o, none⟩ → b < base) (hin : InG w base g ar cr ab cb) (hbase : base ≤ w.heap.size) :
    Calls Try.prog 37 #[.agg #[.int .i64 g.W, .int .i64 g.H, .int .i64 g.X, .int .i64 g.Y, .bool g.Wrap, .int .i64 g.A, .int .i64 g.Top, .int .i64 g.Bottom, .int .i64 g.SX, .int .i64 g.SY, .int .i64 g.SA, .bool g.NoWrap, .bool g.Hidden, .slice ar g.Rows.length cr, .slice ab g.Back.length cb], .agg #[.int .i64 k, .int .i32 r, .slice ap l.length cp]] w (PassR base w h) := hh ▸ long_any g k r l ap ar ab cp cr cb base w hg hpar hla hap hin hbase
theorem priv_eq (g h : Grid) (k r : Int) (l : List Int) (ap ar ab : Option Addr) (cp cr cb base : Nat) (w : World) (hh : h = privG g r l) (hl : l.length ≤ 1000000) (hla : IntsAt w (.slice ap l.length cp) l) (hin : InG w base g ar cr ab cb) :
    Calls Try.prog 38 #[.agg #[.int .i64 g.W, .int .i64 g.H, .int .i64 g.X, .int .i64 g.Y, .bool g.Wrap, .int .i64 g.A, .int .i64 g.Top, .int .i64 g.Bottom, .int .i64 g.SX, .int .i64 g.SY, .int .i64 g.SA, .bool g.NoWrap, .bool g.Hidden, .slice ar g.Rows.length cr, .slice ab g.Back.length cb], .agg #[.int .i64 k, .int .i32 r, .slice ap l.length cp]] w (PassR base w h) := by
  refine (private_any g k r l ap ar ab cp _ cr _ cb w hl hla).mono ?_
  rintro e w1 ⟨rfl, he⟩
  have h1 : (privG g r l).Rows = g.Rows ∧ (privG g r l).Back = g.Back := by
    unfold privG
    split
    · exact privFold_rows r l g
    · exact ⟨rfl, rfl⟩
  subst hh
  rw [← h1.1, ← h1.2]
  exact PassR.of ((hin.ext he).same h1.1 h1.2) (he.growR base)

set_option maxRecDepth 100000 in
set_option maxHeartbeats 4000000 in
theorem Apply_any (g : Grid) (k r : Int) (l : List Int) (ap ar ab : Option Addr) (cp cr cb : Nat) (w : World) (hg : WFG g) (hpar : ParOk l) (hla : IntsAt w (.slice ap l.length cp) l) (hrw : RowsAt w (.slice ar g.Rows.length cr) g.Rows) (hbw : RowsAt w (.slice ab g.Back.length cb) g.Back) :
    Calls Try.prog 16 #[.agg #[.int .i64 g.W, .int .i64 g.H, .int .i64 g.X, .int .i64 g.Y, .bool g.Wrap, .int .i64 g.A, .int .i64 g.Top, .int .i64 g.Bottom, .int .i64 g.SX, .int .i64 g.SY, .int .i64 g.SA, .bool g.NoWrap, .bool g.Hidden, .slice ar g.Rows.length cr, .slice ab g.Back.length cb], .agg #[.int .i64 k, .int .i32 r, .slice ap l.length cp]] w (PassG w.heap.size w (applyG g k r l)) := by
  have HRW := Aside.mk hrw
  have HBW := Aside.mk hbw
  have HL := Aside.mk hla
  have hl := hpar.1
  clear hla hrw hbw
  have HA := Aside.mk (((Box.new w 31 #[.int .i64 g.W, .int .i64 g.H, .int .i64 g.X, .int .i64 g.Y, .bool g.Wrap, .int .i64 g.A, .int .i64 g.Top, .int .i64 g.Bottom, .int .i64 g.SX, .int .i64 g.SY, .int .i64 g.SA, .bool g.NoWrap, .bool g.Hidden, .slice ar g.Rows.length cr, .slice ab g.Back.length cb]).alloc (.cells #[.int .i64 k, .int .i32 r, .slice ap l.length cp] 35)).alloc (.cells #[.int .i64 0, .int .i64 0, .int .i64 0, .int .i64 0, .bool false, .int .i64 0, .int .i64 0, .int .i64 0, .int .i64 0, .int .i64 0, .int .i64 0, .bool false, .bool false, .slice none 0 0, .slice none 0 0] 31))
  have HR := Aside.mk ((Box.newAt (w.alloc (.cells #[.int .i64 g.W, .int .i64 g.H, .int .i64 g.X, .int .i64 g.Y, .bool g.Wrap, .int .i64 g.A, .int .i64 g.Top, .int .i64 g.Bottom, .int .i64 g.SX, .int .i64 g.SY, .int .i64 g.SA, .bool g.NoWrap, .bool g.Hidden, .slice ar g.Rows.length cr, .slice ab g.Back.length cb] 31)) 35 #[.int .i64 k, .int .i32 r, .slice ap l.length cp] (w.heap.size + 1) (by simp)).alloc (.cells #[.int .i64 0, .int .i64 0, .int .i64 0, .int .i64 0, .bool false, .int .i64 0, .int .i64 0, .int .i64 0, .int .i64 0, .int .i64 0, .int .i64 0, .bool false, .bool false, .slice none 0 0, .slice none 0 0] 31))
  have HZ := Aside.mk (Box.newAt ((w.alloc (.cells #[.int .i64 g.W, .int .i64 g.H, .int .i64 g.X, .int .i64 g.Y, .bool g.Wrap, .int .i64 g.A, .int .i64 g.Top, .int .i64 g.Bottom, .int .i64 g.SX, .int .i64 g.SY, .int .i64 g.SA, .bool g.NoWrap, .bool g.Hidden, .slice ar g.Rows.length cr, .slice ab g.Back.length cb] 31)).alloc (.cells #[.int .i64 k, .int .i32 r, .slice ap l.length cp] 35)) 31 #[.int .i64 0, .int .i64 0, .int .i64 0, .int .i64 0, .bool false, .int .i64 0, .int .i64 0, .int .i64 0, .int .i64 0, .int .i64 0, .int .i64 0, .bool false, .bool false, .slice none 0 0, .slice none 0 0] (w.heap.size + 2) (by simp))
  have HW := Aside.mk (((Ext.alloc1 w (.cells #[.int .i64 g.W, .int .i64 g.H, .int .i64 g.X, .int .i64 g.Y, .bool g.Wrap, .int .i64 g.A, .int .i64 g.Top, .int .i64 g.Bottom, .int .i64 g.SX, .int .i64 g.SY, .int .i64 g.SA, .bool g.NoWrap, .bool g.Hidden, .slice ar g.Rows.length cr, .slice ab g.Back.length cb] 31)).alloc (.cells #[.int .i64 k, .int .i32 r, .slice ap l.length cp] 35)).alloc (.cells #[.int .i64 0, .int .i64 0, .int .i64 0, .int .i64 0, .bool false, .int .i64 0, .int .i64 0, .int .i64 0, .int .i64 0, .int .i64 0, .int .i64 0, .bool false, .bool false, .slice none 0 0, .slice none 0 0] 31))
  have HAP : Aside (0 < l.length → ∀ b o, ap = some ⟨b, o, none⟩ → b < w.heap.size + 3) := ⟨fun hn b o h => Nat.lt_of_lt_of_le (HL.out.below hn b o h) (by omega)⟩
  by_cases h1 : k = 1
  · subst h1
    obtain ⟨h, hh⟩ : ∃ h, h = putG g r := ⟨_, rfl⟩
    rw [show applyG g 1 r l = h from hh.symm]
    have HH := Aside.mk hh
    clear hh
    go_enter Try.func16, Try.ntmps16
    go_wp2_with (first
      | (refine atLoad 31 (.tmp 2) rfl ?_; refine wpList_load_row rfl 31 (.tmp 2) rfl w.heap.size rfl 31 _ (0, 0) _ HA2.out Try.underlying31 rfl size31 ?_)
      | (refine atLoad 31 (.tmp 2) rfl ?_; refine wpList_load_row rfl 31 (.tmp 2) rfl w.heap.size rfl 31 #[.int .i64 g.W, .int .i64 g.H, .int .i64 g.X, .int .i64 g.Y, .bool g.Wrap, .int .i64 g.A, .int .i64 g.Top, .int .i64 g.Bottom, .int .i64 g.SX, .int .i64 g.SY, .int .i64 g.SA, .bool g.NoWrap, .bool g.Hidden, .slice ar g.Rows.length cr, .slice ab g.Back.length cb] (0, 0) _ HA.out Try.underlying31 rfl size31 ?_)
      | (go_at_call 33; refine (Still_any g _ _ _ _ _ (HRW.out.ext HW.out) (HBW.out.ext HW.out) hg.small hg.smallB).mono ?_; intro e w1 hp; obtain ⟨ar1, cr1, ab1, cb1, rfl, HI1, HB1⟩ := hp.inG; clear hp; have HA1 := Aside.mk (HA.out.ext HB1.out); have HR1 := Aside.mk (HR.out.ext HB1.out); have HZ1 := Aside.mk (HZ.out.ext HB1.out); have HX1 := Aside.mk (HW.out.trans HB1.out))
      | ((refine atStore 31 (.tmp 2) (.tmp 6) rfl ?_; refine wpList_store_box _ rfl 31 (.tmp 2) (.tmp 6) rfl w.heap.size _ rfl rfl 31 _ HA1.out size31 rfl rfl ?_; intro w2 hbz hgz; have HA2 := Aside.mk hbz; have HG2 := Aside.mk hgz; clear hgz hbz); have HR2 := Aside.mk (HR1.out.grown HG2.out (by simp)); have HZ2 := Aside.mk (HZ1.out.grown HG2.out (by simp)); have HX2 := Aside.mk (HX1.out.of_grown HG2.out (by intro k hk; cases hk; omega)); have HI2 := Aside.mk ((HI1.out.box HA1.out HG2.out).mono (base' := w.heap.size + 3) (by simp)); have HL2 := Aside.mk (HL.out.ext HX2.out); have hsz := HZ2.out.lt; obtain ⟨hc1, hf1⟩ := HA2.out.rules; obtain ⟨hc2, hf2⟩ := HR2.out.rules)
      | (go_at_call 34; refine (put_eq g h r _ _ _ _ (w.heap.size + 3) _ HH.out hg HI2.out (by omega)).mono ?_; rintro e w5 ⟨ar5, cr5, ab5, cb5, rfl, HI5, HG5⟩; have HZ5 := Aside.mk (HZ2.out.growR HG5.out (by decide)))
      | (refine atStore 31 (.tmp 4) (.tmp 14) rfl ?_; refine wpList_store_box _ rfl 31 (.tmp 4) (.tmp 14) rfl (w.heap.size + 2) _ rfl rfl 31 _ HZ5.out size31 rfl rfl ?_; intro w9 hbz hgz; have HZ9 := Aside.mk hbz; have HG9 := Aside.mk hgz; clear hgz hbz))
    refine bodyPost_ret (results_cell_row Try.results16 _ _ (w.heap.size + 2) 31 _ (0, 0) _ rfl HZ9.out Try.underlying31 rfl size31) rfl ?_
    have hgr := ((HX2.out.growR w.heap.size).trans (GrowR.mono (base := w.heap.size + 3) HG5.out (by omega))).then_new HG9.out (by omega)
    exact PassG.of' ((HI5.out.box HZ5.out HG9.out).mono (by omega)) (hgr.below (Nat.le_refl _))
  have d1 : (k == 1) = false := by simpa using h1
  by_cases h2 : k = 2
  · subst h2
    obtain ⟨h, hh⟩ : ∃ h, h = controlG g r := ⟨_, rfl⟩
    rw [show applyG g 2 r l = h from hh.symm]
    have HH := Aside.mk hh
    clear hh
    go_enter Try.func16, Try.ntmps16
    go_wp2_with (first
      | (refine atLoad 31 (.tmp 2) rfl ?_; refine wpList_load_row rfl 31 (.tmp 2) rfl w.heap.size rfl 31 _ (0, 0) _ HA2.out Try.underlying31 rfl size31 ?_)
      | (refine atLoad 31 (.tmp 2) rfl ?_; refine wpList_load_row rfl 31 (.tmp 2) rfl w.heap.size rfl 31 #[.int .i64 g.W, .int .i64 g.H, .int .i64 g.X, .int .i64 g.Y, .bool g.Wrap, .int .i64 g.A, .int .i64 g.Top, .int .i64 g.Bottom, .int .i64 g.SX, .int .i64 g.SY, .int .i64 g.SA, .bool g.NoWrap, .bool g.Hidden, .slice ar g.Rows.length cr, .slice ab g.Back.length cb] (0, 0) _ HA.out Try.underlying31 rfl size31 ?_)
      | (go_at_call 33; refine (Still_any g _ _ _ _ _ (HRW.out.ext HW.out) (HBW.out.ext HW.out) hg.small hg.smallB).mono ?_; intro e w1 hp; obtain ⟨ar1, cr1, ab1, cb1, rfl, HI1, HB1⟩ := hp.inG; clear hp; have HA1 := Aside.mk (HA.out.ext HB1.out); have HR1 := Aside.mk (HR.out.ext HB1.out); have HZ1 := Aside.mk (HZ.out.ext HB1.out); have HX1 := Aside.mk (HW.out.trans HB1.out))
      | ((refine atStore 31 (.tmp 2) (.tmp 6) rfl ?_; refine wpList_store_box _ rfl 31 (.tmp 2) (.tmp 6) rfl w.heap.size _ rfl rfl 31 _ HA1.out size31 rfl rfl ?_; intro w2 hbz hgz; have HA2 := Aside.mk hbz; have HG2 := Aside.mk hgz; clear hgz hbz); have HR2 := Aside.mk (HR1.out.grown HG2.out (by simp)); have HZ2 := Aside.mk (HZ1.out.grown HG2.out (by simp)); have HX2 := Aside.mk (HX1.out.of_grown HG2.out (by intro k hk; cases hk; omega)); have HI2 := Aside.mk ((HI1.out.box HA1.out HG2.out).mono (base' := w.heap.size + 3) (by simp)); have HL2 := Aside.mk (HL.out.ext HX2.out); have hsz := HZ2.out.lt; obtain ⟨hc1, hf1⟩ := HA2.out.rules; obtain ⟨hc2, hf2⟩ := HR2.out.rules)
      | (go_at_call 35; refine (control_eq g h r _ _ _ _ (w.heap.size + 3) _ HH.out hg HI2.out (by omega)).mono ?_; rintro e w5 ⟨ar5, cr5, ab5, cb5, rfl, HI5, HG5⟩; have HZ5 := Aside.mk (HZ2.out.growR HG5.out (by decide)))
      | (refine atStore 31 (.tmp 4) (.tmp 20) rfl ?_; refine wpList_store_box _ rfl 31 (.tmp 4) (.tmp 20) rfl (w.heap.size + 2) _ rfl rfl 31 _ HZ5.out size31 rfl rfl ?_; intro w9 hbz hgz; have HZ9 := Aside.mk hbz; have HG9 := Aside.mk hgz; clear hgz hbz))
    refine bodyPost_ret (results_cell_row Try.results16 _ _ (w.heap.size + 2) 31 _ (0, 0) _ rfl HZ9.out Try.underlying31 rfl size31) rfl ?_
    have hgr := ((HX2.out.growR w.heap.size).trans (GrowR.mono (base := w.heap.size + 3) HG5.out (by omega))).then_new HG9.out (by omega)
    exact PassG.of' ((HI5.out.box HZ5.out HG9.out).mono (by omega)) (hgr.below (Nat.le_refl _))
  have d2 : (k == 2) = false := by simpa using h2
  by_cases h3 : k = 3
  · subst h3
    obtain ⟨h, hh⟩ : ∃ h, h = escapeG g r := ⟨_, rfl⟩
    rw [show applyG g 3 r l = h from hh.symm]
    have HH := Aside.mk hh
    clear hh
    go_enter Try.func16, Try.ntmps16
    go_wp2_with (first
      | (refine atLoad 31 (.tmp 2) rfl ?_; refine wpList_load_row rfl 31 (.tmp 2) rfl w.heap.size rfl 31 _ (0, 0) _ HA2.out Try.underlying31 rfl size31 ?_)
      | (refine atLoad 31 (.tmp 2) rfl ?_; refine wpList_load_row rfl 31 (.tmp 2) rfl w.heap.size rfl 31 #[.int .i64 g.W, .int .i64 g.H, .int .i64 g.X, .int .i64 g.Y, .bool g.Wrap, .int .i64 g.A, .int .i64 g.Top, .int .i64 g.Bottom, .int .i64 g.SX, .int .i64 g.SY, .int .i64 g.SA, .bool g.NoWrap, .bool g.Hidden, .slice ar g.Rows.length cr, .slice ab g.Back.length cb] (0, 0) _ HA.out Try.underlying31 rfl size31 ?_)
      | (go_at_call 33; refine (Still_any g _ _ _ _ _ (HRW.out.ext HW.out) (HBW.out.ext HW.out) hg.small hg.smallB).mono ?_; intro e w1 hp; obtain ⟨ar1, cr1, ab1, cb1, rfl, HI1, HB1⟩ := hp.inG; clear hp; have HA1 := Aside.mk (HA.out.ext HB1.out); have HR1 := Aside.mk (HR.out.ext HB1.out); have HZ1 := Aside.mk (HZ.out.ext HB1.out); have HX1 := Aside.mk (HW.out.trans HB1.out))
      | ((refine atStore 31 (.tmp 2) (.tmp 6) rfl ?_; refine wpList_store_box _ rfl 31 (.tmp 2) (.tmp 6) rfl w.heap.size _ rfl rfl 31 _ HA1.out size31 rfl rfl ?_; intro w2 hbz hgz; have HA2 := Aside.mk hbz; have HG2 := Aside.mk hgz; clear hgz hbz); have HR2 := Aside.mk (HR1.out.grown HG2.out (by simp)); have HZ2 := Aside.mk (HZ1.out.grown HG2.out (by simp)); have HX2 := Aside.mk (HX1.out.of_grown HG2.out (by intro k hk; cases hk; omega)); have HI2 := Aside.mk ((HI1.out.box HA1.out HG2.out).mono (base' := w.heap.size + 3) (by simp)); have HL2 := Aside.mk (HL.out.ext HX2.out); have hsz := HZ2.out.lt; obtain ⟨hc1, hf1⟩ := HA2.out.rules; obtain ⟨hc2, hf2⟩ := HR2.out.rules)
      | (go_at_call 36; refine (escape_eq g h r _ _ _ _ (w.heap.size + 3) _ HH.out hg HI2.out (by omega)).mono ?_; rintro e w5 ⟨ar5, cr5, ab5, cb5, rfl, HI5, HG5⟩; have HZ5 := Aside.mk (HZ2.out.growR HG5.out (by decide)))
      | (refine atStore 31 (.tmp 4) (.tmp 26) rfl ?_; refine wpList_store_box _ rfl 31 (.tmp 4) (.tmp 26) rfl (w.heap.size + 2) _ rfl rfl 31 _ HZ5.out size31 rfl rfl ?_; intro w9 hbz hgz; have HZ9 := Aside.mk hbz; have HG9 := Aside.mk hgz; clear hgz hbz))
    refine bodyPost_ret (results_cell_row Try.results16 _ _ (w.heap.size + 2) 31 _ (0, 0) _ rfl HZ9.out Try.underlying31 rfl size31) rfl ?_
    have hgr := ((HX2.out.growR w.heap.size).trans (GrowR.mono (base := w.heap.size + 3) HG5.out (by omega))).then_new HG9.out (by omega)
    exact PassG.of' ((HI5.out.box HZ5.out HG9.out).mono (by omega)) (hgr.below (Nat.le_refl _))
  have d3 : (k == 3) = false := by simpa using h3
  by_cases h4 : k = 4
  · subst h4
    obtain ⟨h, hh⟩ : ∃ h, h = longG g r l := ⟨_, rfl⟩
    rw [show applyG g 4 r l = h from hh.symm]
    have HH := Aside.mk hh
    clear hh
    go_enter Try.func16, Try.ntmps16
    go_wp2_with (first
      | (refine atLoad 31 (.tmp 2) rfl ?_; refine wpList_load_row rfl 31 (.tmp 2) rfl w.heap.size rfl 31 _ (0, 0) _ HA2.out Try.underlying31 rfl size31 ?_)
      | (refine atLoad 31 (.tmp 2) rfl ?_; refine wpList_load_row rfl 31 (.tmp 2) rfl w.heap.size rfl 31 #[.int .i64 g.W, .int .i64 g.H, .int .i64 g.X, .int .i64 g.Y, .bool g.Wrap, .int .i64 g.A, .int .i64 g.Top, .int .i64 g.Bottom, .int .i64 g.SX, .int .i64 g.SY, .int .i64 g.SA, .bool g.NoWrap, .bool g.Hidden, .slice ar g.Rows.length cr, .slice ab g.Back.length cb] (0, 0) _ HA.out Try.underlying31 rfl size31 ?_)
      | (go_at_call 33; refine (Still_any g _ _ _ _ _ (HRW.out.ext HW.out) (HBW.out.ext HW.out) hg.small hg.smallB).mono ?_; intro e w1 hp; obtain ⟨ar1, cr1, ab1, cb1, rfl, HI1, HB1⟩ := hp.inG; clear hp; have HA1 := Aside.mk (HA.out.ext HB1.out); have HR1 := Aside.mk (HR.out.ext HB1.out); have HZ1 := Aside.mk (HZ.out.ext HB1.out); have HX1 := Aside.mk (HW.out.trans HB1.out))
      | ((refine atStore 31 (.tmp 2) (.tmp 6) rfl ?_; refine wpList_store_box _ rfl 31 (.tmp 2) (.tmp 6) rfl w.heap.size _ rfl rfl 31 _ HA1.out size31 rfl rfl ?_; intro w2 hbz hgz; have HA2 := Aside.mk hbz; have HG2 := Aside.mk hgz; clear hgz hbz); have HR2 := Aside.mk (HR1.out.grown HG2.out (by simp)); have HZ2 := Aside.mk (HZ1.out.grown HG2.out (by simp)); have HX2 := Aside.mk (HX1.out.of_grown HG2.out (by intro k hk; cases hk; omega)); have HI2 := Aside.mk ((HI1.out.box HA1.out HG2.out).mono (base' := w.heap.size + 3) (by simp)); have HL2 := Aside.mk (HL.out.ext HX2.out); have hsz := HZ2.out.lt; obtain ⟨hc1, hf1⟩ := HA2.out.rules; obtain ⟨hc2, hf2⟩ := HR2.out.rules)
      | (go_at_call 37; refine (long_eq g h _ r l ap _ _ cp _ _ (w.heap.size + 3) _ HH.out hg hpar HL2.out HAP.out HI2.out (by omega)).mono ?_; rintro e w5 ⟨ar5, cr5, ab5, cb5, rfl, HI5, HG5⟩; have HZ5 := Aside.mk (HZ2.out.growR HG5.out (by decide)))
      | (refine atStore 31 (.tmp 4) (.tmp 31) rfl ?_; refine wpList_store_box _ rfl 31 (.tmp 4) (.tmp 31) rfl (w.heap.size + 2) _ rfl rfl 31 _ HZ5.out size31 rfl rfl ?_; intro w9 hbz hgz; have HZ9 := Aside.mk hbz; have HG9 := Aside.mk hgz; clear hgz hbz))
    refine bodyPost_ret (results_cell_row Try.results16 _ _ (w.heap.size + 2) 31 _ (0, 0) _ rfl HZ9.out Try.underlying31 rfl size31) rfl ?_
    have hgr := ((HX2.out.growR w.heap.size).trans (GrowR.mono (base := w.heap.size + 3) HG5.out (by omega))).then_new HG9.out (by omega)
    exact PassG.of' ((HI5.out.box HZ5.out HG9.out).mono (by omega)) (hgr.below (Nat.le_refl _))
  have d4 : (k == 4) = false := by simpa using h4
  by_cases h5 : k = 5
  · subst h5
    obtain ⟨h, hh⟩ : ∃ h, h = privG g r l := ⟨_, rfl⟩
    rw [show applyG g 5 r l = h from hh.symm]
    have HH := Aside.mk hh
    clear hh
    go_enter Try.func16, Try.ntmps16
    go_wp2_with (first
      | (refine atLoad 31 (.tmp 2) rfl ?_; refine wpList_load_row rfl 31 (.tmp 2) rfl w.heap.size rfl 31 _ (0, 0) _ HA2.out Try.underlying31 rfl size31 ?_)
      | (refine atLoad 31 (.tmp 2) rfl ?_; refine wpList_load_row rfl 31 (.tmp 2) rfl w.heap.size rfl 31 #[.int .i64 g.W, .int .i64 g.H, .int .i64 g.X, .int .i64 g.Y, .bool g.Wrap, .int .i64 g.A, .int .i64 g.Top, .int .i64 g.Bottom, .int .i64 g.SX, .int .i64 g.SY, .int .i64 g.SA, .bool g.NoWrap, .bool g.Hidden, .slice ar g.Rows.length cr, .slice ab g.Back.length cb] (0, 0) _ HA.out Try.underlying31 rfl size31 ?_)
      | (go_at_call 33; refine (Still_any g _ _ _ _ _ (HRW.out.ext HW.out) (HBW.out.ext HW.out) hg.small hg.smallB).mono ?_; intro e w1 hp; obtain ⟨ar1, cr1, ab1, cb1, rfl, HI1, HB1⟩ := hp.inG; clear hp; have HA1 := Aside.mk (HA.out.ext HB1.out); have HR1 := Aside.mk (HR.out.ext HB1.out); have HZ1 := Aside.mk (HZ.out.ext HB1.out); have HX1 := Aside.mk (HW.out.trans HB1.out))
      | ((refine atStore 31 (.tmp 2) (.tmp 6) rfl ?_; refine wpList_store_box _ rfl 31 (.tmp 2) (.tmp 6) rfl w.heap.size _ rfl rfl 31 _ HA1.out size31 rfl rfl ?_; intro w2 hbz hgz; have HA2 := Aside.mk hbz; have HG2 := Aside.mk hgz; clear hgz hbz); have HR2 := Aside.mk (HR1.out.grown HG2.out (by simp)); have HZ2 := Aside.mk (HZ1.out.grown HG2.out (by simp)); have HX2 := Aside.mk (HX1.out.of_grown HG2.out (by intro k hk; cases hk; omega)); have HI2 := Aside.mk ((HI1.out.box HA1.out HG2.out).mono (base' := w.heap.size + 3) (by simp)); have HL2 := Aside.mk (HL.out.ext HX2.out); have hsz := HZ2.out.lt; obtain ⟨hc1, hf1⟩ := HA2.out.rules; obtain ⟨hc2, hf2⟩ := HR2.out.rules)
      | (go_at_call 38; refine (priv_eq g h _ r l ap _ _ cp _ _ (w.heap.size + 3) _ HH.out hl HL2.out HI2.out).mono ?_; rintro e w5 ⟨ar5, cr5, ab5, cb5, rfl, HI5, HG5⟩; have HZ5 := Aside.mk (HZ2.out.growR HG5.out (by decide)))
      | (refine atStore 31 (.tmp 4) (.tmp 36) rfl ?_; refine wpList_store_box _ rfl 31 (.tmp 4) (.tmp 36) rfl (w.heap.size + 2) _ rfl rfl 31 _ HZ5.out size31 rfl rfl ?_; intro w9 hbz hgz; have HZ9 := Aside.mk hbz; have HG9 := Aside.mk hgz; clear hgz hbz))
    refine bodyPost_ret (results_cell_row Try.results16 _ _ (w.heap.size + 2) 31 _ (0, 0) _ rfl HZ9.out Try.underlying31 rfl size31) rfl ?_
    have hgr := ((HX2.out.growR w.heap.size).trans (GrowR.mono (base := w.heap.size + 3) HG5.out (by omega))).then_new HG9.out (by omega)
    exact PassG.of' ((HI5.out.box HZ5.out HG9.out).mono (by omega)) (hgr.below (Nat.le_refl _))
  have d5 : (k == 5) = false := by simpa using h5
  rw [show applyG g k r l = g from by unfold applyG; rw [if_neg h1, if_neg h2, if_neg h3, if_neg h4, if_neg h5]]
  go_enter Try.func16, Try.ntmps16
  go_wp2_with (first
    | (refine atLoad 31 (.tmp 2) rfl ?_; refine wpList_load_row rfl 31 (.tmp 2) rfl w.heap.size rfl 31 _ (0, 0) _ HA2.out Try.underlying31 rfl size31 ?_)
    | (refine atLoad 31 (.tmp 2) rfl ?_; refine wpList_load_row rfl 31 (.tmp 2) rfl w.heap.size rfl 31 #[.int .i64 g.W, .int .i64 g.H, .int .i64 g.X, .int .i64 g.Y, .bool g.Wrap, .int .i64 g.A, .int .i64 g.Top, .int .i64 g.Bottom, .int .i64 g.SX, .int .i64 g.SY, .int .i64 g.SA, .bool g.NoWrap, .bool g.Hidden, .slice ar g.Rows.length cr, .slice ab g.Back.length cb] (0, 0) _ HA.out Try.underlying31 rfl size31 ?_)
    | (go_at_call 33; refine (Still_any g _ _ _ _ _ (HRW.out.ext HW.out) (HBW.out.ext HW.out) hg.small hg.smallB).mono ?_; intro e w1 hp; obtain ⟨ar1, cr1, ab1, cb1, rfl, HI1, HB1⟩ := hp.inG; clear hp; have HA1 := Aside.mk (HA.out.ext HB1.out); have HR1 := Aside.mk (HR.out.ext HB1.out); have HZ1 := Aside.mk (HZ.out.ext HB1.out); have HX1 := Aside.mk (HW.out.trans HB1.out))
    | ((refine atStore 31 (.tmp 2) (.tmp 6) rfl ?_; refine wpList_store_box _ rfl 31 (.tmp 2) (.tmp 6) rfl w.heap.size _ rfl rfl 31 _ HA1.out size31 rfl rfl ?_; intro w2 hbz hgz; have HA2 := Aside.mk hbz; have HG2 := Aside.mk hgz; clear hgz hbz); have HR2 := Aside.mk (HR1.out.grown HG2.out (by simp)); have HZ2 := Aside.mk (HZ1.out.grown HG2.out (by simp)); have HX2 := Aside.mk (HX1.out.of_grown HG2.out (by intro k hk; cases hk; omega)); have HI2 := Aside.mk ((HI1.out.box HA1.out HG2.out).mono (base' := w.heap.size + 3) (by simp)); obtain ⟨hc1, hf1⟩ := HA2.out.rules; obtain ⟨hc2, hf2⟩ := HR2.out.rules)
    | (refine atStore 31 (.tmp 4) (.tmp 37) rfl ?_; refine wpList_store_box _ rfl 31 (.tmp 4) (.tmp 37) rfl (w.heap.size + 2) _ rfl rfl 31 _ HZ2.out size31 rfl rfl ?_; intro w9 hbz hgz; have HZ9 := Aside.mk hbz; have HG9 := Aside.mk hgz; clear hgz hbz))
  refine bodyPost_ret (results_cell_row Try.results16 _ _ (w.heap.size + 2) 31 _ (0, 0) _ rfl HZ9.out Try.underlying31 rfl size31) rfl ?_
  exact PassG.of' ((HI2.out.box HZ2.out HG9.out).mono (by omega)) (HX2.out.of_grown HG9.out (by intro k hk; cases hk; omega))
end Go.Proofs.Ytmehkikkjebnnaa
