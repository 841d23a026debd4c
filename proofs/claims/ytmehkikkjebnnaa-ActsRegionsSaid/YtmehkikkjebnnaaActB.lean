/-
  Walks: acts.line, acts.back.
-/
import Derived.Test.YtmehkikkjebnnaaActA
import Derived.Test.YtmehkikkjebnnaaGridE
set_option linter.unusedVariables false
set_option linter.unusedSimpArgs false
namespace Go.Proofs.Ytmehkikkjebnnaa
open Go.RowKit
attribute [local go_sem] max2_i min2_i max_two min_two
attribute [local go_sem ↓] Go.wp_at_zero Go.wp_at_succ

/-- A screen that is whole. -/
structure WFG (g : Grid) : Prop where
  W : 1 ≤ g.W ∧ g.W ≤ 1000
  H : 1 ≤ g.H ∧ g.H ≤ 1000
  X : 0 ≤ g.X ∧ g.X < g.W
  Y : 0 ≤ g.Y ∧ g.Y < g.H
  SX : 0 ≤ g.SX ∧ g.SX < g.W
  SY : 0 ≤ g.SY ∧ g.SY < g.H
  T : 0 ≤ g.Top ∧ g.Top ≤ g.Bottom ∧ g.Bottom < g.H
  rows : (g.Rows.length : Int) = g.H
  wide : ∀ r ∈ g.Rows, (r.length : Int) = g.W
  back : g.Back.length ≤ 200
  far : ∀ r ∈ g.Back, r.length ≤ 1000
theorem WFG.small {g : Grid} (h : WFG g) : Small g.Rows := ⟨by have := h.rows; have := h.H; omega, fun r hr => by have := h.wide r hr; have := h.W; omega⟩
theorem WFG.smallB {g : Grid} (h : WFG g) : Small g.Back := ⟨by have := h.back; omega, fun r hr => by have := h.far r hr; omega⟩
theorem WFG.W6 {g : Grid} (h : WFG g) : 0 ≤ g.W ∧ g.W ≤ 1000000 := by have := h.W; omega
theorem WFG.H6 {g : Grid} (h : WFG g) : 0 ≤ g.H ∧ g.H ≤ 1000000 := by have := h.H; omega

/-- The screen's rows lie in memory that is the caller's own, from block 'base' on. -/
structure InG (w : World) (base : Nat) (g : Grid) (ar : Option Addr) (cr : Nat) (ab : Option Addr) (cb : Nat) : Prop where
  rows : OwnR w base (.slice ar g.Rows.length cr) g.Rows
  back : OwnR w base (.slice ab g.Back.length cb) g.Back
  apart : ∀ k, (Value.slice ar g.Rows.length cr).ownBlock = some k → (Value.slice ab g.Back.length cb).ownBlock ≠ some k
theorem InG.ext {w w' : World} {base : Nat} {g : Grid} {ar ab : Option Addr} {cr cb : Nat} (h : InG w base g ar cr ab cb) (he : Ext w w') : InG w' base g ar cr ab cb := ⟨h.rows.ext he, h.back.ext he, h.apart⟩
theorem InG.mono {w : World} {base base' : Nat} {g : Grid} {ar ab : Option Addr} {cr cb : Nat} (h : InG w base g ar cr ab cb) (hb : base' ≤ base) : InG w base' g ar cr ab cb := ⟨h.rows.mono hb, h.back.mono hb, h.apart⟩
theorem InG.keep {w w' : World} {base k : Nat} {g : Grid} {ar ab : Option Addr} {cr cb : Nat} (h : InG w base g ar cr ab cb) (hg : w.grownBy w' (some k)) (hk : ∀ j, base ≤ j → j = k → False) : InG w' base g ar cr ab cb := ⟨h.rows.keep hg hk, h.back.keep hg hk, h.apart⟩
theorem InG.same {w : World} {base : Nat} {g g' : Grid} {ar ab : Option Addr} {cr cb : Nat} (h : InG w base g ar cr ab cb) (h1 : g'.Rows = g.Rows) (h2 : g'.Back = g.Back) : InG w base g' ar cr ab cb :=
  ⟨by rw [h1]; exact h.rows, by rw [h2]; exact h.back, by rw [h1, h2]; exact h.apart⟩
theorem own_box {w w' : World} {base n b : Nat} {e t : TypeId} {sz : Nat} {v : Value} {xs : List Value} {cs : Array Value} (h : w.ownsRow base e sz v n xs) (hb : Box w b t cs) (hne : e ≠ t) (hg : w.grownBy w' (some b)) : w'.ownsRow base e sz v n xs := by
  refine h.kept hg ?_
  rcases h.2 with ⟨rfl, _⟩ | ⟨g, cap, cur, rfl, _, hh, _⟩
  · exact .inl rfl
  · refine .inr fun hk => ?_
    have hgb : g = b := by simpa [Value.ownBlock] using hk
    subst hgb
    unfold Box at hb
    rw [hb] at hh
    injection hh with hh
    injection hh with _ ht
    exact hne ht.symm
theorem OwnR.box {w w' : World} {base b : Nat} {v : Value} {ll : List (List Cell)} {cs : Array Value} (h : OwnR w base v ll) (hb : Box w b 31 cs) (hg : w.grownBy w' (some b)) : OwnR w' base v ll := by
  obtain ⟨vs, h1, h2⟩ := h.ex
  exact ⟨vs, own_box h1 hb (by decide) hg, h2.imp fun a c hab => own_box hab hb (by decide) hg⟩
/-- A variable of a screen's type is written: the rows stay. -/
theorem InG.box {w w' : World} {base b : Nat} {g : Grid} {ar ab : Option Addr} {cr cb : Nat} {cs : Array Value} (h : InG w base g ar cr ab cb) (hb : Box w b 31 cs) (hg : w.grownBy w' (some b)) : InG w' base g ar cr ab cb :=
  ⟨h.rows.box hb hg, h.back.box hb hg, h.apart⟩
theorem Ext.any {w w' : World} (h : Ext w w') (row : Option Nat) : w.grownBy w' row := ⟨h.os, h.tape, h.output, h.size, fun k hk _ => h.block k hk⟩
theorem grownBy_ext {w w' : World} (h : w.grownBy w' none) : Ext w w' := ⟨h.os, h.tape, h.output, h.size, fun k hk => h.block k hk (by simp)⟩
/-- What a call leaves that hands back a screen whose rows are the caller's own, and turned no old block but 'row'. -/
def PassA (base : Nat) (w : World) (row : Option Nat) (g : Grid) (e : Ending) (w' : World) : Prop :=
  ∃ ar cr ab cb, e = .returned (.agg #[.int .i64 g.W, .int .i64 g.H, .int .i64 g.X, .int .i64 g.Y, .bool g.Wrap, .int .i64 g.A, .int .i64 g.Top, .int .i64 g.Bottom, .int .i64 g.SX, .int .i64 g.SY, .int .i64 g.SA, .bool g.NoWrap, .bool g.Hidden, .slice ar g.Rows.length cr, .slice ab g.Back.length cb]) ∧ Aside (InG w' base g ar cr ab cb) ∧ Aside (w.grownBy w' row)
theorem PassA.of {base : Nat} {w w' : World} {row : Option Nat} {g : Grid} {ar ab : Option Addr} {cr cb : Nat} (h : InG w' base g ar cr ab cb) (hb : w.grownBy w' row) : PassA base w row g (.returned (.agg #[.int .i64 g.W, .int .i64 g.H, .int .i64 g.X, .int .i64 g.Y, .bool g.Wrap, .int .i64 g.A, .int .i64 g.Top, .int .i64 g.Bottom, .int .i64 g.SX, .int .i64 g.SY, .int .i64 g.SA, .bool g.NoWrap, .bool g.Hidden, .slice ar g.Rows.length cr, .slice ab g.Back.length cb])) w' :=
  ⟨ar, cr, ab, cb, rfl, ⟨h⟩, ⟨hb⟩⟩
theorem PassG.inG {base : Nat} {w w' : World} {g : Grid} {e : Ending} (h : PassG base w g e w') : ∃ ar cr ab cb, e = .returned (.agg #[.int .i64 g.W, .int .i64 g.H, .int .i64 g.X, .int .i64 g.Y, .bool g.Wrap, .int .i64 g.A, .int .i64 g.Top, .int .i64 g.Bottom, .int .i64 g.SX, .int .i64 g.SY, .int .i64 g.SA, .bool g.NoWrap, .bool g.Hidden, .slice ar g.Rows.length cr, .slice ab g.Back.length cb]) ∧ Aside (InG w' base g ar cr ab cb) ∧ Aside (Below base w w') := by
  obtain ⟨r, ar, cr, ab, cb, he, ⟨rfl⟩, h1, h2, h3, h4⟩ := h
  exact ⟨ar, cr, ab, cb, he, ⟨⟨h1.out, h2.out, h3.out⟩⟩, h4⟩

def lineG (g : Grid) : Grid := if g.Y = g.Bottom then upG g g.Top g.Bottom 1 else if g.Y < g.H - 1 then { g with Y := g.Y + 1 } else g
def backG (g : Grid) : Grid := if g.Y = g.Top then downG g g.Top g.Bottom 1 else if g.Y > 0 then { g with Y := g.Y - 1 } else g

set_option maxRecDepth 100000 in
set_option maxHeartbeats 1000000 in
theorem line_any (g : Grid) (ar ab : Option Addr) (cr cb base : Nat) (w : World) (hg : WFG g) (hin : InG w base g ar cr ab cb) (hbase : base ≤ w.heap.size) :
    Calls Try.prog 55 #[.agg #[.int .i64 g.W, .int .i64 g.H, .int .i64 g.X, .int .i64 g.Y, .bool g.Wrap, .int .i64 g.A, .int .i64 g.Top, .int .i64 g.Bottom, .int .i64 g.SX, .int .i64 g.SY, .int .i64 g.SA, .bool g.NoWrap, .bool g.Hidden, .slice ar g.Rows.length cr, .slice ab g.Back.length cb]] w (PassA base w none (lineG g)) := by
  have HIN := Aside.mk hin
  clear hin
  have HA := Aside.mk ((Box.new w 31 #[.int .i64 g.W, .int .i64 g.H, .int .i64 g.X, .int .i64 g.Y, .bool g.Wrap, .int .i64 g.A, .int .i64 g.Top, .int .i64 g.Bottom, .int .i64 g.SX, .int .i64 g.SY, .int .i64 g.SA, .bool g.NoWrap, .bool g.Hidden, .slice ar g.Rows.length cr, .slice ab g.Back.length cb]).alloc (.cells #[.int .i64 0, .int .i64 0, .int .i64 0, .int .i64 0, .bool false, .int .i64 0, .int .i64 0, .int .i64 0, .int .i64 0, .int .i64 0, .int .i64 0, .bool false, .bool false, .slice none 0 0, .slice none 0 0] 31))
  have HZ := Aside.mk (Box.newAt (w.alloc (.cells #[.int .i64 g.W, .int .i64 g.H, .int .i64 g.X, .int .i64 g.Y, .bool g.Wrap, .int .i64 g.A, .int .i64 g.Top, .int .i64 g.Bottom, .int .i64 g.SX, .int .i64 g.SY, .int .i64 g.SA, .bool g.NoWrap, .bool g.Hidden, .slice ar g.Rows.length cr, .slice ab g.Back.length cb] 31)) 31 #[.int .i64 0, .int .i64 0, .int .i64 0, .int .i64 0, .bool false, .int .i64 0, .int .i64 0, .int .i64 0, .int .i64 0, .int .i64 0, .int .i64 0, .bool false, .bool false, .slice none 0 0, .slice none 0 0] (w.heap.size + 1) (by simp))
  have HW := Aside.mk ((Ext.alloc1 w (.cells #[.int .i64 g.W, .int .i64 g.H, .int .i64 g.X, .int .i64 g.Y, .bool g.Wrap, .int .i64 g.A, .int .i64 g.Top, .int .i64 g.Bottom, .int .i64 g.SX, .int .i64 g.SY, .int .i64 g.SA, .bool g.NoWrap, .bool g.Hidden, .slice ar g.Rows.length cr, .slice ab g.Back.length cb] 31)).alloc (.cells #[.int .i64 0, .int .i64 0, .int .i64 0, .int .i64 0, .bool false, .int .i64 0, .int .i64 0, .int .i64 0, .int .i64 0, .int .i64 0, .int .i64 0, .bool false, .bool false, .slice none 0 0, .slice none 0 0] 31))
  have hH := hg.H
  have hY := hg.Y
  have e1 : IntKind.i64.wrap (g.H - 1) = g.H - 1 := IntWalk.i64_in _ (by omega)
  have e2 : IntKind.i64.wrap (g.Y + 1) = g.Y + 1 := IntWalk.i64_in _ (by omega)
  by_cases h1 : g.Y = g.Bottom
  · have hl : lineG g = upG g g.Top g.Bottom 1 := by unfold lineG; rw [if_pos h1]
    rw [hl]
    have hd : (g.Y == g.Bottom) = true := by simpa using h1
    clear h1
    go_enter Try.func55, Try.ntmps55
    go_wp2_with (first
      | (refine atLoad 31 (.tmp 1) rfl ?_; refine wpList_load_row rfl 31 (.tmp 1) rfl w.heap.size rfl 31 #[.int .i64 g.W, .int .i64 g.H, .int .i64 g.X, .int .i64 g.Y, .bool g.Wrap, .int .i64 g.A, .int .i64 g.Top, .int .i64 g.Bottom, .int .i64 g.SX, .int .i64 g.SY, .int .i64 g.SA, .bool g.NoWrap, .bool g.Hidden, .slice ar g.Rows.length cr, .slice ab g.Back.length cb] (0, 0) _ HA.out Try.underlying31 rfl size31 ?_)
      | (go_at_call 71; refine (Up_any g _ _ _ _ _ _ _ _ (HIN.out.rows.at_.ext HW.out) (HIN.out.back.at_.ext HW.out) hg.small hg.smallB hg.W6 hg.H6).mono ?_; intro e w1 hp; obtain ⟨ar1, cr1, ab1, cb1, rfl, HI1, HB1⟩ := hp.inG; clear hp; have HZ1 := Aside.mk (HZ.out.ext HB1.out))
      | (refine atStore 31 (.tmp 2) (.tmp 14) rfl ?_; refine wpList_store_box _ rfl 31 (.tmp 2) (.tmp 14) rfl (w.heap.size + 1) _ rfl rfl 31 _ HZ1.out size31 rfl rfl ?_; intro w2 hbz hgz; have HZ2 := Aside.mk hbz; have HG2 := Aside.mk hgz; clear hgz hbz))
    refine bodyPost_ret (results_cell_row Try.results55 _ _ (w.heap.size + 1) 31 _ (0, 0) _ rfl HZ2.out Try.underlying31 rfl size31) rfl ?_
    have hs : base ≤ w.heap.size + 2 := by omega
    exact PassA.of ((HI1.out.keep HG2.out (by intro j hj hk; simp at hj; omega)).mono (by simp; omega)) (((HW.out.trans HB1.out).of_grown HG2.out (by intro k hk; cases hk; omega)).any _)
  · have hd : (g.Y == g.Bottom) = false := by simpa using h1
    by_cases h2 : g.Y < g.H - 1
    · have hl : lineG g = { g with Y := g.Y + 1 } := by unfold lineG; rw [if_neg h1, if_pos h2]
      rw [hl]
      clear h1
      have HA1 := Aside.mk ((Box.new w 31 #[.int .i64 { g with Y := g.Y + 1 }.W, .int .i64 { g with Y := g.Y + 1 }.H, .int .i64 { g with Y := g.Y + 1 }.X, .int .i64 { g with Y := g.Y + 1 }.Y, .bool { g with Y := g.Y + 1 }.Wrap, .int .i64 { g with Y := g.Y + 1 }.A, .int .i64 { g with Y := g.Y + 1 }.Top, .int .i64 { g with Y := g.Y + 1 }.Bottom, .int .i64 { g with Y := g.Y + 1 }.SX, .int .i64 { g with Y := g.Y + 1 }.SY, .int .i64 { g with Y := g.Y + 1 }.SA, .bool { g with Y := g.Y + 1 }.NoWrap, .bool { g with Y := g.Y + 1 }.Hidden, .slice ar g.Rows.length cr, .slice ab g.Back.length cb]).alloc (.cells #[.int .i64 0, .int .i64 0, .int .i64 0, .int .i64 0, .bool false, .int .i64 0, .int .i64 0, .int .i64 0, .int .i64 0, .int .i64 0, .int .i64 0, .bool false, .bool false, .slice none 0 0, .slice none 0 0] 31))
      have HZ1 := Aside.mk (Box.newAt (w.alloc (.cells #[.int .i64 { g with Y := g.Y + 1 }.W, .int .i64 { g with Y := g.Y + 1 }.H, .int .i64 { g with Y := g.Y + 1 }.X, .int .i64 { g with Y := g.Y + 1 }.Y, .bool { g with Y := g.Y + 1 }.Wrap, .int .i64 { g with Y := g.Y + 1 }.A, .int .i64 { g with Y := g.Y + 1 }.Top, .int .i64 { g with Y := g.Y + 1 }.Bottom, .int .i64 { g with Y := g.Y + 1 }.SX, .int .i64 { g with Y := g.Y + 1 }.SY, .int .i64 { g with Y := g.Y + 1 }.SA, .bool { g with Y := g.Y + 1 }.NoWrap, .bool { g with Y := g.Y + 1 }.Hidden, .slice ar g.Rows.length cr, .slice ab g.Back.length cb] 31)) 31 #[.int .i64 0, .int .i64 0, .int .i64 0, .int .i64 0, .bool false, .int .i64 0, .int .i64 0, .int .i64 0, .int .i64 0, .int .i64 0, .int .i64 0, .bool false, .bool false, .slice none 0 0, .slice none 0 0] (w.heap.size + 1) (by simp))
      have HW1 := Aside.mk ((Ext.alloc1 w (.cells #[.int .i64 { g with Y := g.Y + 1 }.W, .int .i64 { g with Y := g.Y + 1 }.H, .int .i64 { g with Y := g.Y + 1 }.X, .int .i64 { g with Y := g.Y + 1 }.Y, .bool { g with Y := g.Y + 1 }.Wrap, .int .i64 { g with Y := g.Y + 1 }.A, .int .i64 { g with Y := g.Y + 1 }.Top, .int .i64 { g with Y := g.Y + 1 }.Bottom, .int .i64 { g with Y := g.Y + 1 }.SX, .int .i64 { g with Y := g.Y + 1 }.SY, .int .i64 { g with Y := g.Y + 1 }.SA, .bool { g with Y := g.Y + 1 }.NoWrap, .bool { g with Y := g.Y + 1 }.Hidden, .slice ar g.Rows.length cr, .slice ab g.Back.length cb] 31)).alloc (.cells #[.int .i64 0, .int .i64 0, .int .i64 0, .int .i64 0, .bool false, .int .i64 0, .int .i64 0, .int .i64 0, .int .i64 0, .int .i64 0, .int .i64 0, .bool false, .bool false, .slice none 0 0, .slice none 0 0] 31))
      go_enter Try.func55, Try.ntmps55
      go_wp2_with (first
        | (refine atLoad 31 (.tmp 1) rfl ?_; refine wpList_load_row rfl 31 (.tmp 1) rfl w.heap.size rfl 31 _ (0, 0) _ HA1.out Try.underlying31 rfl size31 ?_)
        | (refine atStore 31 (.tmp 2) (.tmp 26) rfl ?_; refine wpList_store_box _ rfl 31 (.tmp 2) (.tmp 26) rfl (w.heap.size + 1) _ rfl rfl 31 _ HZ1.out size31 rfl rfl ?_; intro w2 hbz hgz; have HZ2 := Aside.mk hbz; have HG2 := Aside.mk hgz; clear hgz hbz))
      refine bodyPost_ret (results_cell_row Try.results55 _ _ (w.heap.size + 1) 31 _ (0, 0) _ rfl HZ2.out Try.underlying31 rfl size31) rfl ?_
      have hx := HW1.out.of_grown HG2.out (by intro k hk; cases hk; omega)
      exact PassA.of ((HIN.out.ext hx).same rfl rfl) (hx.any _)
    · have hl : lineG g = g := by unfold lineG; rw [if_neg h1, if_neg h2]
      rw [hl]
      clear h1
      go_enter Try.func55, Try.ntmps55
      go_wp2_with (first
        | (refine atLoad 31 (.tmp 1) rfl ?_; refine wpList_load_row rfl 31 (.tmp 1) rfl w.heap.size rfl 31 _ (0, 0) _ HA.out Try.underlying31 rfl size31 ?_)
        | (refine atStore 31 (.tmp 2) (.tmp 26) rfl ?_; refine wpList_store_box _ rfl 31 (.tmp 2) (.tmp 26) rfl (w.heap.size + 1) _ rfl rfl 31 _ HZ.out size31 rfl rfl ?_; intro w2 hbz hgz; have HZ2 := Aside.mk hbz; have HG2 := Aside.mk hgz; clear hgz hbz))
      refine bodyPost_ret (results_cell_row Try.results55 _ _ (w.heap.size + 1) 31 _ (0, 0) _ rfl HZ2.out Try.underlying31 rfl size31) rfl ?_
      have hx := HW.out.of_grown HG2.out (by intro k hk; cases hk; omega)
      exact PassA.of (HIN.out.ext hx) (hx.any _)

set_option maxRecDepth 100000 in
set_option maxHeartbeats 1000000 in
theorem back_any (g : Grid) (ar ab : Option Addr) (cr cb base : Nat) (w : World) (hg : WFG g) (hin : InG w base g ar cr ab cb) (hbase : base ≤ w.heap.size) :
    Calls Try.prog 60 #[.agg #[.int .i64 g.W, .int .i64 g.H, .int .i64 g.X, .int .i64 g.Y, .bool g.Wrap, .int .i64 g.A, .int .i64 g.Top, .int .i64 g.Bottom, .int .i64 g.SX, .int .i64 g.SY, .int .i64 g.SA, .bool g.NoWrap, .bool g.Hidden, .slice ar g.Rows.length cr, .slice ab g.Back.length cb]] w (PassA base w none (backG g)) := by
  have HIN := Aside.mk hin
  clear hin
  have HA := Aside.mk ((Box.new w 31 #[.int .i64 g.W, .int .i64 g.H, .int .i64 g.X, .int .i64 g.Y, .bool g.Wrap, .int .i64 g.A, .int .i64 g.Top, .int .i64 g.Bottom, .int .i64 g.SX, .int .i64 g.SY, .int .i64 g.SA, .bool g.NoWrap, .bool g.Hidden, .slice ar g.Rows.length cr, .slice ab g.Back.length cb]).alloc (.cells #[.int .i64 0, .int .i64 0, .int .i64 0, .int .i64 0, .bool false, .int .i64 0, .int .i64 0, .int .i64 0, .int .i64 0, .int .i64 0, .int .i64 0, .bool false, .bool false, .slice none 0 0, .slice none 0 0] 31))
  have HZ := Aside.mk (Box.newAt (w.alloc (.cells #[.int .i64 g.W, .int .i64 g.H, .int .i64 g.X, .int .i64 g.Y, .bool g.Wrap, .int .i64 g.A, .int .i64 g.Top, .int .i64 g.Bottom, .int .i64 g.SX, .int .i64 g.SY, .int .i64 g.SA, .bool g.NoWrap, .bool g.Hidden, .slice ar g.Rows.length cr, .slice ab g.Back.length cb] 31)) 31 #[.int .i64 0, .int .i64 0, .int .i64 0, .int .i64 0, .bool false, .int .i64 0, .int .i64 0, .int .i64 0, .int .i64 0, .int .i64 0, .int .i64 0, .bool false, .bool false, .slice none 0 0, .slice none 0 0] (w.heap.size + 1) (by simp))
  have HW := Aside.mk ((Ext.alloc1 w (.cells #[.int .i64 g.W, .int .i64 g.H, .int .i64 g.X, .int .i64 g.Y, .bool g.Wrap, .int .i64 g.A, .int .i64 g.Top, .int .i64 g.Bottom, .int .i64 g.SX, .int .i64 g.SY, .int .i64 g.SA, .bool g.NoWrap, .bool g.Hidden, .slice ar g.Rows.length cr, .slice ab g.Back.length cb] 31)).alloc (.cells #[.int .i64 0, .int .i64 0, .int .i64 0, .int .i64 0, .bool false, .int .i64 0, .int .i64 0, .int .i64 0, .int .i64 0, .int .i64 0, .int .i64 0, .bool false, .bool false, .slice none 0 0, .slice none 0 0] 31))
  have hH := hg.H
  have hY := hg.Y
  have e1 : IntKind.i64.wrap (g.Y - 1) = g.Y - 1 := IntWalk.i64_in _ (by omega)
  by_cases h1 : g.Y = g.Top
  · have hl : backG g = downG g g.Top g.Bottom 1 := by unfold backG; rw [if_pos h1]
    rw [hl]
    have hd : (g.Y == g.Top) = true := by simpa using h1
    clear h1
    go_enter Try.func60, Try.ntmps60
    go_wp2_with (first
      | (refine atLoad 31 (.tmp 1) rfl ?_; refine wpList_load_row rfl 31 (.tmp 1) rfl w.heap.size rfl 31 #[.int .i64 g.W, .int .i64 g.H, .int .i64 g.X, .int .i64 g.Y, .bool g.Wrap, .int .i64 g.A, .int .i64 g.Top, .int .i64 g.Bottom, .int .i64 g.SX, .int .i64 g.SY, .int .i64 g.SA, .bool g.NoWrap, .bool g.Hidden, .slice ar g.Rows.length cr, .slice ab g.Back.length cb] (0, 0) _ HA.out Try.underlying31 rfl size31 ?_)
      | (go_at_call 72; refine (Down_any g _ _ _ _ _ _ _ _ (HIN.out.rows.at_.ext HW.out) (HIN.out.back.at_.ext HW.out) hg.small hg.smallB hg.W6 hg.H6).mono ?_; intro e w1 hp; obtain ⟨ar1, cr1, ab1, cb1, rfl, HI1, HB1⟩ := hp.inG; clear hp; have HZ1 := Aside.mk (HZ.out.ext HB1.out))
      | (refine atStore 31 (.tmp 2) (.tmp 14) rfl ?_; refine wpList_store_box _ rfl 31 (.tmp 2) (.tmp 14) rfl (w.heap.size + 1) _ rfl rfl 31 _ HZ1.out size31 rfl rfl ?_; intro w2 hbz hgz; have HZ2 := Aside.mk hbz; have HG2 := Aside.mk hgz; clear hgz hbz))
    refine bodyPost_ret (results_cell_row Try.results60 _ _ (w.heap.size + 1) 31 _ (0, 0) _ rfl HZ2.out Try.underlying31 rfl size31) rfl ?_
    have hs : base ≤ w.heap.size + 2 := by omega
    exact PassA.of ((HI1.out.keep HG2.out (by intro j hj hk; simp at hj; omega)).mono (by simp; omega)) (((HW.out.trans HB1.out).of_grown HG2.out (by intro k hk; cases hk; omega)).any _)
  · have hd : (g.Y == g.Top) = false := by simpa using h1
    by_cases h2 : g.Y > 0
    · have hl : backG g = { g with Y := g.Y - 1 } := by unfold backG; rw [if_neg h1, if_pos h2]
      rw [hl]
      clear h1
      have HA1 := Aside.mk ((Box.new w 31 #[.int .i64 { g with Y := g.Y - 1 }.W, .int .i64 { g with Y := g.Y - 1 }.H, .int .i64 { g with Y := g.Y - 1 }.X, .int .i64 { g with Y := g.Y - 1 }.Y, .bool { g with Y := g.Y - 1 }.Wrap, .int .i64 { g with Y := g.Y - 1 }.A, .int .i64 { g with Y := g.Y - 1 }.Top, .int .i64 { g with Y := g.Y - 1 }.Bottom, .int .i64 { g with Y := g.Y - 1 }.SX, .int .i64 { g with Y := g.Y - 1 }.SY, .int .i64 { g with Y := g.Y - 1 }.SA, .bool { g with Y := g.Y - 1 }.NoWrap, .bool { g with Y := g.Y - 1 }.Hidden, .slice ar g.Rows.length cr, .slice ab g.Back.length cb]).alloc (.cells #[.int .i64 0, .int .i64 0, .int .i64 0, .int .i64 0, .bool false, .int .i64 0, .int .i64 0, .int .i64 0, .int .i64 0, .int .i64 0, .int .i64 0, .bool false, .bool false, .slice none 0 0, .slice none 0 0] 31))
      have HZ1 := Aside.mk (Box.newAt (w.alloc (.cells #[.int .i64 { g with Y := g.Y - 1 }.W, .int .i64 { g with Y := g.Y - 1 }.H, .int .i64 { g with Y := g.Y - 1 }.X, .int .i64 { g with Y := g.Y - 1 }.Y, .bool { g with Y := g.Y - 1 }.Wrap, .int .i64 { g with Y := g.Y - 1 }.A, .int .i64 { g with Y := g.Y - 1 }.Top, .int .i64 { g with Y := g.Y - 1 }.Bottom, .int .i64 { g with Y := g.Y - 1 }.SX, .int .i64 { g with Y := g.Y - 1 }.SY, .int .i64 { g with Y := g.Y - 1 }.SA, .bool { g with Y := g.Y - 1 }.NoWrap, .bool { g with Y := g.Y - 1 }.Hidden, .slice ar g.Rows.length cr, .slice ab g.Back.length cb] 31)) 31 #[.int .i64 0, .int .i64 0, .int .i64 0, .int .i64 0, .bool false, .int .i64 0, .int .i64 0, .int .i64 0, .int .i64 0, .int .i64 0, .int .i64 0, .bool false, .bool false, .slice none 0 0, .slice none 0 0] (w.heap.size + 1) (by simp))
      have HW1 := Aside.mk ((Ext.alloc1 w (.cells #[.int .i64 { g with Y := g.Y - 1 }.W, .int .i64 { g with Y := g.Y - 1 }.H, .int .i64 { g with Y := g.Y - 1 }.X, .int .i64 { g with Y := g.Y - 1 }.Y, .bool { g with Y := g.Y - 1 }.Wrap, .int .i64 { g with Y := g.Y - 1 }.A, .int .i64 { g with Y := g.Y - 1 }.Top, .int .i64 { g with Y := g.Y - 1 }.Bottom, .int .i64 { g with Y := g.Y - 1 }.SX, .int .i64 { g with Y := g.Y - 1 }.SY, .int .i64 { g with Y := g.Y - 1 }.SA, .bool { g with Y := g.Y - 1 }.NoWrap, .bool { g with Y := g.Y - 1 }.Hidden, .slice ar g.Rows.length cr, .slice ab g.Back.length cb] 31)).alloc (.cells #[.int .i64 0, .int .i64 0, .int .i64 0, .int .i64 0, .bool false, .int .i64 0, .int .i64 0, .int .i64 0, .int .i64 0, .int .i64 0, .int .i64 0, .bool false, .bool false, .slice none 0 0, .slice none 0 0] 31))
      go_enter Try.func60, Try.ntmps60
      go_wp2_with (first
        | (refine atLoad 31 (.tmp 1) rfl ?_; refine wpList_load_row rfl 31 (.tmp 1) rfl w.heap.size rfl 31 _ (0, 0) _ HA1.out Try.underlying31 rfl size31 ?_)
        | (refine atStore 31 (.tmp 2) (.tmp 23) rfl ?_; refine wpList_store_box _ rfl 31 (.tmp 2) (.tmp 23) rfl (w.heap.size + 1) _ rfl rfl 31 _ HZ1.out size31 rfl rfl ?_; intro w2 hbz hgz; have HZ2 := Aside.mk hbz; have HG2 := Aside.mk hgz; clear hgz hbz))
      refine bodyPost_ret (results_cell_row Try.results60 _ _ (w.heap.size + 1) 31 _ (0, 0) _ rfl HZ2.out Try.underlying31 rfl size31) rfl ?_
      have hx := HW1.out.of_grown HG2.out (by intro k hk; cases hk; omega)
      exact PassA.of ((HIN.out.ext hx).same rfl rfl) (hx.any _)
    · have hl : backG g = g := by unfold backG; rw [if_neg h1, if_neg h2]
      rw [hl]
      clear h1
      go_enter Try.func60, Try.ntmps60
      go_wp2_with (first
        | (refine atLoad 31 (.tmp 1) rfl ?_; refine wpList_load_row rfl 31 (.tmp 1) rfl w.heap.size rfl 31 _ (0, 0) _ HA.out Try.underlying31 rfl size31 ?_)
        | (refine atStore 31 (.tmp 2) (.tmp 23) rfl ?_; refine wpList_store_box _ rfl 31 (.tmp 2) (.tmp 23) rfl (w.heap.size + 1) _ rfl rfl 31 _ HZ.out size31 rfl rfl ?_; intro w2 hbz hgz; have HZ2 := Aside.mk hbz; have HG2 := Aside.mk hgz; clear hgz hbz))
      refine bodyPost_ret (results_cell_row Try.results60 _ _ (w.heap.size + 1) 31 _ (0, 0) _ rfl HZ2.out Try.underlying31 rfl size31) rfl ?_
      have hx := HW.out.of_grown HG2.out (by intro k hk; cases hk; omega)
      exact PassA.of (HIN.out.ext hx) (hx.any _)

end Go.Proofs.Ytmehkikkjebnnaa
