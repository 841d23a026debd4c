/-
  Walks: acts.put.
-/
import Derived.Test.YtmehkikkjebnnaaActD
set_option linter.unusedVariables false
set_option linter.unusedSimpArgs false
namespace Go.Proofs.Ytmehkikkjebnnaa
open Go.RowKit
attribute [local go_sem] max2_i min2_i max_two min_two
attribute [local go_sem ↓] Go.wp_at_zero Go.wp_at_succ

theorem line_eq (g h : Grid) (ar ab : Option Addr) (cr cb base : Nat) (w : World) (hh : h = lineG g) (hg : WFG g) (hin : InG w base g ar cr ab cb) (hbase : base ≤ w.heap.size) :
    Calls Try.prog 55 #[.agg #[.int .i64 g.W, .int .i64 g.H, .int .i64 g.X, .int .i64 g.Y, .bool g.Wrap, .int .i64 g.A, .int .i64 g.Top, .int .i64 g.Bottom, .int .i64 g.SX, .int .i64 g.SY, .int .i64 g.SA, .bool g.NoWrap, .bool g.Hidden, .slice ar g.Rows.length cr, .slice ab g.Back.length cb]] w (PassA base w none h) := hh ▸ line_any g ar ab cr cb base w hg hin hbase
theorem turn_eq (g t : Grid) (n : Nat) (cap : Array Value) (f : List Cell → List Cell) (ar ab : Option Addr) (cr cb base : Nat) (w : World) (ht : t = turnG g f) (hg : WFG g) (hin : InG w base g ar cr ab cb) (hbase : base ≤ w.heap.size) (hf : Turns w n cap f)
    (hcf : ∀ (args : Array Value) (w : World), (callFunc n args).run Try.prog w = .ok (.enter n args) w) :
    Calls Try.prog 56 #[.agg #[.int .i64 g.W, .int .i64 g.H, .int .i64 g.X, .int .i64 g.Y, .bool g.Wrap, .int .i64 g.A, .int .i64 g.Top, .int .i64 g.Bottom, .int .i64 g.SX, .int .i64 g.SY, .int .i64 g.SA, .bool g.NoWrap, .bool g.Hidden, .slice ar g.Rows.length cr, .slice ab g.Back.length cb], .func (.func n) #[] cap] w (PassA base w (Value.slice ar g.Rows.length cr).ownBlock t) := ht ▸ turn_any g n cap f ar ab cr cb base w hg hin hbase hf hcf
theorem OwnR.ne_box {w : World} {base b : Nat} {v : Value} {ll : List (List Cell)} {cs : Array Value} {t : TypeId} (h : OwnR w base v ll) (hb : Box w b t cs) (hne : 51 ≠ t) : some b ≠ v.ownBlock := by
  obtain ⟨vs, h1, _⟩ := h.ex
  intro hk
  rcases h1.2 with ⟨rfl, _⟩ | ⟨g, cap, cur, rfl, _, hh, _⟩
  · simp [Value.ownBlock] at hk
  · have hgb : b = g := by simpa [Value.ownBlock] using hk
    subst hgb
    unfold Box at hb
    rw [hb] at hh
    injection hh with hh
    injection hh with _ ht
    exact hne ht.symm

theorem _root_.Go.World.grownBy.after {w W w' : World} {row : Option Nat} (k : W.grownBy w' row) (h : Ext w W) : w.grownBy w' row :=
  ⟨k.os.trans h.os, k.tape.trans h.tape, k.output.trans h.output, Nat.le_trans h.size k.size, fun i hi hne => (k.block i (Nat.lt_of_lt_of_le hi h.size) hne).trans (h.block i hi)⟩
theorem _root_.Go.World.grownBy.then_new {w w1 w2 : World} {row : Option Nat} {b : Nat} (h : w.grownBy w1 row) (k : w1.grownBy w2 (some b)) (hb : w.heap.size ≤ b) : w.grownBy w2 row :=
  ⟨k.os.trans h.os, k.tape.trans h.tape, k.output.trans h.output, Nat.le_trans h.size k.size, fun i hi hne => (k.block i (Nat.lt_of_lt_of_le hi h.size) (by intro e; injection e with e; omega)).trans (h.block i hi hne)⟩

/-- What a call leaves of old memory that may write outer rows of the caller's own: all below 'base', and all that is no outer row. -/
structure GrowR (base : Nat) (w w' : World) : Prop where
  os : w'.os = w.os
  tape : w'.tape = w.tape
  output : w'.output = w.output
  size : w.heap.size ≤ w'.heap.size
  block : ∀ k, k < w.heap.size → (k < base ∨ ¬ ∃ cs fr, w.heap[k]? = some (.cells cs 51 fr)) → w'.heap[k]? = w.heap[k]?
theorem Ext.growR {w w' : World} (h : Ext w w') (base : Nat) : GrowR base w w' := ⟨h.os, h.tape, h.output, h.size, fun k hk _ => h.block k hk⟩
theorem GrowR.trans {base : Nat} {a b c : World} (h : GrowR base a b) (k : GrowR base b c) : GrowR base a c :=
  ⟨k.os.trans h.os, k.tape.trans h.tape, k.output.trans h.output, Nat.le_trans h.size k.size, fun i hi hc => by
    have h1 := h.block i hi hc
    rw [← h1]
    refine k.block i (Nat.lt_of_lt_of_le hi h.size) (hc.imp id fun hn => ?_)
    rw [h1]
    exact hn⟩
theorem GrowR.of_row {base : Nat} {w w' : World} {v : Value} {ll : List (List Cell)} (h : w.grownBy w' v.ownBlock) (hr : OwnR w base v ll) : GrowR base w w' := by
  refine ⟨h.os, h.tape, h.output, h.size, fun k hk hc => h.block k hk fun e => ?_⟩
  obtain ⟨vs, h1, _⟩ := hr.ex
  rcases h1.2 with ⟨rfl, _⟩ | ⟨g, cap, cur, rfl, hb, hh, _⟩
  · simp [Value.ownBlock] at e
  · have hkg : k = g := by simpa [Value.ownBlock] using e
    subst hkg
    rcases hc with hc | hc
    · omega
    · exact hc ⟨_, _, hh⟩
theorem GrowR.then_new {base : Nat} {w w1 w2 : World} {b : Nat} (h : GrowR base w w1) (k : w1.grownBy w2 (some b)) (hb : w.heap.size ≤ b) : GrowR base w w2 :=
  ⟨k.os.trans h.os, k.tape.trans h.tape, k.output.trans h.output, Nat.le_trans h.size k.size, fun i hi hne => (k.block i (Nat.lt_of_lt_of_le hi h.size) (by intro e; injection e with e; omega)).trans (h.block i hi hne)⟩
theorem Box.growR {base : Nat} {w w' : World} {b : Nat} {t : TypeId} {cs : Array Value} (h : Box w b t cs) (hg : GrowR base w w') (hne : t ≠ 51) : Box w' b t cs := by
  refine (hg.block b h.lt (.inr ?_)).trans h
  rintro ⟨cs', fr, e⟩
  unfold Box at h
  rw [h] at e
  injection e with e
  injection e with _ e
  exact hne e
theorem GrowR.below {base : Nat} {w w' : World} (h : GrowR base w w') (hb : base ≤ w.heap.size) : Below base w w' := ⟨h.os, h.tape, h.output, h.size, fun i hi => h.block i (by omega) (.inl hi)⟩
/-- What a call leaves that hands back a screen whose rows are the caller's own, and has turned no old memory but outer rows of the caller's own. -/
def PassR (base : Nat) (w : World) (g : Grid) (e : Ending) (w' : World) : Prop :=
  ∃ ar cr ab cb, e = .returned (.agg #[.int .i64 g.W, .int .i64 g.H, .int .i64 g.X, .int .i64 g.Y, .bool g.Wrap, .int .i64 g.A, .int .i64 g.Top, .int .i64 g.Bottom, .int .i64 g.SX, .int .i64 g.SY, .int .i64 g.SA, .bool g.NoWrap, .bool g.Hidden, .slice ar g.Rows.length cr, .slice ab g.Back.length cb]) ∧ Aside (InG w' base g ar cr ab cb) ∧ Aside (GrowR base w w')
theorem PassR.of {base : Nat} {w w' : World} {g : Grid} {ar ab : Option Addr} {cr cb : Nat} (h : InG w' base g ar cr ab cb) (hb : GrowR base w w') : PassR base w g (.returned (.agg #[.int .i64 g.W, .int .i64 g.H, .int .i64 g.X, .int .i64 g.Y, .bool g.Wrap, .int .i64 g.A, .int .i64 g.Top, .int .i64 g.Bottom, .int .i64 g.SX, .int .i64 g.SY, .int .i64 g.SA, .bool g.NoWrap, .bool g.Hidden, .slice ar g.Rows.length cr, .slice ab g.Back.length cb])) w' :=
  ⟨ar, cr, ab, cb, rfl, ⟨h⟩, ⟨hb⟩⟩
theorem PassA.toR {base : Nat} {w w' : World} {g g0 : Grid} {e : Ending} {ar ab : Option Addr} {cr cb : Nat} (h : PassA base w (Value.slice ar g0.Rows.length cr).ownBlock g e w') (hi : InG w base g0 ar cr ab cb) : PassR base w g e w' := by
  obtain ⟨a1, c1, a2, c2, he, h1, h2⟩ := h
  exact ⟨a1, c1, a2, c2, he, h1, ⟨GrowR.of_row h2.out hi.rows⟩⟩
theorem PassA.toR0 {base : Nat} {w w' : World} {g : Grid} {e : Ending} (h : PassA base w none g e w') : PassR base w g e w' := by
  obtain ⟨a1, c1, a2, c2, he, h1, h2⟩ := h
  exact ⟨a1, c1, a2, c2, he, h1, ⟨(grownBy_ext h2.out).growR _⟩⟩

def putG (g : Grid) (r : Int) : Grid :=
  let g1 := { (if g.Wrap then lineG { g with X := 0 } else g) with Wrap := false }
  let g2 := turnG g1 fun row => putC row g1.X ⟨r, g1.A⟩
  if g2.X ≥ g2.W - 1 then { g2 with Wrap := !g2.NoWrap } else { g2 with X := g2.X + 1 }

theorem turnG_wf {g : Grid} (h : WFG g) {f : List Cell → List Cell} (hf : ∀ l, (f l).length = l.length) : WFG (turnG g f) := by
  unfold turnG
  split
  · refine ⟨h.W, h.H, h.X, h.Y, h.SX, h.SY, h.T, by rw [List.length_set]; exact h.rows, fun r hr => ?_, h.back, h.far⟩
    rcases List.mem_or_eq_of_mem_set hr with h1 | h1
    · exact h.wide r h1
    · rw [h1, hf]
      rename_i hy
      rw [getD_lt _ _ _ (by omega)]
      exact h.wide _ (List.getElem_mem _)
  · exact h
theorem WFG.wrap {g : Grid} (h : WFG g) (b : Bool) : WFG { g with Wrap := b } := ⟨h.W, h.H, h.X, h.Y, h.SX, h.SY, h.T, h.rows, h.wide, h.back, h.far⟩
theorem WFG.x0 {g : Grid} (h : WFG g) : WFG { g with X := 0 } := ⟨h.W, h.H, by have := h.W; show 0 ≤ (0 : Int) ∧ (0 : Int) < g.W; omega, h.Y, h.SX, h.SY, h.T, h.rows, h.wide, h.back, h.far⟩

set_option maxRecDepth 100000 in
set_option maxHeartbeats 2000000 in
theorem put_flat (g : Grid) (r : Int) (ar ab : Option Addr) (cr cb base : Nat) (w : World) (hg : WFG { g with Wrap := false }) (hin : InG w base { g with Wrap := false } ar cr ab cb) (hbase : base ≤ w.heap.size) :
    Calls Try.prog 34 #[.agg #[.int .i64 { g with Wrap := false }.W, .int .i64 { g with Wrap := false }.H, .int .i64 { g with Wrap := false }.X, .int .i64 { g with Wrap := false }.Y, .bool { g with Wrap := false }.Wrap, .int .i64 { g with Wrap := false }.A, .int .i64 { g with Wrap := false }.Top, .int .i64 { g with Wrap := false }.Bottom, .int .i64 { g with Wrap := false }.SX, .int .i64 { g with Wrap := false }.SY, .int .i64 { g with Wrap := false }.SA, .bool { g with Wrap := false }.NoWrap, .bool { g with Wrap := false }.Hidden, .slice ar g.Rows.length cr, .slice ab g.Back.length cb], .int .i32 r] w (PassA base w (Value.slice ar g.Rows.length cr).ownBlock (putG { g with Wrap := false } r)) := by
  have HIN := Aside.mk hin
  clear hin
  have HA := Aside.mk (((Box.new w 31 #[.int .i64 { g with Wrap := false }.W, .int .i64 { g with Wrap := false }.H, .int .i64 { g with Wrap := false }.X, .int .i64 { g with Wrap := false }.Y, .bool { g with Wrap := false }.Wrap, .int .i64 { g with Wrap := false }.A, .int .i64 { g with Wrap := false }.Top, .int .i64 { g with Wrap := false }.Bottom, .int .i64 { g with Wrap := false }.SX, .int .i64 { g with Wrap := false }.SY, .int .i64 { g with Wrap := false }.SA, .bool { g with Wrap := false }.NoWrap, .bool { g with Wrap := false }.Hidden, .slice ar g.Rows.length cr, .slice ab g.Back.length cb]).alloc (.cells #[.int .i32 r] 21)).alloc (.cells #[.int .i64 0, .int .i64 0, .int .i64 0, .int .i64 0, .bool false, .int .i64 0, .int .i64 0, .int .i64 0, .int .i64 0, .int .i64 0, .int .i64 0, .bool false, .bool false, .slice none 0 0, .slice none 0 0] 31))
  have HR := Aside.mk ((Box.newAt (w.alloc (.cells #[.int .i64 { g with Wrap := false }.W, .int .i64 { g with Wrap := false }.H, .int .i64 { g with Wrap := false }.X, .int .i64 { g with Wrap := false }.Y, .bool { g with Wrap := false }.Wrap, .int .i64 { g with Wrap := false }.A, .int .i64 { g with Wrap := false }.Top, .int .i64 { g with Wrap := false }.Bottom, .int .i64 { g with Wrap := false }.SX, .int .i64 { g with Wrap := false }.SY, .int .i64 { g with Wrap := false }.SA, .bool { g with Wrap := false }.NoWrap, .bool { g with Wrap := false }.Hidden, .slice ar g.Rows.length cr, .slice ab g.Back.length cb] 31)) 21 #[.int .i32 r] (w.heap.size + 1) (by simp)).alloc (.cells #[.int .i64 0, .int .i64 0, .int .i64 0, .int .i64 0, .bool false, .int .i64 0, .int .i64 0, .int .i64 0, .int .i64 0, .int .i64 0, .int .i64 0, .bool false, .bool false, .slice none 0 0, .slice none 0 0] 31))
  have HZ := Aside.mk (Box.newAt ((w.alloc (.cells #[.int .i64 { g with Wrap := false }.W, .int .i64 { g with Wrap := false }.H, .int .i64 { g with Wrap := false }.X, .int .i64 { g with Wrap := false }.Y, .bool { g with Wrap := false }.Wrap, .int .i64 { g with Wrap := false }.A, .int .i64 { g with Wrap := false }.Top, .int .i64 { g with Wrap := false }.Bottom, .int .i64 { g with Wrap := false }.SX, .int .i64 { g with Wrap := false }.SY, .int .i64 { g with Wrap := false }.SA, .bool { g with Wrap := false }.NoWrap, .bool { g with Wrap := false }.Hidden, .slice ar g.Rows.length cr, .slice ab g.Back.length cb] 31)).alloc (.cells #[.int .i32 r] 21)) 31 #[.int .i64 0, .int .i64 0, .int .i64 0, .int .i64 0, .bool false, .int .i64 0, .int .i64 0, .int .i64 0, .int .i64 0, .int .i64 0, .int .i64 0, .bool false, .bool false, .slice none 0 0, .slice none 0 0] (w.heap.size + 2) (by simp))
  have HW := Aside.mk (((Ext.alloc1 w (.cells #[.int .i64 { g with Wrap := false }.W, .int .i64 { g with Wrap := false }.H, .int .i64 { g with Wrap := false }.X, .int .i64 { g with Wrap := false }.Y, .bool { g with Wrap := false }.Wrap, .int .i64 { g with Wrap := false }.A, .int .i64 { g with Wrap := false }.Top, .int .i64 { g with Wrap := false }.Bottom, .int .i64 { g with Wrap := false }.SX, .int .i64 { g with Wrap := false }.SY, .int .i64 { g with Wrap := false }.SA, .bool { g with Wrap := false }.NoWrap, .bool { g with Wrap := false }.Hidden, .slice ar g.Rows.length cr, .slice ab g.Back.length cb] 31)).alloc (.cells #[.int .i32 r] 21)).alloc (.cells #[.int .i64 0, .int .i64 0, .int .i64 0, .int .i64 0, .bool false, .int .i64 0, .int .i64 0, .int .i64 0, .int .i64 0, .int .i64 0, .int .i64 0, .bool false, .bool false, .slice none 0 0, .slice none 0 0] 31))
  obtain ⟨t, ht⟩ : ∃ t, t = turnG { g with Wrap := false } (fun row => putC row g.X ⟨r, g.A⟩) := ⟨_, rfl⟩
  have hp : putG { g with Wrap := false } r = if t.X ≥ t.W - 1 then { t with Wrap := !t.NoWrap } else { t with X := t.X + 1 } := by rw [ht]; rfl
  have hwt : WFG t := by rw [ht]; exact turnG_wf hg (fun l => putC_length _ _ _)
  have HT := Aside.mk ht
  have HP := Aside.mk hp
  have htW := hwt.W
  have htX := hwt.X
  clear ht hp
  have e1 : IntKind.i64.wrap (t.W - 1) = t.W - 1 := IntWalk.i64_in _ (by omega)
  have e2 : IntKind.i64.wrap (t.X + 1) = t.X + 1 := IntWalk.i64_in _ (by omega)
  have hmf : ∀ (fn : Fn) (first cap : Array Value) (w : World), (Instr.makeFunc fn first cap).run Try.prog w = .ok (.func fn first cap) w := fun _ _ _ _ => rfl
  rcases Bool.eq_false_or_eq_true (decide (t.W - 1 ≤ t.X)) with hd | hd
  · have hp : putG { g with Wrap := false } r = { t with Wrap := !t.NoWrap } := by rw [HP.out, if_pos (by simpa using hd)]
    rw [hp]
    clear hp
    go_enter Try.func34, Try.ntmps34
    go_wp2_with (first
      | (refine atLoad 31 (.tmp 2) rfl ?_; refine wpList_load_row rfl 31 (.tmp 2) rfl w.heap.size rfl 31 _ (0, 0) _ HA6.out Try.underlying31 rfl size31 ?_)
      | (refine atLoad 31 (.tmp 2) rfl ?_; refine wpList_load_row rfl 31 (.tmp 2) rfl w.heap.size rfl 31 #[.int .i64 { g with Wrap := false }.W, .int .i64 { g with Wrap := false }.H, .int .i64 { g with Wrap := false }.X, .int .i64 { g with Wrap := false }.Y, .bool { g with Wrap := false }.Wrap, .int .i64 { g with Wrap := false }.A, .int .i64 { g with Wrap := false }.Top, .int .i64 { g with Wrap := false }.Bottom, .int .i64 { g with Wrap := false }.SX, .int .i64 { g with Wrap := false }.SY, .int .i64 { g with Wrap := false }.SA, .bool { g with Wrap := false }.NoWrap, .bool { g with Wrap := false }.Hidden, .slice ar g.Rows.length cr, .slice ab g.Back.length cb] (0, 0) _ HA.out Try.underlying31 rfl size31 ?_)
      | (go_at_call 56; refine (turn_eq { g with Wrap := false } t 57 _ _ _ _ _ _ base _ HT.out hg (HIN.out.ext HW.out) (by simp; omega) (put1_turns { g with Wrap := false } _ _ _ _ _ _ _ _ r _ HA.out HR.out) callf57).mono ?_; rintro e w4 ⟨ar4, cr4, ab4, cb4, rfl, HI4, HB4⟩; have HA4 := Aside.mk (HA.out.grown HB4.out ((HIN.out.ext HW.out).rows.ne_box HA.out (by decide))); have HZ4 := Aside.mk (HZ.out.grown HB4.out ((HIN.out.ext HW.out).rows.ne_box HZ.out (by decide))); have HB5 := Aside.mk (HB4.out.after HW.out))
      | ((refine atStore 31 (.tmp 2) (.tmp 13) rfl ?_; refine wpList_store_box _ rfl 31 (.tmp 2) (.tmp 13) rfl w.heap.size _ rfl rfl 31 _ HA4.out size31 rfl rfl ?_; intro w5 hbz hgz; have HA5 := Aside.mk hbz; have HG5 := Aside.mk hgz; clear hgz hbz); have HZ5 := Aside.mk (HZ4.out.grown HG5.out (by simp)); obtain ⟨hc5, hf5⟩ := HA5.out.rules; (have HS := Aside.mk (HA5.out.set 4 (.bool (!t.NoWrap))); have HA6 := Aside.mk HS.out.1; simp only [List.setIfInBounds_toArray, List.set_cons_zero, List.set_cons_succ] at HA6); have HZ6 := Aside.mk (HZ5.out.grown HS.out.2 (by simp)))
      | (refine atStore 31 (.tmp 4) (.tmp 24) rfl ?_; refine wpList_store_box _ rfl 31 (.tmp 4) (.tmp 24) rfl (w.heap.size + 2) _ rfl rfl 31 _ HZ6.out size31 rfl rfl ?_; intro w9 hbz hgz; have HZ9 := Aside.mk hbz; have HG9 := Aside.mk hgz; clear hgz hbz))
    refine bodyPost_ret (results_cell_row Try.results34 _ _ (w.heap.size + 2) 31 _ (0, 0) _ rfl HZ9.out Try.underlying31 rfl size31) rfl ?_
    exact PassA.of (((((HI4.out.box HA4.out HG5.out).box HA5.out HS.out.2).box HZ6.out HG9.out).same rfl rfl)) (((HB5.out.then_new HG5.out (by omega)).then_new HS.out.2 (by omega)).then_new HG9.out (by omega))
  · have hp : putG { g with Wrap := false } r = { t with X := t.X + 1 } := by rw [HP.out, if_neg (by simpa using hd)]
    rw [hp]
    clear hp
    go_enter Try.func34, Try.ntmps34
    go_wp2_with (first
      | (refine atLoad 31 (.tmp 2) rfl ?_; refine wpList_load_row rfl 31 (.tmp 2) rfl w.heap.size rfl 31 _ (0, 0) _ HA6.out Try.underlying31 rfl size31 ?_)
      | (refine atLoad 31 (.tmp 2) rfl ?_; refine wpList_load_row rfl 31 (.tmp 2) rfl w.heap.size rfl 31 #[.int .i64 { g with Wrap := false }.W, .int .i64 { g with Wrap := false }.H, .int .i64 { g with Wrap := false }.X, .int .i64 { g with Wrap := false }.Y, .bool { g with Wrap := false }.Wrap, .int .i64 { g with Wrap := false }.A, .int .i64 { g with Wrap := false }.Top, .int .i64 { g with Wrap := false }.Bottom, .int .i64 { g with Wrap := false }.SX, .int .i64 { g with Wrap := false }.SY, .int .i64 { g with Wrap := false }.SA, .bool { g with Wrap := false }.NoWrap, .bool { g with Wrap := false }.Hidden, .slice ar g.Rows.length cr, .slice ab g.Back.length cb] (0, 0) _ HA.out Try.underlying31 rfl size31 ?_)
      | (go_at_call 56; refine (turn_eq { g with Wrap := false } t 57 _ _ _ _ _ _ base _ HT.out hg (HIN.out.ext HW.out) (by simp; omega) (put1_turns { g with Wrap := false } _ _ _ _ _ _ _ _ r _ HA.out HR.out) callf57).mono ?_; rintro e w4 ⟨ar4, cr4, ab4, cb4, rfl, HI4, HB4⟩; have HA4 := Aside.mk (HA.out.grown HB4.out ((HIN.out.ext HW.out).rows.ne_box HA.out (by decide))); have HZ4 := Aside.mk (HZ.out.grown HB4.out ((HIN.out.ext HW.out).rows.ne_box HZ.out (by decide))); have HB5 := Aside.mk (HB4.out.after HW.out))
      | ((refine atStore 31 (.tmp 2) (.tmp 13) rfl ?_; refine wpList_store_box _ rfl 31 (.tmp 2) (.tmp 13) rfl w.heap.size _ rfl rfl 31 _ HA4.out size31 rfl rfl ?_; intro w5 hbz hgz; have HA5 := Aside.mk hbz; have HG5 := Aside.mk hgz; clear hgz hbz); have HZ5 := Aside.mk (HZ4.out.grown HG5.out (by simp)); obtain ⟨hc5, hf5⟩ := HA5.out.rules; (have HS := Aside.mk (HA5.out.set 2 (.int .i64 (t.X + 1))); have HA6 := Aside.mk HS.out.1; simp only [List.setIfInBounds_toArray, List.set_cons_zero, List.set_cons_succ] at HA6); have HZ6 := Aside.mk (HZ5.out.grown HS.out.2 (by simp)))
      | (refine atStore 31 (.tmp 4) (.tmp 29) rfl ?_; refine wpList_store_box _ rfl 31 (.tmp 4) (.tmp 29) rfl (w.heap.size + 2) _ rfl rfl 31 _ HZ6.out size31 rfl rfl ?_; intro w9 hbz hgz; have HZ9 := Aside.mk hbz; have HG9 := Aside.mk hgz; clear hgz hbz))
    refine bodyPost_ret (results_cell_row Try.results34 _ _ (w.heap.size + 2) 31 _ (0, 0) _ rfl HZ9.out Try.underlying31 rfl size31) rfl ?_
    exact PassA.of (((((HI4.out.box HA4.out HG5.out).box HA5.out HS.out.2).box HZ6.out HG9.out).same rfl rfl)) (((HB5.out.then_new HG5.out (by omega)).then_new HS.out.2 (by omega)).then_new HG9.out (by omega))

set_option maxRecDepth 100000 in
set_option maxHeartbeats 2000000 in
theorem put_wrap (g : Grid) (r : Int) (ar ab : Option Addr) (cr cb base : Nat) (w : World) (hg : WFG { g with Wrap := true }) (hin : InG w base { g with Wrap := true } ar cr ab cb) (hbase : base ≤ w.heap.size) :
    Calls Try.prog 34 #[.agg #[.int .i64 { g with Wrap := true }.W, .int .i64 { g with Wrap := true }.H, .int .i64 { g with Wrap := true }.X, .int .i64 { g with Wrap := true }.Y, .bool { g with Wrap := true }.Wrap, .int .i64 { g with Wrap := true }.A, .int .i64 { g with Wrap := true }.Top, .int .i64 { g with Wrap := true }.Bottom, .int .i64 { g with Wrap := true }.SX, .int .i64 { g with Wrap := true }.SY, .int .i64 { g with Wrap := true }.SA, .bool { g with Wrap := true }.NoWrap, .bool { g with Wrap := true }.Hidden, .slice ar g.Rows.length cr, .slice ab g.Back.length cb], .int .i32 r] w (PassR base w (putG { g with Wrap := true } r)) := by
  have HIN := Aside.mk hin
  clear hin
  have HA := Aside.mk (((Box.new w 31 #[.int .i64 { g with X := 0, Wrap := true }.W, .int .i64 { g with X := 0, Wrap := true }.H, .int .i64 { g with X := 0, Wrap := true }.X, .int .i64 { g with X := 0, Wrap := true }.Y, .bool { g with X := 0, Wrap := true }.Wrap, .int .i64 { g with X := 0, Wrap := true }.A, .int .i64 { g with X := 0, Wrap := true }.Top, .int .i64 { g with X := 0, Wrap := true }.Bottom, .int .i64 { g with X := 0, Wrap := true }.SX, .int .i64 { g with X := 0, Wrap := true }.SY, .int .i64 { g with X := 0, Wrap := true }.SA, .bool { g with X := 0, Wrap := true }.NoWrap, .bool { g with X := 0, Wrap := true }.Hidden, .slice ar g.Rows.length cr, .slice ab g.Back.length cb]).alloc (.cells #[.int .i32 r] 21)).alloc (.cells #[.int .i64 0, .int .i64 0, .int .i64 0, .int .i64 0, .bool false, .int .i64 0, .int .i64 0, .int .i64 0, .int .i64 0, .int .i64 0, .int .i64 0, .bool false, .bool false, .slice none 0 0, .slice none 0 0] 31))
  have HR := Aside.mk ((Box.newAt (w.alloc (.cells #[.int .i64 { g with X := 0, Wrap := true }.W, .int .i64 { g with X := 0, Wrap := true }.H, .int .i64 { g with X := 0, Wrap := true }.X, .int .i64 { g with X := 0, Wrap := true }.Y, .bool { g with X := 0, Wrap := true }.Wrap, .int .i64 { g with X := 0, Wrap := true }.A, .int .i64 { g with X := 0, Wrap := true }.Top, .int .i64 { g with X := 0, Wrap := true }.Bottom, .int .i64 { g with X := 0, Wrap := true }.SX, .int .i64 { g with X := 0, Wrap := true }.SY, .int .i64 { g with X := 0, Wrap := true }.SA, .bool { g with X := 0, Wrap := true }.NoWrap, .bool { g with X := 0, Wrap := true }.Hidden, .slice ar g.Rows.length cr, .slice ab g.Back.length cb] 31)) 21 #[.int .i32 r] (w.heap.size + 1) (by simp)).alloc (.cells #[.int .i64 0, .int .i64 0, .int .i64 0, .int .i64 0, .bool false, .int .i64 0, .int .i64 0, .int .i64 0, .int .i64 0, .int .i64 0, .int .i64 0, .bool false, .bool false, .slice none 0 0, .slice none 0 0] 31))
  have HZ := Aside.mk (Box.newAt ((w.alloc (.cells #[.int .i64 { g with X := 0, Wrap := true }.W, .int .i64 { g with X := 0, Wrap := true }.H, .int .i64 { g with X := 0, Wrap := true }.X, .int .i64 { g with X := 0, Wrap := true }.Y, .bool { g with X := 0, Wrap := true }.Wrap, .int .i64 { g with X := 0, Wrap := true }.A, .int .i64 { g with X := 0, Wrap := true }.Top, .int .i64 { g with X := 0, Wrap := true }.Bottom, .int .i64 { g with X := 0, Wrap := true }.SX, .int .i64 { g with X := 0, Wrap := true }.SY, .int .i64 { g with X := 0, Wrap := true }.SA, .bool { g with X := 0, Wrap := true }.NoWrap, .bool { g with X := 0, Wrap := true }.Hidden, .slice ar g.Rows.length cr, .slice ab g.Back.length cb] 31)).alloc (.cells #[.int .i32 r] 21)) 31 #[.int .i64 0, .int .i64 0, .int .i64 0, .int .i64 0, .bool false, .int .i64 0, .int .i64 0, .int .i64 0, .int .i64 0, .int .i64 0, .int .i64 0, .bool false, .bool false, .slice none 0 0, .slice none 0 0] (w.heap.size + 2) (by simp))
  have HW := Aside.mk (((Ext.alloc1 w (.cells #[.int .i64 { g with X := 0, Wrap := true }.W, .int .i64 { g with X := 0, Wrap := true }.H, .int .i64 { g with X := 0, Wrap := true }.X, .int .i64 { g with X := 0, Wrap := true }.Y, .bool { g with X := 0, Wrap := true }.Wrap, .int .i64 { g with X := 0, Wrap := true }.A, .int .i64 { g with X := 0, Wrap := true }.Top, .int .i64 { g with X := 0, Wrap := true }.Bottom, .int .i64 { g with X := 0, Wrap := true }.SX, .int .i64 { g with X := 0, Wrap := true }.SY, .int .i64 { g with X := 0, Wrap := true }.SA, .bool { g with X := 0, Wrap := true }.NoWrap, .bool { g with X := 0, Wrap := true }.Hidden, .slice ar g.Rows.length cr, .slice ab g.Back.length cb] 31)).alloc (.cells #[.int .i32 r] 21)).alloc (.cells #[.int .i64 0, .int .i64 0, .int .i64 0, .int .i64 0, .bool false, .int .i64 0, .int .i64 0, .int .i64 0, .int .i64 0, .int .i64 0, .int .i64 0, .bool false, .bool false, .slice none 0 0, .slice none 0 0] 31))
  obtain ⟨h, hh⟩ : ∃ h, h = lineG { g with X := 0, Wrap := true } := ⟨_, rfl⟩
  obtain ⟨t, ht⟩ : ∃ t, t = turnG { h with Wrap := false } (fun row => putC row h.X ⟨r, h.A⟩) := ⟨_, rfl⟩
  have hp : putG { g with Wrap := true } r = if t.X ≥ t.W - 1 then { t with Wrap := !t.NoWrap } else { t with X := t.X + 1 } := by rw [ht, hh]; rfl
  have hwh : WFG h := by rw [hh]; exact lineG_wf hg.x0
  have hgh : WFG { h with Wrap := false } := hwh.wrap false
  have hwt : WFG t := by rw [ht]; exact turnG_wf hgh (fun l => putC_length _ _ _)
  have HT := Aside.mk ht
  have HH := Aside.mk hh
  have HP := Aside.mk hp
  have htW := hwt.W
  have htX := hwt.X
  clear ht hh hp
  have e1 : IntKind.i64.wrap (t.W - 1) = t.W - 1 := IntWalk.i64_in _ (by omega)
  have e2 : IntKind.i64.wrap (t.X + 1) = t.X + 1 := IntWalk.i64_in _ (by omega)
  have hmf : ∀ (fn : Fn) (first cap : Array Value) (w : World), (Instr.makeFunc fn first cap).run Try.prog w = .ok (.func fn first cap) w := fun _ _ _ _ => rfl
  rcases Bool.eq_false_or_eq_true (decide (t.W - 1 ≤ t.X)) with hd | hd
  · have hp : putG { g with Wrap := true } r = { t with Wrap := !t.NoWrap } := by rw [HP.out, if_pos (by simpa using hd)]
    rw [hp]
    clear hp
    go_enter Try.func34, Try.ntmps34
    go_wp2_with (first
      | (refine atLoad 31 (.tmp 2) rfl ?_; refine wpList_load_row rfl 31 (.tmp 2) rfl w.heap.size rfl 31 _ (0, 0) _ HA6.out Try.underlying31 rfl size31 ?_)
      | (refine atLoad 31 (.tmp 2) rfl ?_; refine wpList_load_row rfl 31 (.tmp 2) rfl w.heap.size rfl 31 _ (0, 0) _ HA3.out Try.underlying31 rfl size31 ?_)
      | (refine atLoad 31 (.tmp 2) rfl ?_; refine wpList_load_row rfl 31 (.tmp 2) rfl w.heap.size rfl 31 #[.int .i64 { g with X := 0, Wrap := true }.W, .int .i64 { g with X := 0, Wrap := true }.H, .int .i64 { g with X := 0, Wrap := true }.X, .int .i64 { g with X := 0, Wrap := true }.Y, .bool { g with X := 0, Wrap := true }.Wrap, .int .i64 { g with X := 0, Wrap := true }.A, .int .i64 { g with X := 0, Wrap := true }.Top, .int .i64 { g with X := 0, Wrap := true }.Bottom, .int .i64 { g with X := 0, Wrap := true }.SX, .int .i64 { g with X := 0, Wrap := true }.SY, .int .i64 { g with X := 0, Wrap := true }.SA, .bool { g with X := 0, Wrap := true }.NoWrap, .bool { g with X := 0, Wrap := true }.Hidden, .slice ar g.Rows.length cr, .slice ab g.Back.length cb] (0, 0) _ HA.out Try.underlying31 rfl size31 ?_)
      | (go_at_call 55; refine (line_eq { g with X := 0, Wrap := true } h _ _ _ _ base _ HH.out hg.x0 ((HIN.out.ext HW.out).same rfl rfl) (by simp; omega)).mono ?_; rintro e w1 ⟨ar1, cr1, ab1, cb1, rfl, HI1, HB1⟩; have HX1 := Aside.mk (grownBy_ext HB1.out); have HA1 := Aside.mk (HA.out.ext HX1.out); have HR1 := Aside.mk (HR.out.ext HX1.out); have HZ1 := Aside.mk (HZ.out.ext HX1.out); have HY1 := Aside.mk (HW.out.trans HX1.out))
      | ((refine atStore 31 (.tmp 2) (.tmp 9) rfl ?_; refine wpList_store_box _ rfl 31 (.tmp 2) (.tmp 9) rfl w.heap.size _ rfl rfl 31 _ HA1.out size31 rfl rfl ?_; intro w2 hbz hgz; have HA2 := Aside.mk hbz; have HG2 := Aside.mk hgz; clear hgz hbz); have HZ2 := Aside.mk (HZ1.out.grown HG2.out (by simp)); have HR2 := Aside.mk (HR1.out.grown HG2.out (by simp)); obtain ⟨hc2, hf2⟩ := HA2.out.rules; (have HSW := Aside.mk (HA2.out.set 4 (.bool false)); have HA3 := Aside.mk HSW.out.1; simp only [List.setIfInBounds_toArray, List.set_cons_zero, List.set_cons_succ] at HA3); have HZ3 := Aside.mk (HZ2.out.grown HSW.out.2 (by simp)); have HR3 := Aside.mk (HR2.out.grown HSW.out.2 (by simp)); have HI3 := Aside.mk (((HI1.out.box HA1.out HG2.out).box HA2.out HSW.out.2).same (g' := { h with Wrap := false }) rfl rfl); have HB3 := Aside.mk (((HY1.out.any none).then_new HG2.out (by omega)).then_new HSW.out.2 (by omega)))
      | (go_at_call 56; refine (turn_eq { h with Wrap := false } t 57 _ _ _ _ _ _ base _ HT.out hgh HI3.out (by have := HZ3.out.lt; omega) (put1_turns { h with Wrap := false } _ _ _ _ _ _ _ _ r _ HA3.out HR3.out) callf57).mono ?_; rintro e w4 ⟨ar4, cr4, ab4, cb4, rfl, HI4, HB4⟩; have HA4 := Aside.mk (HA3.out.grown HB4.out (HI3.out.rows.ne_box HA3.out (by decide))); have HZ4 := Aside.mk (HZ3.out.grown HB4.out (HI3.out.rows.ne_box HZ3.out (by decide))); have HB5 := Aside.mk (((grownBy_ext HB3.out).growR base).trans (GrowR.of_row HB4.out HI3.out.rows)))
      | ((refine atStore 31 (.tmp 2) (.tmp 13) rfl ?_; refine wpList_store_box _ rfl 31 (.tmp 2) (.tmp 13) rfl w.heap.size _ rfl rfl 31 _ HA4.out size31 rfl rfl ?_; intro w5 hbz hgz; have HA5 := Aside.mk hbz; have HG5 := Aside.mk hgz; clear hgz hbz); have HZ5 := Aside.mk (HZ4.out.grown HG5.out (by simp)); obtain ⟨hc5, hf5⟩ := HA5.out.rules; (have HS := Aside.mk (HA5.out.set 4 (.bool (!t.NoWrap))); have HA6 := Aside.mk HS.out.1; simp only [List.setIfInBounds_toArray, List.set_cons_zero, List.set_cons_succ] at HA6); have HZ6 := Aside.mk (HZ5.out.grown HS.out.2 (by simp)))
      | (refine atStore 31 (.tmp 4) (.tmp 24) rfl ?_; refine wpList_store_box _ rfl 31 (.tmp 4) (.tmp 24) rfl (w.heap.size + 2) _ rfl rfl 31 _ HZ6.out size31 rfl rfl ?_; intro w9 hbz hgz; have HZ9 := Aside.mk hbz; have HG9 := Aside.mk hgz; clear hgz hbz))
    refine bodyPost_ret (results_cell_row Try.results34 _ _ (w.heap.size + 2) 31 _ (0, 0) _ rfl HZ9.out Try.underlying31 rfl size31) rfl ?_
    exact PassR.of (((((HI4.out.box HA4.out HG5.out).box HA5.out HS.out.2).box HZ6.out HG9.out).same rfl rfl)) (((HB5.out.then_new HG5.out (by omega)).then_new HS.out.2 (by omega)).then_new HG9.out (by omega))
  · have hp : putG { g with Wrap := true } r = { t with X := t.X + 1 } := by rw [HP.out, if_neg (by simpa using hd)]
    rw [hp]
    clear hp
    go_enter Try.func34, Try.ntmps34
    go_wp2_with (first
      | (refine atLoad 31 (.tmp 2) rfl ?_; refine wpList_load_row rfl 31 (.tmp 2) rfl w.heap.size rfl 31 _ (0, 0) _ HA6.out Try.underlying31 rfl size31 ?_)
      | (refine atLoad 31 (.tmp 2) rfl ?_; refine wpList_load_row rfl 31 (.tmp 2) rfl w.heap.size rfl 31 _ (0, 0) _ HA3.out Try.underlying31 rfl size31 ?_)
      | (refine atLoad 31 (.tmp 2) rfl ?_; refine wpList_load_row rfl 31 (.tmp 2) rfl w.heap.size rfl 31 #[.int .i64 { g with X := 0, Wrap := true }.W, .int .i64 { g with X := 0, Wrap := true }.H, .int .i64 { g with X := 0, Wrap := true }.X, .int .i64 { g with X := 0, Wrap := true }.Y, .bool { g with X := 0, Wrap := true }.Wrap, .int .i64 { g with X := 0, Wrap := true }.A, .int .i64 { g with X := 0, Wrap := true }.Top, .int .i64 { g with X := 0, Wrap := true }.Bottom, .int .i64 { g with X := 0, Wrap := true }.SX, .int .i64 { g with X := 0, Wrap := true }.SY, .int .i64 { g with X := 0, Wrap := true }.SA, .bool { g with X := 0, Wrap := true }.NoWrap, .bool { g with X := 0, Wrap := true }.Hidden, .slice ar g.Rows.length cr, .slice ab g.Back.length cb] (0, 0) _ HA.out Try.underlying31 rfl size31 ?_)
      | (go_at_call 55; refine (line_eq { g with X := 0, Wrap := true } h _ _ _ _ base _ HH.out hg.x0 ((HIN.out.ext HW.out).same rfl rfl) (by simp; omega)).mono ?_; rintro e w1 ⟨ar1, cr1, ab1, cb1, rfl, HI1, HB1⟩; have HX1 := Aside.mk (grownBy_ext HB1.out); have HA1 := Aside.mk (HA.out.ext HX1.out); have HR1 := Aside.mk (HR.out.ext HX1.out); have HZ1 := Aside.mk (HZ.out.ext HX1.out); have HY1 := Aside.mk (HW.out.trans HX1.out))
      | ((refine atStore 31 (.tmp 2) (.tmp 9) rfl ?_; refine wpList_store_box _ rfl 31 (.tmp 2) (.tmp 9) rfl w.heap.size _ rfl rfl 31 _ HA1.out size31 rfl rfl ?_; intro w2 hbz hgz; have HA2 := Aside.mk hbz; have HG2 := Aside.mk hgz; clear hgz hbz); have HZ2 := Aside.mk (HZ1.out.grown HG2.out (by simp)); have HR2 := Aside.mk (HR1.out.grown HG2.out (by simp)); obtain ⟨hc2, hf2⟩ := HA2.out.rules; (have HSW := Aside.mk (HA2.out.set 4 (.bool false)); have HA3 := Aside.mk HSW.out.1; simp only [List.setIfInBounds_toArray, List.set_cons_zero, List.set_cons_succ] at HA3); have HZ3 := Aside.mk (HZ2.out.grown HSW.out.2 (by simp)); have HR3 := Aside.mk (HR2.out.grown HSW.out.2 (by simp)); have HI3 := Aside.mk (((HI1.out.box HA1.out HG2.out).box HA2.out HSW.out.2).same (g' := { h with Wrap := false }) rfl rfl); have HB3 := Aside.mk (((HY1.out.any none).then_new HG2.out (by omega)).then_new HSW.out.2 (by omega)))
      | (go_at_call 56; refine (turn_eq { h with Wrap := false } t 57 _ _ _ _ _ _ base _ HT.out hgh HI3.out (by have := HZ3.out.lt; omega) (put1_turns { h with Wrap := false } _ _ _ _ _ _ _ _ r _ HA3.out HR3.out) callf57).mono ?_; rintro e w4 ⟨ar4, cr4, ab4, cb4, rfl, HI4, HB4⟩; have HA4 := Aside.mk (HA3.out.grown HB4.out (HI3.out.rows.ne_box HA3.out (by decide))); have HZ4 := Aside.mk (HZ3.out.grown HB4.out (HI3.out.rows.ne_box HZ3.out (by decide))); have HB5 := Aside.mk (((grownBy_ext HB3.out).growR base).trans (GrowR.of_row HB4.out HI3.out.rows)))
      | ((refine atStore 31 (.tmp 2) (.tmp 13) rfl ?_; refine wpList_store_box _ rfl 31 (.tmp 2) (.tmp 13) rfl w.heap.size _ rfl rfl 31 _ HA4.out size31 rfl rfl ?_; intro w5 hbz hgz; have HA5 := Aside.mk hbz; have HG5 := Aside.mk hgz; clear hgz hbz); have HZ5 := Aside.mk (HZ4.out.grown HG5.out (by simp)); obtain ⟨hc5, hf5⟩ := HA5.out.rules; (have HS := Aside.mk (HA5.out.set 2 (.int .i64 (t.X + 1))); have HA6 := Aside.mk HS.out.1; simp only [List.setIfInBounds_toArray, List.set_cons_zero, List.set_cons_succ] at HA6); have HZ6 := Aside.mk (HZ5.out.grown HS.out.2 (by simp)))
      | (refine atStore 31 (.tmp 4) (.tmp 29) rfl ?_; refine wpList_store_box _ rfl 31 (.tmp 4) (.tmp 29) rfl (w.heap.size + 2) _ rfl rfl 31 _ HZ6.out size31 rfl rfl ?_; intro w9 hbz hgz; have HZ9 := Aside.mk hbz; have HG9 := Aside.mk hgz; clear hgz hbz))
    refine bodyPost_ret (results_cell_row Try.results34 _ _ (w.heap.size + 2) 31 _ (0, 0) _ rfl HZ9.out Try.underlying31 rfl size31) rfl ?_
    exact PassR.of (((((HI4.out.box HA4.out HG5.out).box HA5.out HS.out.2).box HZ6.out HG9.out).same rfl rfl)) (((HB5.out.then_new HG5.out (by omega)).then_new HS.out.2 (by omega)).then_new HG9.out (by omega))

theorem put_any (g : Grid) (r : Int) (ar ab : Option Addr) (cr cb base : Nat) (w : World) (hg : WFG g) (hin : InG w base g ar cr ab cb) (hbase : base ≤ w.heap.size) :
    Calls Try.prog 34 #[.agg #[.int .i64 g.W, .int .i64 g.H, .int .i64 g.X, .int .i64 g.Y, .bool g.Wrap, .int .i64 g.A, .int .i64 g.Top, .int .i64 g.Bottom, .int .i64 g.SX, .int .i64 g.SY, .int .i64 g.SA, .bool g.NoWrap, .bool g.Hidden, .slice ar g.Rows.length cr, .slice ab g.Back.length cb], .int .i32 r] w (PassR base w (putG g r)) := by
  by_cases hw : g.Wrap = true
  · have h1 : g = { g with Wrap := true } := by cases g; simp_all
    have h2 := put_wrap g r ar ab cr cb base w (h1 ▸ hg) (hin.same (by rfl) (by rfl)) hbase
    rw [← h1] at h2
    exact h2
  · have h1 : g = { g with Wrap := false } := by cases g; simp_all
    have h2 := put_flat g r ar ab cr cb base w (h1 ▸ hg) (hin.same (by rfl) (by rfl)) hbase
    rw [← h1] at h2
    exact h2.mono fun e w' h => h.toR hin
end Go.Proofs.Ytmehkikkjebnnaa
