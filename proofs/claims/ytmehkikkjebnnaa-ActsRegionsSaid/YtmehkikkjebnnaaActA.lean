/-
  Walks: acts.par, acts.move.
-/
import Derived.Test.YtmehkikkjebnnaaGridD
import Derived.Test.YtmehkikkjebnnaaDrawn
set_option linter.unusedVariables false
set_option linter.unusedSimpArgs false
namespace Go.Proofs.Ytmehkikkjebnnaa
open Go.RowKit
attribute [local go_sem] max2_i min2_i max_two min_two
attribute [local go_sem ↓] Go.wp_at_zero Go.wp_at_succ

/-- v reads as the numbers l. -/
def IntsAt (w : World) (v : Value) (l : List Int) : Prop := Holds w 1 v l.length (l.map (Value.int .i64))
theorem IntsAt.ext {w w' : World} {v : Value} {l : List Int} (h : IntsAt w v l) (he : Ext w w') : IntsAt w' v l := Holds.ext h he
theorem IntsAt.slice {w : World} {v : Value} {l : List Int} (h : IntsAt w v l) : ∃ a c, v = .slice a l.length c ∧ l.length ≤ c ∧ c ≤ maxLen := by
  obtain ⟨a, c, rfl, h3, h4, _⟩ := Holds.form h
  exact ⟨a, c, rfl, h3, h4⟩
theorem IntsAt.at_ {w : World} {a : Option Addr} {n c : Nat} {l : List Int} (h : IntsAt w (.slice a n c) l) (i : Nat) (hi : i < l.length) :
    ∃ b o, a = some ⟨b, o, none⟩ ∧ w.cell? ⟨b, o + i, none⟩ = some (.int .i64 (l.getD i 0)) := by
  have hn : n = l.length := by obtain ⟨a', c', hv, _⟩ := Holds.form h; injection hv
  subst hn
  obtain ⟨b, o, e1, h1⟩ := Holds.cell h i (by omega)
  refine ⟨b, o, e1, ?_⟩
  rw [h1, List.getElem?_map, List.getElem?_eq_getElem hi, getD_lt l i 0 hi]
  rfl

def parOf (l : List Int) (i : Nat) (d : Int) : Int := if i < l.length ∧ 0 < l.getD i 0 then l.getD i 0 else d

set_option maxRecDepth 100000 in
set_option maxHeartbeats 1000000 in
theorem par_any (k r : Int) (v : Value) (l : List Int) (i : Nat) (d : Int) (w : World) (h : IntsAt w v l) (hl : l.length ≤ 1000000) (hi : i ≤ 1000) :
    Calls Try.prog 61 #[.agg #[.int .i64 k, .int .i32 r, v], .int .i64 i, .int .i64 d] w fun e w' => e = .returned (.int .i64 (parOf l i d)) ∧ Ext w w' := by
  obtain ⟨a, c, hv, hc, hm⟩ := h.slice
  have H := Aside.mk h
  clear h
  subst hv
  by_cases hlt : i < l.length
  · obtain ⟨b, o, ha, hcell⟩ := H.out.at_ i hlt
    subst ha
    obtain ⟨p, hp0⟩ : ∃ p, l.getD i 0 = p := ⟨_, rfl⟩
    rw [hp0] at hcell
    have hcl := ((Ext.alloc1 w (.cells #[.int .i64 k, .int .i32 r, .slice (some ⟨b, o, none⟩) l.length c] 35)).cell hcell)
    have hd2 : decide (l.length ≤ i) = false := by simp; omega
    rcases Bool.eq_false_or_eq_true (decide (p ≤ 0)) with hp | hp
    · have hpar : parOf l i d = d := by unfold parOf; rw [hp0, if_neg]; intro h; rw [decide_eq_true_eq] at hp; omega
      rw [hpar]
      clear hp0
      go_enter Try.func61, Try.ntmps61
      go_wp2
      go_ret
      exact ⟨rfl, Ext.alloc1 _ _⟩
    · have hpar : parOf l i d = p := by unfold parOf; rw [hp0, if_pos]; rw [decide_eq_false_iff_not] at hp; exact ⟨hlt, by omega⟩
      rw [hpar]
      clear hp0
      go_enter Try.func61, Try.ntmps61
      go_wp2
      go_ret
      exact ⟨rfl, Ext.alloc1 _ _⟩
  · have hpar : parOf l i d = d := by unfold parOf; rw [if_neg]; omega
    rw [hpar]
    have hd2 : decide (l.length ≤ i) = true := by simp; omega
    go_enter Try.func61, Try.ntmps61
    go_wp2
    go_ret
    exact ⟨rfl, Ext.alloc1 _ _⟩

def moveG (g : Grid) (x y : Int) : Grid := { g with X := heldX g x, Y := heldY g y, Wrap := false }

set_option maxRecDepth 100000 in
set_option maxHeartbeats 1000000 in
theorem move_any (g : Grid) (ar ab : Option Addr) (nr cr nb cb : Nat) (x y : Int) (w : World) (hW : 0 ≤ g.W ∧ g.W ≤ 1000000) (hH : 0 ≤ g.H ∧ g.H ≤ 1000000) :
    Calls Try.prog 59 #[.agg #[.int .i64 g.W, .int .i64 g.H, .int .i64 g.X, .int .i64 g.Y, .bool g.Wrap, .int .i64 g.A, .int .i64 g.Top, .int .i64 g.Bottom, .int .i64 g.SX, .int .i64 g.SY, .int .i64 g.SA, .bool g.NoWrap, .bool g.Hidden, (.slice ar nr cr), (.slice ab nb cb)], .int .i64 x, .int .i64 y] w fun e w' => e = .returned (.agg #[.int .i64 (moveG g x y).W, .int .i64 (moveG g x y).H, .int .i64 (moveG g x y).X, .int .i64 (moveG g x y).Y, .bool (moveG g x y).Wrap, .int .i64 (moveG g x y).A, .int .i64 (moveG g x y).Top, .int .i64 (moveG g x y).Bottom, .int .i64 (moveG g x y).SX, .int .i64 (moveG g x y).SY, .int .i64 (moveG g x y).SA, .bool (moveG g x y).NoWrap, .bool (moveG g x y).Hidden, (.slice ar nr cr), (.slice ab nb cb)]) ∧ Ext w w' := by
  obtain ⟨X, hX⟩ : ∃ X, X = heldX g x := ⟨_, rfl⟩
  obtain ⟨Y, hY⟩ : ∃ Y, Y = heldY g y := ⟨_, rfl⟩
  have HX := Aside.mk hX
  have HY := Aside.mk hY
  have hm : moveG g x y = { g with X := X, Y := Y, Wrap := false } := by rw [hX, hY]; rfl
  rw [hm]
  clear hX hY hm
  have HA := Aside.mk ((Box.new w 31 #[.int .i64 g.W, .int .i64 g.H, .int .i64 g.X, .int .i64 g.Y, .bool g.Wrap, .int .i64 g.A, .int .i64 g.Top, .int .i64 g.Bottom, .int .i64 g.SX, .int .i64 g.SY, .int .i64 g.SA, .bool g.NoWrap, .bool g.Hidden, (.slice ar nr cr), (.slice ab nb cb)]).alloc (.cells #[.int .i64 0, .int .i64 0, .int .i64 0, .int .i64 0, .bool false, .int .i64 0, .int .i64 0, .int .i64 0, .int .i64 0, .int .i64 0, .int .i64 0, .bool false, .bool false, .slice none 0 0, .slice none 0 0] 31))
  have HZ := Aside.mk (Box.newAt (w.alloc (.cells #[.int .i64 g.W, .int .i64 g.H, .int .i64 g.X, .int .i64 g.Y, .bool g.Wrap, .int .i64 g.A, .int .i64 g.Top, .int .i64 g.Bottom, .int .i64 g.SX, .int .i64 g.SY, .int .i64 g.SA, .bool g.NoWrap, .bool g.Hidden, (.slice ar nr cr), (.slice ab nb cb)] 31)) 31 #[.int .i64 0, .int .i64 0, .int .i64 0, .int .i64 0, .bool false, .int .i64 0, .int .i64 0, .int .i64 0, .int .i64 0, .int .i64 0, .int .i64 0, .bool false, .bool false, .slice none 0 0, .slice none 0 0] (w.heap.size + 1) (by simp))
  have HW := Aside.mk ((Ext.alloc1 w (.cells #[.int .i64 g.W, .int .i64 g.H, .int .i64 g.X, .int .i64 g.Y, .bool g.Wrap, .int .i64 g.A, .int .i64 g.Top, .int .i64 g.Bottom, .int .i64 g.SX, .int .i64 g.SY, .int .i64 g.SA, .bool g.NoWrap, .bool g.Hidden, (.slice ar nr cr), (.slice ab nb cb)] 31)).alloc (.cells #[.int .i64 0, .int .i64 0, .int .i64 0, .int .i64 0, .bool false, .int .i64 0, .int .i64 0, .int .i64 0, .int .i64 0, .int .i64 0, .int .i64 0, .bool false, .bool false, .slice none 0 0, .slice none 0 0] 31))
  go_enter Try.func59, Try.ntmps59
  go_wp2_with (first
    | (refine atLoad 31 (.tmp 3) rfl ?_; refine wpList_load_row rfl 31 (.tmp 3) rfl w.heap.size rfl 31 _ (0, 0) _ HA4.out Try.underlying31 rfl size31 ?_)
    | (refine atLoad 31 (.tmp 3) rfl ?_; refine wpList_load_row rfl 31 (.tmp 3) rfl w.heap.size rfl 31 #[.int .i64 g.W, .int .i64 g.H, .int .i64 g.X, .int .i64 g.Y, .bool g.Wrap, .int .i64 g.A, .int .i64 g.Top, .int .i64 g.Bottom, .int .i64 g.SX, .int .i64 g.SY, .int .i64 g.SA, .bool g.NoWrap, .bool g.Hidden, (.slice ar nr cr), (.slice ab nb cb)] (0, 0) _ HA.out Try.underlying31 rfl size31 ?_)
    | (go_at_call 105; refine (Held_eq g _ _ _ _ X Y _ hW hH HX.out HY.out).mono ?_; rintro e w1 ⟨rfl, he1⟩; have HE1 := Aside.mk he1; have HA1 := Aside.mk (HA.out.ext he1); have HZ1 := Aside.mk (HZ.out.ext he1); obtain ⟨hc1, hf1⟩ := HA1.out.rules; clear he1; (have HS1 := Aside.mk (HA1.out.set 2 (.int .i64 X)); have HA2 := Aside.mk HS1.out.1; simp only [List.setIfInBounds_toArray, List.set_cons_zero, List.set_cons_succ] at HA2); (have HS2 := Aside.mk (HA2.out.set 3 (.int .i64 Y)); have HA3 := Aside.mk HS2.out.1; simp only [List.setIfInBounds_toArray, List.set_cons_zero, List.set_cons_succ] at HA3); (have HS3 := Aside.mk (HA3.out.set 4 (.bool false)); have HA4 := Aside.mk HS3.out.1; simp only [List.setIfInBounds_toArray, List.set_cons_zero, List.set_cons_succ] at HA4); have HZ4 := Aside.mk (((HZ1.out.grown HS1.out.2 (by simp)).grown HS2.out.2 (by simp)).grown HS3.out.2 (by simp)))
    | (refine atStore 31 (.tmp 6) (.tmp 17) rfl ?_; refine wpList_store_box _ rfl 31 (.tmp 6) (.tmp 17) rfl (w.heap.size + 1) _ rfl rfl 31 _ HZ4.out size31 rfl rfl ?_; intro w4 hbz hgz; have HZ5 := Aside.mk hbz; have HG4 := Aside.mk hgz; clear hgz hbz))
  refine bodyPost_ret (results_cell_row Try.results59 _ _ (w.heap.size + 1) 31 _ (0, 0) _ rfl HZ5.out Try.underlying31 rfl size31) rfl ?_
  exact ⟨rfl, ((((HW.out.trans HE1.out).setCell (by simp) _).setCell (by simp) _).setCell (by simp) _).of_grown HG4.out (by intro k hk; cases hk; omega)⟩
end Go.Proofs.Ytmehkikkjebnnaa
