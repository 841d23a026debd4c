/-
  Walks: grid.Held, grid.size, grid.blanks, grid.New, grid.Still, grid.part.
-/
import Derived.Test.YtmehkikkjebnnaaRowsD
import Derived.Test.YtmehkikkjebnnaaDrawn
import Derived.Deep.RegionWith
set_option linter.unusedVariables false
set_option linter.unusedSimpArgs false
namespace Go.Proofs.Ytmehkikkjebnnaa
open Go.RowKit
attribute [local go_sem] max2_i min2_i max_two min_two
attribute [local go_sem ↓] Go.wp_at_zero Go.wp_at_succ

set_option maxRecDepth 100000 in
theorem Held_any (g : Grid) (rv bv : Value) (x y : Int) (w : World) (hW : 0 ≤ g.W ∧ g.W ≤ 1000000) (hH : 0 ≤ g.H ∧ g.H ≤ 1000000) :
    Calls Try.prog 105 #[.agg #[.int .i64 g.W, .int .i64 g.H, .int .i64 g.X, .int .i64 g.Y, .bool g.Wrap, .int .i64 g.A, .int .i64 g.Top, .int .i64 g.Bottom, .int .i64 g.SX, .int .i64 g.SY, .int .i64 g.SA, .bool g.NoWrap, .bool g.Hidden, rv, bv], .int .i64 x, .int .i64 y] w fun e w' => e = .returned (.tuple #[.int .i64 (min (max x 0) (max (g.W - 1) 0)), .int .i64 (min (max y 0) (max (g.H - 1) 0))]) ∧ Ext w w' := by
  obtain ⟨hW0, hW1⟩ := hW
  obtain ⟨hH0, hH1⟩ := hH
  have e1 : IntKind.i64.wrap (g.W - 1) = g.W - 1 := IntWalk.i64_in _ (by omega)
  have e2 : IntKind.i64.wrap (g.H - 1) = g.H - 1 := IntWalk.i64_in _ (by omega)
  go_enter Try.func105, Try.ntmps105
  go_wp2
  go_quiet (fail)
  go_wp2
  go_ret2
  exact ⟨rfl, ((Ext.alloc1 _ _).drewN _)⟩

theorem Held_eq (g : Grid) (rv bv : Value) (x y U V : Int) (w : World) (hW : 0 ≤ g.W ∧ g.W ≤ 1000000) (hH : 0 ≤ g.H ∧ g.H ≤ 1000000) (hU : U = min (max x 0) (max (g.W - 1) 0)) (hV : V = min (max y 0) (max (g.H - 1) 0)) :
    Calls Try.prog 105 #[.agg #[.int .i64 g.W, .int .i64 g.H, .int .i64 g.X, .int .i64 g.Y, .bool g.Wrap, .int .i64 g.A, .int .i64 g.Top, .int .i64 g.Bottom, .int .i64 g.SX, .int .i64 g.SY, .int .i64 g.SA, .bool g.NoWrap, .bool g.Hidden, rv, bv], .int .i64 x, .int .i64 y] w fun e w' => e = .returned (.tuple #[.int .i64 U, .int .i64 V]) ∧ Ext w w' := by
  subst hU
  subst hV
  exact Held_any g rv bv x y w hW hH
theorem size_any (x : Int) (w : World) : Calls Try.prog 102 #[.int .i64 x] w fun e w' => e = .returned (.int .i64 (min (max x 1) 1000)) ∧ w = w' := by
  go_enter Try.func102, Try.ntmps102
  go_wp2
  go_ret
  exact ⟨rfl, rfl⟩

def blankRows (W n : Int) : List (List Cell) := List.replicate n.toNat (blankRow W)

set_option maxRecDepth 100000 in
theorem blanks_any (W n : Int) (w : World) (hn : n ≤ 1000000) : Calls Try.prog 103 #[.int .i64 W, .int .i64 n] w (MadeR w (blankRows W n)) := by
  obtain ⟨i0, hi, hz0, hz1, hz2⟩ := info_parts info51
  have hi' := Aside.mk hi
  clear hi
  go_enter Try.func103, Try.ntmps103
  go_wp2
  go_loopw [5, 7] (fun o i wr => ∃ (k : Nat) (ao : Option Addr) (co : Nat), (k : Int) ≤ max n 0 ∧ i = .int .i64 k ∧ o = .slice ao k co ∧ Aside (OwnR wr w.heap.size (.slice ao k co) (List.replicate k (blankRow W))) ∧ Aside (Ext w wr)) (fun _ i _ => (n - intOf i).toNat)
  case atStart => exact ⟨0, none, 0, by omega, rfl, rfl, ⟨⟨[], own_nil _ _ _ _, .nil⟩⟩, ⟨Ext.refl _⟩⟩
  case round =>
    obtain ⟨k, ao, co, hk, rfl, rfl, HO, HE⟩ := hrel
    by_cases hlt : (k : Int) < n
    · obtain ⟨vs, hvs, hall⟩ := HO.out.ex
      have HV := Aside.mk hvs
      have HA := Aside.mk hall
      clear hvs hall
      rw [List.length_replicate] at HV
      go_wp2_with (first
        | (go_at_call 111; refine (Blank_any _ _).mono ?_; rintro e w1 ⟨au, cu, rfl, hu, he1⟩; have HU := Aside.mk hu; have HE1 := Aside.mk he1; clear hu he1)
        | (at_builtin; refine wpList_append_holds _ rfl _ _ 29 rfl w.heap.size 51 i0 (.slice none 0 0) 1 24 Try.underlying29 hi'.out hz0 hz1 hz2 rfl (by decide) _ k vs rfl ?c1 _ 1 [.slice au (blankRow W).length cu] rfl ?c5 ?c2 ?c3 ?c4 ?_))
      case c1 => exact own_ext (own_ext HV.out HE1.out) (Ext.alloc1 _ _)
      case c5 => exact Holds.new1 _ _ (.slice au (blankRow W).length cu) rfl
      case c2 => unfold maxLen; omega
      case c3 => omega
      case c4 => have := HE.out.size; have := HE1.out.size; simp; omega
      intro v' w2 hown hg hwh
      obtain ⟨av, cv, rfl⟩ := own_slice hown
      have HN := Aside.mk hown
      have HG := Aside.mk hg
      clear hown hg hwh
      go_wp2
      go_roundw
      case rel =>
        refine ⟨k + 1, av, cv, by omega, by go_num, rfl, ⟨⟨vs ++ [.slice au (blankRow W).length cu], ?_, ?_⟩⟩, ⟨?_⟩⟩
        · rw [List.length_replicate]; exact HN.out
        · rw [List.replicate_succ']
          have e2 : Ext wr (w1.alloc (.cells #[.slice au (blankRow W).length cu] 51)) := HE1.out.trans (Ext.alloc1 _ _)
          exact (HA.out.imp fun a b hab => (hab.ext e2).grown (own_ext HV.out e2) HG.out).snoc (((HU.out.ext (Ext.alloc1 _ _)).grown (own_ext HV.out e2) HG.out).mono HE.out.size)
        · exact ((HE.out.trans HE1.out).alloc _).of_grown HG.out (fun j hj => by have := own_base HV.out j hj; omega)
      case measure => simp [intOf]; omega
    · go_wp2
      go_ret
      have hkn : k = n.toNat := by omega
      refine ⟨ao, co, ?_, ?_, HE.out⟩
      · simp only [blankRows, List.length_replicate, ← hkn]; rfl
      · simp only [blankRows, List.length_replicate, ← hkn]; exact HO.out

def newG (w h : Int) : Grid := ⟨min (max w 1) 1000, min (max h 1) 1000, 0, 0, false, 0, 0, min (max h 1) 1000 - 1, 0, 0, 0, false, false, blankRows (min (max w 1) 1000) (min (max h 1) 1000), []⟩

theorem PassG.mk' {base : Nat} {w w' : World} (g : Grid) {ar ab : Option Addr} {cr cb : Nat} (h1 : OwnR w' base (.slice ar g.Rows.length cr) g.Rows) (h2 : OwnR w' base (.slice ab g.Back.length cb) g.Back)
    (h3 : ∀ k, (Value.slice ar g.Rows.length cr).ownBlock = some k → (Value.slice ab g.Back.length cb).ownBlock ≠ some k) (h4 : Below base w w') :
    PassG base w g (.returned (.agg #[.int .i64 g.W, .int .i64 g.H, .int .i64 g.X, .int .i64 g.Y, .bool g.Wrap, .int .i64 g.A, .int .i64 g.Top, .int .i64 g.Bottom, .int .i64 g.SX, .int .i64 g.SY, .int .i64 g.SA, .bool g.NoWrap, .bool g.Hidden, .slice ar g.Rows.length cr, .slice ab g.Back.length cb])) w' :=
  ⟨g, ar, cr, ab, cb, rfl, ⟨rfl⟩, ⟨h1⟩, ⟨h2⟩, ⟨h3⟩, ⟨h4⟩⟩

theorem size31 : (Try.prog.info? 31).map (·.size) = some 15 := by kernel_rfl

theorem New_any (x y : Int) (w : World) : Calls Try.prog 51 #[.int .i64 x, .int .i64 y] w (PassG w.heap.size w (newG x y)) := by
  go_enter Try.func51, Try.ntmps51
  go_wp2_with (first
    | (go_at_call 102; refine (size_any _ _).mono ?_; rintro e w1 ⟨rfl, rfl⟩)
    | (go_at_call 103; refine (blanks_any _ _ _ (by omega)).mono ?_; rintro e w2 ⟨ar, cr, rfl, ho, he⟩; have HO := Aside.mk ho; have HB := Aside.mk ((Box.new _ _ _).ext he); have HE := Aside.mk he; clear ho he)
    | (refine atStore 31 (.tmp 4) (.tmp 16) rfl ?_; refine wpList_store_box _ rfl 31 (.tmp 4) (.tmp 16) rfl w.heap.size _ rfl rfl 31 _ HB.out size31 rfl rfl ?_; intro w3 hb3 hg3; have HB3 := Aside.mk hb3; have HG3 := Aside.mk hg3; clear hg3 hb3 HB))
  refine bodyPost_ret (results_cell_row Try.results51 _ _ w.heap.size 31 _ (0, 0) _ rfl HB3.out Try.underlying31 rfl size31) rfl ?_
  have hx : Ext w w2 := (Ext.alloc1 _ _).trans HE.out
  refine PassG.mk' (newG x y) (cb := 0) (ab := none) (OwnR.mono (base := w.heap.size + 1) ?_ (by omega)) (OwnR.nil _ _) (by intro k _ h; cases h) ?_
  · exact (HO.out.mono (by simp)).keep HG3.out (by intro k hk h; omega)
  · exact hx.of_grown HG3.out (by intro k hk; cases hk; exact Nat.le_refl _)
end Go.Proofs.Ytmehkikkjebnnaa
