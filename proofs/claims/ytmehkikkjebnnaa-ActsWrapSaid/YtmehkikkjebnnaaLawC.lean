/-
  Walks: polyptychlaw6.ActsWrap.
-/
import Derived.Test.YtmehkikkjebnnaaLawA
import Derived.Test.YtmehkikkjebnnaaBitsA
import Derived.Test.YtmehkikkjebnnaaWrapP
import Derived.Deep.DeepCutAuto
import Derived.Deep.CutBlock
set_option linter.unusedVariables false
set_option linter.unusedSimpArgs false
namespace Go.Proofs.Ytmehkikkjebnnaa
open Go.RowKit
attribute [local go_sem] max2_i min2_i max_two min_two
attribute [local go_sem ↓] Go.wp_at_zero Go.wp_at_succ

theorem upG_W (g : Grid) (t b n : Int) : (upG g t b n).W = g.W := by unfold upG; simp only; split <;> rfl
theorem lineG_W (g : Grid) : (lineG g).W = g.W := by
  unfold lineG
  split
  · exact upG_W _ _ _ _
  · split <;> rfl
theorem turnG_W (g : Grid) (f : List Cell → List Cell) : (turnG g f).W = g.W := by unfold turnG; split <;> rfl
theorem putTail_W (g1 : Grid) (f : List Cell → List Cell) : (let g2 := turnG g1 f; if g2.X ≥ g2.W - 1 then { g2 with Wrap := !g2.NoWrap } else { g2 with X := g2.X + 1 }).W = g1.W := by
  simp only
  split
  · exact turnG_W g1 f
  · exact turnG_W g1 f
theorem putG_W (g : Grid) (r : Int) : (putG g r).W = g.W := by
  have h1 : ({ (if g.Wrap then lineG { g with X := 0 } else g) with Wrap := false } : Grid).W = g.W := by
    show (if g.Wrap then lineG { g with X := 0 } else g).W = g.W
    split
    · exact lineG_W _
    · rfl
  exact (putTail_W _ _).trans h1
theorem wrG_W (W H : Int) (wrap : Bool) (hW : 1 ≤ W ∧ W ≤ 8) : ∀ n, (wrG W H wrap n).W = W
  | 0 => by show min (max W 1) 1000 = W; omega
  | n + 1 => by
    show (applyG (wrG W H wrap n) 1 (65 + (n : Int)) []).W = W
    rw [show applyG (wrG W H wrap n) 1 (65 + (n : Int)) [] = putG (wrG W H wrap n) (65 + (n : Int)) from by unfold applyG; rw [if_pos rfl], putG_W, wrG_W W H wrap hW n]

set_option maxRecDepth 100000 in
set_option maxHeartbeats 2000000 in
theorem ActsWrap_no (a b c : Int) (w : World) :
    Calls Try.prog 7 #[.int .i64 a, .int .i64 b, .int .i64 c, .bool false] w fun e w' => e = .returned (.bool true) ∧ Ext w w' := by
  obtain ⟨W, hW⟩ : ∃ W, bits .and .i64 a 7 = W - 1 := ⟨bits .and .i64 a 7 + 1, by omega⟩
  obtain ⟨H, hH⟩ : ∃ H, bits .and .i64 b 3 = H - 1 := ⟨bits .and .i64 b 3 + 1, by omega⟩
  obtain ⟨n, hn⟩ := Int.eq_ofNat_of_zero_le (show 0 ≤ bits .and .i64 c 63 from by have := and63 c; omega)
  have hW2 : 1 ≤ W ∧ W ≤ 8 := by have := and7 a; omega
  have hH2 : 1 ≤ H ∧ H ≤ 4 := by have := and3 b; omega
  have hn2 : n ≤ 63 := by have := and63 c; omega
  obtain ⟨g0, hg0⟩ : ∃ g0, newG W H = g0 := ⟨_, rfl⟩
  have HG := Aside.mk hg0
  clear hg0
  obtain ⟨hW0, hW1⟩ := hW2
  obtain ⟨hH0, hH1⟩ := hH2
  go_enter Try.func7, Try.ntmps7
  go_wp2_with (fail)
  refine (sNew_to W H g0 _ HG.out).mono ?_
  rintro e w0 ⟨a0, c0, b0, d0, rfl, HI0, HX0, HW0⟩
  clear hW hH hn
  have HB0 := Aside.mk (Box.new w0 31 #[.int .i64 ({ g0 with NoWrap := true } : Grid).W, .int .i64 ({ g0 with NoWrap := true } : Grid).H, .int .i64 ({ g0 with NoWrap := true } : Grid).X, .int .i64 ({ g0 with NoWrap := true } : Grid).Y, .bool ({ g0 with NoWrap := true } : Grid).Wrap, .int .i64 ({ g0 with NoWrap := true } : Grid).A, .int .i64 ({ g0 with NoWrap := true } : Grid).Top, .int .i64 ({ g0 with NoWrap := true } : Grid).Bottom, .int .i64 ({ g0 with NoWrap := true } : Grid).SX, .int .i64 ({ g0 with NoWrap := true } : Grid).SY, .int .i64 ({ g0 with NoWrap := true } : Grid).SA, .bool ({ g0 with NoWrap := true } : Grid).NoWrap, .bool ({ g0 with NoWrap := true } : Grid).Hidden, .slice a0 g0.Rows.length c0, .slice b0 g0.Back.length d0])
  have HE0 := Aside.mk (HX0.out.alloc (.cells #[.int .i64 ({ g0 with NoWrap := true } : Grid).W, .int .i64 ({ g0 with NoWrap := true } : Grid).H, .int .i64 ({ g0 with NoWrap := true } : Grid).X, .int .i64 ({ g0 with NoWrap := true } : Grid).Y, .bool ({ g0 with NoWrap := true } : Grid).Wrap, .int .i64 ({ g0 with NoWrap := true } : Grid).A, .int .i64 ({ g0 with NoWrap := true } : Grid).Top, .int .i64 ({ g0 with NoWrap := true } : Grid).Bottom, .int .i64 ({ g0 with NoWrap := true } : Grid).SX, .int .i64 ({ g0 with NoWrap := true } : Grid).SY, .int .i64 ({ g0 with NoWrap := true } : Grid).SA, .bool ({ g0 with NoWrap := true } : Grid).NoWrap, .bool ({ g0 with NoWrap := true } : Grid).Hidden, .slice a0 g0.Rows.length c0, .slice b0 g0.Back.length d0] 31))
  have HI1 := Aside.mk ((HI0.out.same (g' := { g0 with NoWrap := true }) rfl rfl).ext (Ext.alloc1 w0 (.cells #[.int .i64 ({ g0 with NoWrap := true } : Grid).W, .int .i64 ({ g0 with NoWrap := true } : Grid).H, .int .i64 ({ g0 with NoWrap := true } : Grid).X, .int .i64 ({ g0 with NoWrap := true } : Grid).Y, .bool ({ g0 with NoWrap := true } : Grid).Wrap, .int .i64 ({ g0 with NoWrap := true } : Grid).A, .int .i64 ({ g0 with NoWrap := true } : Grid).Top, .int .i64 ({ g0 with NoWrap := true } : Grid).Bottom, .int .i64 ({ g0 with NoWrap := true } : Grid).SX, .int .i64 ({ g0 with NoWrap := true } : Grid).SY, .int .i64 ({ g0 with NoWrap := true } : Grid).SA, .bool ({ g0 with NoWrap := true } : Grid).NoWrap, .bool ({ g0 with NoWrap := true } : Grid).Hidden, .slice a0 g0.Rows.length c0, .slice b0 g0.Back.length d0] 31)))
  have HG0 := Aside.mk HX0.out.size
  go_wp2
  go_loopw [10] (fun si wr => ∃ (k : Nat) (g : Grid) (a1 b1 : Option Addr) (c1 d1 : Nat), k ≤ n ∧ si = .int .i64 k ∧ Aside (g = wrG W H false k) ∧ Aside (Box wr w0.heap.size 31 #[.int .i64 g.W, .int .i64 g.H, .int .i64 g.X, .int .i64 g.Y, .bool g.Wrap, .int .i64 g.A, .int .i64 g.Top, .int .i64 g.Bottom, .int .i64 g.SX, .int .i64 g.SY, .int .i64 g.SA, .bool g.NoWrap, .bool g.Hidden, .slice a1 g.Rows.length c1, .slice b1 g.Back.length d1]) ∧ Aside (InG wr w.heap.size g a1 c1 b1 d1) ∧ Aside (Ext w wr)) (fun i _ => n - (intOf i).toNat)
  case atStart => exact ⟨0, { g0 with NoWrap := true }, a0, b0, c0, d0, by omega, rfl, ⟨by unfold wrG; rw [HG.out]; rfl⟩, HB0, HI1, HE0⟩
  case round =>
    obtain ⟨k, g, a1, b1, c1, d1, hk, rfl, hg, HB, HI, HE⟩ := hrel
    have HWF : Aside (WFG g) := ⟨by rw [hg.out]; exact wrG_wf _ _ _ _⟩
    clear HB0 HI1 HE0 HI0
    by_cases hlt : (k : Int) < (n : Int)
    · have hk0 : (0 : Int) ≤ (k : Int) := by omega
      have hk1 : (k : Int) ≤ 63 := by omega
      have eR : IntKind.i32.wrap (65 + (k : Int)) = 65 + (k : Int) := IntWalk.i32_in _ (by omega)
      go_wp2_with (first | (refine atLoad 31 (.tmp 9) rfl ?_; refine wpList_load_row rfl 31 (.tmp 9) rfl w0.heap.size rfl 31 _ (0, 0) _ HB.out Try.underlying31 rfl size31 ?_))
      obtain ⟨g2, hg2⟩ : ∃ g2, applyG g 1 (65 + (k : Int)) [] = g2 := ⟨_, rfl⟩
      have HG2 : Aside (g2 = wrG W H false (k + 1)) := ⟨by rw [← hg2, hg.out]; rfl⟩
      refine (Apply_to g g2 1 (65 + (k : Int)) [] none _ _ 0 _ _ _ hg2 HWF.out ParOk.nil (IntsAt.nil _) HI.out.rows.at_ HI.out.back.at_).mono ?_
      clear hg2
      rintro e w5 ⟨a5, c5, b5, d5, rfl, HI5, HX5, HW5⟩
      have HB5 := Aside.mk (HB.out.ext HX5.out)
      go_wp2_with (first
        | ((refine atStore 31 (.tmp 9) (.tmp 41) rfl ?_; refine wpList_store_box _ rfl 31 (.tmp 9) (.tmp 41) rfl w0.heap.size _ rfl rfl 31 _ HB5.out size31 rfl rfl ?_; intro w6 hbz hgz; have HB6 := Aside.mk hbz; have HG6 := Aside.mk hgz; clear hgz hbz)))
      go_roundw
      case rel => exact ⟨k + 1, g2, a5, b5, c5, d5, by omega, by go_num, HG2, HB6, ⟨(HI5.out.box HB5.out HG6.out).mono HE.out.size⟩, ⟨(HE.out.trans HX5.out).of_grown HG6.out (by intro k hk; cases hk; exact HG0.out)⟩⟩
      case measure => simp [intOf]; omega
    · obtain rfl : k = n := by omega
      obtain ⟨h1, h2, h3, h4, h5, h6⟩ := wrap_no W H k ⟨hW0, hW1⟩ ⟨hH0, hH1⟩ (by omega) g hg.out
      have H6 := Aside.mk h6
      have hwide := Aside.mk HWF.out.wide
      have hWW : Aside (g.W = W) := ⟨by rw [hg.out]; exact wrG_W W H false ⟨hW0, hW1⟩ k⟩
      obtain ⟨b7, o7, a8, c8, r8, ha7, hc7, hr8, hi8⟩ := HI.out.rows.at_.at_ 0 (by have := HWF.out.rows; omega)
      have hrl : (r8.length : Int) = W := by rw [← hWW.out]; exact hwide.out r8 (List.mem_of_getElem? hi8.out)
      have hR8 : g.Rows.getD 0 [] = r8 := by simp [List.getD_eq_getElem?_getD, hi8.out]
      obtain ⟨b9, o9, ha9, hc9, hc9'⟩ := hr8.at_ (W - 1).toNat (by omega)
      subst ha7
      subst ha9
      clear hr8 hi8
      rw [Nat.add_zero] at hc7
      rw [Int.pred_toNat] at hc9 hc9'
      have hd1 : (g.Y != 0) = false := by simp [h1]
      have hd2 : (g.X != min (k : Int) (W - 1)) = false := by simp [h2]
      have hd4 : ((g.Back.length : Int) != 0) = false := by simp [h4]
      have hd5 : ((g.Rows.length : Int) != H) = false := by simp [h5]
      have hp5 : (0 : Int) < (g.Rows.length : Int) := by omega
      have hp6 : 0 < g.Rows.length := by omega
      have hq1 : W - 1 < (r8.length : Int) := by omega
      have hq2 : 0 ≤ W - 1 := by omega
      have HRL := Aside.mk hrl
      clear h1 h2 h4 h5 h6 hrl
      obtain ⟨hcB, hfB⟩ := HB.out.rules
      by_cases hnw : (k : Int) < W
      · go_wp2_with (go_at_call 14; refine (awake6 _).mono ?_; rintro e w2 ⟨rfl, hx⟩; have HX := Aside.mk hx; clear hx)
        go_ret
        exact ⟨rfl, HE.out.trans HX.out⟩
      · have h66 := H6.out hnw
        rw [hR8, Int.pred_toNat] at h66
        have eR : IntKind.i32.wrap (65 + (k : Int) - 1) = 65 + (k : Int) - 1 := IntWalk.i32_in _ (by omega)
        rw [h66] at hc9
        clear h66 hR8
        go_wp2_with (go_at_call 14; refine (awake6 _).mono ?_; rintro e w2 ⟨rfl, hx⟩; have HX := Aside.mk hx; clear hx)
        go_ret
        exact ⟨rfl, HE.out.trans HX.out⟩
end Go.Proofs.Ytmehkikkjebnnaa
