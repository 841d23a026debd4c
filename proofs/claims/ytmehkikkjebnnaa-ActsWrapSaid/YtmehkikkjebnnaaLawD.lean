/-
  Walks: polyptychlaw6.ActsWrap, with wrapping.
-/
import Derived.Test.YtmehkikkjebnnaaLawC
import Derived.Deep.QuietTactic
import Derived.BigQuiet
set_option linter.unusedVariables false
set_option linter.unusedSimpArgs false
namespace Go.Proofs.Ytmehkikkjebnnaa
open Go.RowKit
attribute [local go_sem] max2_i min2_i max_two min_two
attribute [local go_sem ↓] Go.wp_at_zero Go.wp_at_succ

set_option maxRecDepth 100000 in
set_option maxHeartbeats 2000000 in
theorem ActsWrap_yes (a b c : Int) (w : World) :
    Calls Try.prog 7 #[.int .i64 a, .int .i64 b, .int .i64 c, .bool true] w fun e w' => e = .returned (.bool true) ∧ Ext w w' := by
  obtain ⟨W, hW⟩ : ∃ W, bits .and .i64 a 7 = W - 1 := ⟨bits .and .i64 a 7 + 1, by omega⟩
  obtain ⟨H, hH⟩ : ∃ H, bits .and .i64 b 3 = H - 1 := ⟨bits .and .i64 b 3 + 1, by omega⟩
  obtain ⟨n, hn⟩ := Int.eq_ofNat_of_zero_le (show 0 ≤ bits .and .i64 c 63 from by have := and63 c; omega)
  have hW2 : 1 ≤ W ∧ W ≤ 8 := by have := and7 a; omega
  have hH2 : 1 ≤ H ∧ H ≤ 4 := by have := and3 b; omega
  have hn2 : n ≤ 63 := by have := and63 c; omega
  obtain ⟨g0, hg0⟩ : ∃ g0, newG W H = g0 := ⟨_, rfl⟩
  have HG := Aside.mk hg0
  clear hg0
  obtain ⟨hW0, hW1⟩ := hW2
  obtain ⟨hH0, hH1⟩ := hH2
  go_enter Try.func7, Try.ntmps7
  go_wp2_with (fail)
  refine (sNew_to W H g0 _ HG.out).mono ?_
  rintro e w0 ⟨a0, c0, b0, d0, rfl, HI0, HX0, HW0⟩
  clear hW hH hn
  have HB0 := Aside.mk (Box.new w0 31 #[.int .i64 ({ g0 with NoWrap := false } : Grid).W, .int .i64 ({ g0 with NoWrap := false } : Grid).H, .int .i64 ({ g0 with NoWrap := false } : Grid).X, .int .i64 ({ g0 with NoWrap := false } : Grid).Y, .bool ({ g0 with NoWrap := false } : Grid).Wrap, .int .i64 ({ g0 with NoWrap := false } : Grid).A, .int .i64 ({ g0 with NoWrap := false } : Grid).Top, .int .i64 ({ g0 with NoWrap := false } : Grid).Bottom, .int .i64 ({ g0 with NoWrap := false } : Grid).SX, .int .i64 ({ g0 with NoWrap := false } : Grid).SY, .int .i64 ({ g0 with NoWrap := false } : Grid).SA, .bool ({ g0 with NoWrap := false } : Grid).NoWrap, .bool ({ g0 with NoWrap := false } : Grid).Hidden, .slice a0 g0.Rows.length c0, .slice b0 g0.Back.length d0])
  have HE0 := Aside.mk (HX0.out.alloc (.cells #[.int .i64 ({ g0 with NoWrap := false } : Grid).W, .int .i64 ({ g0 with NoWrap := false } : Grid).H, .int .i64 ({ g0 with NoWrap := false } : Grid).X, .int .i64 ({ g0 with NoWrap := false } : Grid).Y, .bool ({ g0 with NoWrap := false } : Grid).Wrap, .int .i64 ({ g0 with NoWrap := false } : Grid).A, .int .i64 ({ g0 with NoWrap := false } : Grid).Top, .int .i64 ({ g0 with NoWrap := false } : Grid).Bottom, .int .i64 ({ g0 with NoWrap := false } : Grid).SX, .int .i64 ({ g0 with NoWrap := false } : Grid).SY, .int .i64 ({ g0 with NoWrap := false } : Grid).SA, .bool ({ g0 with NoWrap := false } : Grid).NoWrap, .bool ({ g0 with NoWrap := false } : Grid).Hidden, .slice a0 g0.Rows.length c0, .slice b0 g0.Back.length d0] 31))
  have HI1 := Aside.mk ((HI0.out.same (g' := { g0 with NoWrap := false }) rfl rfl).ext (Ext.alloc1 w0 (.cells #[.int .i64 ({ g0 with NoWrap := false } : Grid).W, .int .i64 ({ g0 with NoWrap := false } : Grid).H, .int .i64 ({ g0 with NoWrap := false } : Grid).X, .int .i64 ({ g0 with NoWrap := false } : Grid).Y, .bool ({ g0 with NoWrap := false } : Grid).Wrap, .int .i64 ({ g0 with NoWrap := false } : Grid).A, .int .i64 ({ g0 with NoWrap := false } : Grid).Top, .int .i64 ({ g0 with NoWrap := false } : Grid).Bottom, .int .i64 ({ g0 with NoWrap := false } : Grid).SX, .int .i64 ({ g0 with NoWrap := false } : Grid).SY, .int .i64 ({ g0 with NoWrap := false } : Grid).SA, .bool ({ g0 with NoWrap := false } : Grid).NoWrap, .bool ({ g0 with NoWrap := false } : Grid).Hidden, .slice a0 g0.Rows.length c0, .slice b0 g0.Back.length d0] 31)))
  have HG0 := Aside.mk HX0.out.size
  go_wp2
  go_loopw [10] (fun si wr => ∃ (k : Nat) (g : Grid) (a1 b1 : Option Addr) (c1 d1 : Nat), k ≤ n ∧ si = .int .i64 k ∧ Aside (g = wrG W H true k) ∧ Aside (Box wr w0.heap.size 31 #[.int .i64 g.W, .int .i64 g.H, .int .i64 g.X, .int .i64 g.Y, .bool g.Wrap, .int .i64 g.A, .int .i64 g.Top, .int .i64 g.Bottom, .int .i64 g.SX, .int .i64 g.SY, .int .i64 g.SA, .bool g.NoWrap, .bool g.Hidden, .slice a1 g.Rows.length c1, .slice b1 g.Back.length d1]) ∧ Aside (InG wr w.heap.size g a1 c1 b1 d1) ∧ Aside (Ext w wr)) (fun i _ => n - (intOf i).toNat)
  case atStart => exact ⟨0, { g0 with NoWrap := false }, a0, b0, c0, d0, by omega, rfl, ⟨by unfold wrG; rw [HG.out]; rfl⟩, HB0, HI1, HE0⟩
  case round =>
    obtain ⟨k, g, a1, b1, c1, d1, hk, rfl, hg, HB, HI, HE⟩ := hrel
    have HWF : Aside (WFG g) := ⟨by rw [hg.out]; exact wrG_wf _ _ _ _⟩
    clear HB0 HI1 HE0 HI0
    by_cases hlt : (k : Int) < (n : Int)
    · have hk0 : (0 : Int) ≤ (k : Int) := by omega
      have hk1 : (k : Int) ≤ 63 := by omega
      have eR : IntKind.i32.wrap (65 + (k : Int)) = 65 + (k : Int) := IntWalk.i32_in _ (by omega)
      go_wp2_with (first | (refine atLoad 31 (.tmp 9) rfl ?_; refine wpList_load_row rfl 31 (.tmp 9) rfl w0.heap.size rfl 31 _ (0, 0) _ HB.out Try.underlying31 rfl size31 ?_))
      obtain ⟨g2, hg2⟩ : ∃ g2, applyG g 1 (65 + (k : Int)) [] = g2 := ⟨_, rfl⟩
      have HG2 : Aside (g2 = wrG W H true (k + 1)) := ⟨by rw [← hg2, hg.out]; rfl⟩
      refine (Apply_to g g2 1 (65 + (k : Int)) [] none _ _ 0 _ _ _ hg2 HWF.out ParOk.nil (IntsAt.nil _) HI.out.rows.at_ HI.out.back.at_).mono ?_
      clear hg2
      rintro e w5 ⟨a5, c5, b5, d5, rfl, HI5, HX5, HW5⟩
      have HB5 := Aside.mk (HB.out.ext HX5.out)
      go_wp2_with (first
        | ((refine atStore 31 (.tmp 9) (.tmp 41) rfl ?_; refine wpList_store_box _ rfl 31 (.tmp 9) (.tmp 41) rfl w0.heap.size _ rfl rfl 31 _ HB5.out size31 rfl rfl ?_; intro w6 hbz hgz; have HB6 := Aside.mk hbz; have HG6 := Aside.mk hgz; clear hgz hbz)))
      go_roundw
      case rel => exact ⟨k + 1, g2, a5, b5, c5, d5, by omega, by go_num, HG2, HB6, ⟨(HI5.out.box HB5.out HG6.out).mono HE.out.size⟩, ⟨(HE.out.trans HX5.out).of_grown HG6.out (by intro k hk; cases hk; exact HG0.out)⟩⟩
      case measure => simp [intOf]; omega
    · obtain rfl : k = n := by omega
      obtain ⟨Q, hQ⟩ : ∃ Q, ((k : Int) + W - 1) / W = Q := ⟨_, rfl⟩
      have hQ2 : 0 ≤ Q ∧ Q ≤ 80 := by
        constructor
        · rw [← hQ]; exact Int.ediv_nonneg (by omega) (by omega)
        · rw [← hQ]
          have := Int.ediv_le_self W (a := (k : Int) + W - 1) (by omega)
          omega
      obtain ⟨hQ0, hQ1⟩ := hQ2
      obtain ⟨h1, h2, h3, h4, h5⟩ := wrap_yes W H k ⟨hW0, hW1⟩ ⟨hH0, hH1⟩ (by omega) g hg.out Q hQ
      have H5 := Aside.mk h5
      have H3 := Aside.mk h3
      have hwide := Aside.mk HWF.out.wide
      have hWW : Aside (g.W = W) := ⟨by rw [hg.out]; exact wrG_W W H true ⟨hW0, hW1⟩ k⟩
      have hd1 : (g.Y != min (max Q 1) H - 1) = false := by simp [h1]
      have hd2 : ((g.Back.length : Int) != min (max (max Q 1 - H) 0) 50) = false := by simp [h2]
      have hd4 : ((g.Rows.length : Int) != H) = false := by simp [h4]
      have HRL := Aside.mk h4
      clear h1 h2 h3 h4 h5
      obtain ⟨hcB, hfB⟩ := HB.out.rules
      go_upto_region 13 with fail
      have e1 : IntKind.i64.wrap (min (max Q 1) H - 1) = min (max Q 1) H - 1 := IntWalk.i64_in _ (by omega)
      have e2 : IntKind.i64.wrap (max Q 1 - H) = max Q 1 - H := IntWalk.i64_in _ (by omega)
      have e5 : Int.tmod (k : Int) W = (k : Int) % W := Int.tmod_eq_emod_of_nonneg (by omega)
      go_cut [139] (fun s wx => s = .bool false ∧ Aside (Drawn wr wx))
      case first =>
        by_cases hn0 : (0 : Int) < (k : Int)
        · have hn1 : 0 < k := by omega
          by_cases hm : (k : Int) % W = 0
          · have e3 : g.Wrap = true := by rw [H3.out]; simp [hm]; omega
            have e4 : ((k : Int) % W == 0) = true := by simp [hm]
            clear hm
            go_quiet (fail)
            go_wp2
            go_meet
            exact ⟨rfl, ⟨by first | exact Drawn.refl _ | exact (Drawn.refl _).drewN _⟩⟩
          · have e3 : g.Wrap = false := by rw [H3.out]; simp [hm]
            have e4 : ((k : Int) % W == 0) = false := by simpa using hm
            clear hm
            go_quiet (fail)
            go_wp2
            go_meet
            exact ⟨rfl, ⟨by first | exact Drawn.refl _ | exact (Drawn.refl _).drewN _⟩⟩
        · have e3 : g.Wrap = false := by rw [H3.out, decide_eq_false hn0]; rfl
          have hdk : decide ((0 : Int) < (k : Int)) = false := by simpa using hn0
          have hdn : decide (0 < k) = false := by simp; omega
          go_quiet (fail)
          go_wp2
          go_meet
          exact ⟨rfl, ⟨by first | exact Drawn.refl _ | exact (Drawn.refl _).drewN _⟩⟩
      case rest =>
        obtain ⟨rfl, n1, rfl⟩ := hcut
        obtain ⟨T, hT⟩ : ∃ T, max (max Q 1 - H) 0 = T := ⟨_, rfl⟩
        have hT2 : 0 ≤ T ∧ T ≤ 80 := by omega
        obtain ⟨hT0, hT1⟩ := hT2
        have h5 := H5.out
        rw [hT] at h5
        have H5 := Aside.mk h5
        clear h5
        go_wp2
        clear hT hd1 hd2 hd4 e1 e2 e5 hQ
        go_loop [147] (fun si => ∃ y : Nat, (y : Int) ≤ H ∧ si = .int .i64 y) (fun i => H.toNat - (intOf i).toNat)
        case atStart => exact ⟨0, by omega, rfl⟩
        case round =>
          obtain ⟨y, hy, rfl⟩ := hrel
          by_cases hyH : (y : Int) < H
          · have hyN : y < g.Rows.length := by have := HRL.out; omega
            have hyI : (y : Int) < (g.Rows.length : Int) := by omega
            have hy0 : (0 : Int) ≤ (y : Int) := by omega
            obtain ⟨b7, o7, a8, c8, r8, ha7, hc7, hr8, hi8⟩ := HI.out.rows.at_.at_ y hyN
            have hrl := hwide.out r8 (List.mem_of_getElem? hi8.out)
            rw [hWW.out] at hrl
            have HRW := Aside.mk hrl
            have hR8 : Aside (g.Rows.getD y [] = r8) := ⟨by simp [List.getD_eq_getElem?_getD, hi8.out]⟩
            have HR8 := Aside.mk hr8
            clear hr8 hi8 hrl
            obtain ⟨P, hP⟩ : ∃ P, (T + (y : Int)) * W = P := ⟨_, rfl⟩
            have hP2 : 0 ≤ P ∧ P ≤ 672 := by
              rw [← hP]
              exact ⟨Int.mul_nonneg (by omega) (by omega), Int.mul_le_mul (a := T + (y : Int)) (b := W) (c := 84) (d := 8) (by omega) (by omega) (by omega) (by omega)⟩
            obtain ⟨hP0, hP1⟩ := hP2
            subst ha7
            go_wp2
            go_loop [156] (fun si => ∃ x : Nat, (x : Int) ≤ W ∧ si = .int .i64 x) (fun i => W.toNat - (intOf i).toNat)
            case atStart => exact ⟨0, by omega, rfl⟩
            case round =>
              obtain ⟨x, hx, rfl⟩ := hrel
              by_cases hxW : (x : Int) < W
              · have hxN : x < r8.length := by have := HRW.out; omega
                have hxI : (x : Int) < (r8.length : Int) := by omega
                have hx0 : (0 : Int) ≤ (x : Int) := by omega
                obtain ⟨b9, o9, ha9, hc9, hc9'⟩ := HR8.out.at_ x hxN
                subst ha9
                have h6 := H5.out y x hyH hxW
                rw [hR8.out, hP] at h6
                by_cases hin : P + (x : Int) < (k : Int)
                · rw [if_pos hin] at h6
                  rw [h6] at hc9
                  clear h6
                  have eR : IntKind.i32.wrap (65 + (P + (x : Int))) = 65 + (P + (x : Int)) := IntWalk.i32_in _ (by omega)
                  go_wp2
                  go_round
                  case rel => exact ⟨x + 1, by omega, by go_num⟩
                  case measure => simp [intOf]; omega
                · rw [if_neg hin] at h6
                  rw [h6] at hc9
                  clear h6
                  go_wp2
                  go_round
                  case rel => exact ⟨x + 1, by omega, by go_num⟩
                  case measure => simp [intOf]; omega
              · have hxN : ¬ x < r8.length := by have := HRW.out; omega
                go_wp2
                go_round
                case rel => exact ⟨y + 1, by omega, by go_num⟩
                case measure => simp [intOf]; omega
          · have hyN : ¬ y < g.Rows.length := by have := HRL.out; omega
            go_wp2_with (go_at_call 14; refine (awake6 _).mono ?_; rintro e w2 ⟨rfl, hx⟩; have HX := Aside.mk hx; clear hx)
            go_ret
            exact ⟨rfl, (HE.out.drewN n1).trans HX.out⟩

theorem ActsWrap_any (a b c : Int) (wrap : Bool) (w : World) : Calls Try.prog 7 #[.int .i64 a, .int .i64 b, .int .i64 c, .bool wrap] w fun e w' => e = .returned (.bool true) ∧ Ext w w' := by
  cases wrap
  · exact ActsWrap_no a b c w
  · exact ActsWrap_yes a b c w
end Go.Proofs.Ytmehkikkjebnnaa
