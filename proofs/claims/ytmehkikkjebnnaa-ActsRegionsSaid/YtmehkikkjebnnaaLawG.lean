/-
  Walks: polyptychlaw6.ActsRegions.
-/
import Derived.Test.YtmehkikkjebnnaaRefE
import Derived.Test.YtmehkikkjebnnaaRegP
import Derived.Test.YtmehkikkjebnnaaLawA
import Derived.Test.YtmehkikkjebnnaaBitsA
set_option linter.unusedVariables false
set_option linter.unusedSimpArgs false
namespace Go.Proofs.Ytmehkikkjebnnaa
open Go.RowKit
attribute [local go_sem] max2_i min2_i max_two min_two
attribute [local go_sem ↓] Go.wp_at_zero Go.wp_at_succ

theorem Box.ne_own {w : World} {b g base n m c : Nat} {t e : TypeId} {cs : Array Value} {sz : Nat} {xs : List Value} (h : Box w b t cs) (ho : w.ownsRow base e sz (.slice (some ⟨g, 0, none⟩) n c) m xs) (hne : t ≠ e) : b ≠ g := by
  intro hbg
  subst hbg
  rcases ho.2 with ⟨h1, _⟩ | ⟨g', cap, cur, h1, _, hh, _⟩
  · cases h1
  · injection h1 with e1 _ _
    injection e1 with e1
    injection e1 with e1
    subst e1
    unfold Box at h
    rw [h] at hh
    injection hh with hh
    injection hh with _ ht
    exact hne ht
/-- What the first part leaves: the screen with its six letters. -/
def RoAt (B : Nat) (w0 : World) (w : World) : Prop := ∃ (a : Option Addr) (c : Nat), Aside (Box w B 31 #[.int .i64 (rgG 6).W, .int .i64 (rgG 6).H, .int .i64 (rgG 6).X, .int .i64 (rgG 6).Y, .bool (rgG 6).Wrap, .int .i64 (rgG 6).A, .int .i64 (rgG 6).Top, .int .i64 (rgG 6).Bottom, .int .i64 (rgG 6).SX, .int .i64 (rgG 6).SY, .int .i64 (rgG 6).SA, .bool (rgG 6).NoWrap, .bool (rgG 6).Hidden, .slice a (ro 6).length c, .slice none 0 0]) ∧ Aside (OwnRD w w0.heap.size (.slice a (ro 6).length c) (ro 6)) ∧ Aside (Ext w0 w)

set_option maxRecDepth 100000 in
set_option maxHeartbeats 4000000 in
theorem ActsRegions_up (a b c : Int) (w : World) : Calls Try.prog 6 #[.int .i64 a, .int .i64 b, .int .i64 c, .bool false] w fun e w' => e = .returned (.bool true) ∧ Ext w w' := by
  obtain ⟨A, hA⟩ : ∃ A, bits .and .i64 a 255 = A := ⟨_, rfl⟩
  obtain ⟨B, hB⟩ : ∃ B, bits .and .i64 b 255 = B := ⟨_, rfl⟩
  have hA2 : 0 ≤ A ∧ A ≤ 255 := by have := and255 a; omega
  have hB2 : 0 ≤ B ∧ B ≤ 255 := by have := and255 b; omega
  obtain ⟨hA0, hA1⟩ := hA2
  obtain ⟨hB0, hB1⟩ := hB2
  obtain ⟨p, hp⟩ := Int.eq_ofNat_of_zero_le (show 0 ≤ A % 6 from by omega)
  obtain ⟨q, hq⟩ := Int.eq_ofNat_of_zero_le (show 0 ≤ B % 6 from by omega)
  have hp6 : p < 6 := by omega
  have hq6 : q < 6 := by omega
  by_cases hpq : p = q
  · have d1 : ((p : Int) == (q : Int)) = true := by rw [hpq]; simp
    go_enter Try.func6, Try.ntmps6
    go_wp2_with (go_at_call 14; refine (awake6 _).mono ?_; rintro e w2 ⟨rfl, hx⟩; have HX := Aside.mk hx; clear hx)
    go_ret
    exact ⟨rfl, HX.out⟩
  have d1 : ((p : Int) == (q : Int)) = false := by simp; omega
  obtain ⟨t, ht⟩ : ∃ t : Nat, min (p : Int) (q : Int) = (t : Int) := ⟨min p q, by omega⟩
  obtain ⟨u, hu⟩ : ∃ u : Nat, max (p : Int) (q : Int) = (u : Int) := ⟨max p q, by omega⟩
  have htu : t < u := by omega
  have hu6 : u < 6 := by omega
  obtain ⟨n, hn⟩ : ∃ n : Nat, bits .and .i64 c 7 = (n : Int) - 1 := ⟨(bits .and .i64 c 7 + 1).toNat, by have := and7 c; omega⟩
  have hn1 : 1 ≤ n ∧ n ≤ 8 := by have := and7 c; omega
  clear hpq
  go_enter Try.func6, Try.ntmps6
  go_wp2_with (fail)
  refine (sNewD_any 1 6 _).mono ?_
  rw [show newG 1 6 = (⟨1, 6, 0, 0, false, 0, 0, 5, 0, 0, 0, false, false, ro 0, []⟩ : Grid) from by decide]
  have e6 : (ro 0).length = 6 := rfl
  rintro e w0 ⟨a0, c0, rfl, HO0, HX0⟩
  clear hA hB hp hq d1 ht hu
  have HB0 := Aside.mk (Box.new w0 31 #[.int .i64 1, .int .i64 6, .int .i64 0, .int .i64 0, .bool false, .int .i64 0, .int .i64 0, .int .i64 5, .int .i64 0, .int .i64 0, .int .i64 0, .bool false, .bool false, .slice a0 6 c0, .slice none 0 0])
  have HG0 := Aside.mk HX0.out.size
  have HO1 : Aside (OwnRD (w0.alloc (.cells #[.int .i64 1, .int .i64 6, .int .i64 0, .int .i64 0, .bool false, .int .i64 0, .int .i64 0, .int .i64 5, .int .i64 0, .int .i64 0, .int .i64 0, .bool false, .bool false, .slice a0 6 c0, .slice none 0 0] 31)) w.heap.size (.slice a0 6 c0) (ro 0)) := ⟨OwnRD.ext HO0.out (Ext.alloc1 _ _)⟩
  have HX1 := Aside.mk (HX0.out.alloc (.cells #[.int .i64 1, .int .i64 6, .int .i64 0, .int .i64 0, .bool false, .int .i64 0, .int .i64 0, .int .i64 5, .int .i64 0, .int .i64 0, .int .i64 0, .bool false, .bool false, .slice a0 6 c0, .slice none 0 0] 31))
  go_wp2
  clear e6
  go_loopw [12, 39] (fun s12 si wr => ∃ k : Nat, k ≤ 6 ∧ si = .int .i64 k ∧ Aside (Box wr w0.heap.size 31 #[.int .i64 1, .int .i64 6, .int .i64 0, .int .i64 0, .bool false, .int .i64 0, .int .i64 0, .int .i64 5, .int .i64 0, .int .i64 0, .int .i64 0, .bool false, .bool false, .slice a0 6 c0, .slice none 0 0]) ∧ Aside (OwnRD wr w.heap.size (.slice a0 6 c0) (ro k)) ∧ Aside (Ext w wr)) (fun _ i _ => 6 - (intOf i).toNat)
  case atStart => exact ⟨0, by omega, rfl, HB0, HO1, HX1⟩
  case round =>
    obtain ⟨k, hk, rfl, HB, HO, HX⟩ := hrel
    clear HB0 HO1 HX1 HO0
    obtain ⟨hcB, hfB⟩ := HB.out.rules
    by_cases hk6 : k < 6
    · obtain ⟨b1, g1, c1, ha1, hc1, HC1, hg1, hgl, hb1, hbg, HU⟩ := HO.out.at_ k _ (ro_at k hk6) (by simp)
      obtain ⟨hk1, hk2, hk3, hk4⟩ := HC1.out.cells rfl 0 (by simp)
      have hne := HB.out.ne_own HC1.out (by decide)
      subst ha1
      have hk0 : (0 : Int) ≤ (k : Int) := by omega
      have hki : (k : Int) < 6 := by omega
      have eR : IntKind.i32.wrap (97 + (k : Int)) = 97 + (k : Int) := IntWalk.i32_in _ (by omega)
      rw [Nat.zero_mul] at hk1 hk3
      clear hk2 hk4
      go_wp2
      go_roundw
      case rel =>
        have hs := World.ownsRow.stored HC1.out 0 (.int .i32 (97 + (k : Int)))
        have hx : (flatC [(⟨32, 0⟩ : Cell)]).set 0 (.int .i32 (97 + (k : Int))) = flatC [⟨97 + (k : Int), 0⟩] := rfl
        rw [hx] at hs
        refine ⟨k + 1, by omega, by go_num, ⟨HB.out.grown hs.2 (by simp [Value.ownBlock]; exact hne)⟩, ⟨?_⟩, ⟨HX.out.of_grown hs.2 (by intro j hj; simp [Value.ownBlock] at hj; omega)⟩⟩
        have h2 := HU.out _ [⟨97 + (k : Int), 0⟩] rfl hs.1 hs.2
        rwa [ro_set k hk6] at h2
      case measure => simp [intOf]; omega
    · obtain rfl : k = 6 := by omega
      obtain ⟨hl1, hl2⟩ := hn1
      obtain ⟨g2, hg2⟩ : ∃ g2, applyG (rgG 6) 4 114 [(t : Int) + 1, (u : Int) + 1] = g2 := ⟨_, rfl⟩
      have hk2 := (reg_law t u n false htu hu6 ⟨hl1, hl2⟩).1
      unfold regOk2 rg2 at hk2
      rw [hg2] at hk2
      simp only [Bool.and_eq_true, beq_iff_eq] at hk2
      obtain ⟨⟨⟨f1, f2⟩, f3⟩, f4⟩ := hk2
      have d1 : (g2.Top != (t : Int)) = false := by simp [f1]
      have d2 : (g2.Bottom != (u : Int)) = false := by simp [f2]
      have d3 : (g2.X != 0) = false := by simp [f3]
      have d4 : (g2.Y != 0) = false := by simp [f4]
      have HG2 := Aside.mk hg2
      have HWF2 : Aside (WFG g2) := ⟨by rw [← hg2]; exact rg2_wf t u⟩
      obtain ⟨g3, hg3⟩ : ∃ g3, applyG g2 4 100 [(u : Int) + 1] = g3 := ⟨_, rfl⟩
      have HG3 : Aside (g3 = rgN t u false 0) := ⟨by rw [← hg3, ← hg2]; rfl⟩
      have HH3 := Aside.mk hg3
      clear f1 f2 f3 f4 hg2 hg3
      have HT := Aside.mk htu
      go_wp2_with (first | (refine atLoad 31 (.tmp 11) rfl ?_; refine wpList_load_row rfl 31 (.tmp 11) rfl w0.heap.size rfl 31 _ (0, 0) _ HB.out Try.underlying31 rfl size31 ?_))
      have HXa := Aside.mk (Ext.alloc1 wr (.cells #[.int .i64 ((t : Int) + 1), .int .i64 ((u : Int) + 1)] 3))
      have HPa : Aside (IntsAt (wr.alloc (.cells #[.int .i64 ((t : Int) + 1), .int .i64 ((u : Int) + 1)] 3)) (.slice (some ⟨wr.heap.size, 0, none⟩) 2 2) [(t : Int) + 1, (u : Int) + 1]) := ⟨Holds.newN wr 3 1 2 [.int .i64 ((t : Int) + 1), .int .i64 ((u : Int) + 1)] rfl (by omega) (by intro x hx; simp at hx; rcases hx with rfl | rfl <;> rfl)⟩
      refine (Apply_to (rgG 6) g2 4 114 [(t : Int) + 1, (u : Int) + 1] _ _ none _ _ 0 _ HG2.out rg_wf (ParOk.of _ (by simp) (by simp; omega)) HPa.out (show RowsAt _ (.slice a0 6 c0) (ro 6) from (HO.out.own.ext HXa.out).at_) (OwnR.nil _ 0).at_).mono ?_
      rintro e w2 ⟨a2, c2, b2, d2', rfl, HI2, HX2, HW2⟩
      have HXb := Aside.mk (HXa.out.trans HX2.out)
      have HBx := Aside.mk (HB.out.ext HXb.out)
      go_wp2_with (first
        | ((refine atStore 31 (.tmp 11) (.tmp 60) rfl ?_; refine wpList_store_box _ rfl 31 (.tmp 11) (.tmp 60) rfl w0.heap.size _ rfl rfl 31 _ HBx.out size31 rfl rfl ?_; intro w3 hbz hgz; have HB3 := Aside.mk hbz; have HS3 := Aside.mk hgz; clear hgz hbz); obtain ⟨hcC, hfC⟩ := HB3.out.rules)
        | (refine atLoad 31 (.tmp 11) rfl ?_; refine wpList_load_row rfl 31 (.tmp 11) rfl w0.heap.size rfl 31 _ (0, 0) _ HB3.out Try.underlying31 rfl size31 ?_))
      have HI3 := Aside.mk (HI2.out.box HBx.out HS3.out)
      have HX3 : Aside (Ext w w3) := ⟨(HX.out.trans HXb.out).of_grown HS3.out (by intro k hk; cases hk; exact HG0.out)⟩
      have HXc := Aside.mk (Ext.alloc1 w3 (.cells #[.int .i64 ((u : Int) + 1)] 3))
      refine (Apply_to g2 g3 4 100 [(u : Int) + 1] _ _ _ _ _ _ _ HH3.out HWF2.out (ParOk.of _ (by simp) (by simp; omega)) (Holds.new1 w3 3 (.int .i64 ((u : Int) + 1)) rfl) (HI3.out.rows.at_.ext HXc.out) (HI3.out.back.at_.ext HXc.out)).mono ?_
      rintro e w4 ⟨a4, c4, b4, d4', rfl, HI4, HX4, HW4⟩
      have HXd := Aside.mk (HXc.out.trans HX4.out)
      have HBy := Aside.mk (HB3.out.ext HXd.out)
      go_wp2_with (first
        | ((refine atStore 31 (.tmp 11) (.tmp 92) rfl ?_; refine wpList_store_box _ rfl 31 (.tmp 11) (.tmp 92) rfl w0.heap.size _ rfl rfl 31 _ HBy.out size31 rfl rfl ?_; intro w5 hbz hgz; have HB5 := Aside.mk hbz; have HS5 := Aside.mk hgz; clear hgz hbz)))
      have HI5 := Aside.mk ((HI4.out.box HBy.out HS5.out).mono (show w.heap.size ≤ _ by have := HX3.out.size; simp; omega))
      have HX5 : Aside (Ext w w5) := ⟨(HX3.out.trans HXd.out).of_grown HS5.out (by intro k hk; cases hk; exact HG0.out)⟩
      clear d1 d2 d3 d4 hcB hfB hcC hfC
      go_loopw [15] (fun si wr => ∃ (k : Nat) (g : Grid) (a6 b6 : Option Addr) (c6 d6 : Nat), k ≤ n ∧ si = .int .i64 k ∧ Aside (g = rgN t u false k) ∧ Aside (Box wr w0.heap.size 31 #[.int .i64 g.W, .int .i64 g.H, .int .i64 g.X, .int .i64 g.Y, .bool g.Wrap, .int .i64 g.A, .int .i64 g.Top, .int .i64 g.Bottom, .int .i64 g.SX, .int .i64 g.SY, .int .i64 g.SA, .bool g.NoWrap, .bool g.Hidden, .slice a6 g.Rows.length c6, .slice b6 g.Back.length d6]) ∧ Aside (InG wr w.heap.size g a6 c6 b6 d6) ∧ Aside (Ext w wr)) (fun i _ => n - (intOf i).toNat)
      case atStart => exact ⟨0, g3, a4, b4, c4, d4', by omega, rfl, HG3, HB5, HI5, HX5⟩
      case round =>
        obtain ⟨k, g, a6, b6, c6, d6, hk, rfl, hg, HB6, HI6, HX6⟩ := hrel
        have HWF : Aside (WFG g) := ⟨by rw [hg.out]; exact rgN_wf _ _ _ _⟩
        by_cases hlt : (k : Int) < (n : Int)
        · have hk0 : (0 : Int) ≤ (k : Int) := by omega
          have hk1 : (k : Int) ≤ 8 := by omega
          go_wp2_with (first | (refine atLoad 31 (.tmp 11) rfl ?_; refine wpList_load_row rfl 31 (.tmp 11) rfl w0.heap.size rfl 31 _ (0, 0) _ HB6.out Try.underlying31 rfl size31 ?_))
          obtain ⟨g7, hg7⟩ : ∃ g7, applyG g 3 68 [] = g7 := ⟨_, rfl⟩
          have HG7 : Aside (g7 = rgN t u false (k + 1)) := ⟨by rw [← hg7, hg.out]; rfl⟩
          refine (Apply_to g g7 3 68 [] none _ _ 0 _ _ _ hg7 HWF.out ParOk.nil (IntsAt.nil _) HI6.out.rows.at_ HI6.out.back.at_).mono ?_
          clear hg7
          rintro e w7 ⟨a7, c7, b7, d7, rfl, HI7, HX7, HW7⟩
          have HBz := Aside.mk (HB6.out.ext HX7.out)
          go_wp2_with (first
            | ((refine atStore 31 (.tmp 11) (.tmp 101) rfl ?_; refine wpList_store_box _ rfl 31 (.tmp 11) (.tmp 101) rfl w0.heap.size _ rfl rfl 31 _ HBz.out size31 rfl rfl ?_; intro w8 hbz hgz; have HB8 := Aside.mk hbz; have HS8 := Aside.mk hgz; clear hgz hbz)))
          go_roundw
          case rel => exact ⟨k + 1, g7, a7, b7, c7, d7, by omega, by go_num, HG7, HB8, ⟨(HI7.out.box HBz.out HS8.out).mono HX6.out.size⟩, ⟨(HX6.out.trans HX7.out).of_grown HS8.out (by intro k hk; cases hk; exact HG0.out)⟩⟩
          case measure => simp [intOf]; omega
        · obtain rfl : k = n := by omega
          obtain ⟨r1, r2, r3, r4, r5, r6⟩ := reg_facts t u k false HT.out hu6 ⟨hl1, hl2⟩ g hg.out
          have H4 := Aside.mk r4
          have hwide := Aside.mk HWF.out.wide
          have hWW := Aside.mk r1
          have dy : (g.Y == (u : Int)) = true := by simp [r2]
          have dl : ((g.Rows.length : Int) != 6) = false := by simp [r3]
          have HRL := Aside.mk r3
          have H5 := Aside.mk r5
          have H6 := Aside.mk r6
          clear r1 r2 r3 r4 r5 r6
          obtain ⟨hcB, hfB⟩ := HB6.out.rules
          go_wp2
          go_loop [16] (fun si => ∃ y : Nat, y ≤ 6 ∧ si = .int .i64 y) (fun i => 6 - (intOf i).toNat)
          case atStart => exact ⟨0, by omega, rfl⟩
          case round =>
            obtain ⟨y, hy, rfl⟩ := hrel
            by_cases hy6 : y < 6
            · have hyN : y < g.Rows.length := by have := HRL.out; omega
              have hyI : (y : Int) < (g.Rows.length : Int) := by omega
              have hy0 : (0 : Int) ≤ (y : Int) := by omega
              have hyi : (y : Int) < 6 := by omega
              obtain ⟨b8, o8, a9, c9, r9, ha8, hc8, hr9, hi9⟩ := HI6.out.rows.at_.at_ y hyN
              have hrl : r9.length = 1 := by have h1 := hwide.out r9 (List.mem_of_getElem? hi9.out); rw [hWW.out] at h1; omega
              have hR9 : g.Rows.getD y [] = r9 := by simp [List.getD_eq_getElem?_getD, hi9.out]
              obtain ⟨b10, o10, ha10, hc10, _⟩ := hr9.at_ 0 (by omega)
              have hW := H4.out y hy6
              rw [hR9] at hW
              rw [Nat.zero_mul, Nat.add_zero, hW] at hc10
              have hp9 : 0 < r9.length := by omega
              have hp9i : (0 : Int) < (r9.length : Int) := by omega
              have HRl := Aside.mk hrl
              subst ha8
              subst ha10
              clear hr9 hi9 hW hR9 hrl
              have eR : IntKind.i32.wrap (97 + (y : Int)) = 97 + (y : Int) := IntWalk.i32_in _ (by omega)
              by_cases k1 : t ≤ y
              · have k1i : (t : Int) ≤ (y : Int) := by omega
                by_cases k2 : y ≤ u
                · have k2i : (y : Int) ≤ (u : Int) := by omega
                  by_cases k3 : y + k ≤ u
                  · have k3i : (y : Int) + (k : Int) ≤ (u : Int) := by omega
                    have k4 : t ≤ y + k := by omega
                    have k4i : (t : Int) ≤ (y : Int) + (k : Int) := by omega
                    have eR2 : IntKind.i32.wrap (97 + ((y : Int) + (k : Int))) = 97 + ((y : Int) + (k : Int)) := IntWalk.i32_in _ (by omega)
                    rw [show regWant t u k false y = 97 + ((y : Int) + (k : Int)) from by unfold regWant; rw [if_pos (by omega)]; simp only [Bool.false_eq_true, if_false]; rw [if_pos (by omega)]] at hc10
                    go_wp2
                    go_round
                    case rel => exact ⟨y + 1, by omega, by go_num⟩
                    case measure => simp [intOf]; omega
                  · have k3b : decide (y + k ≤ u) = false := by simpa using k3
                    have k3i : decide ((y : Int) + (k : Int) ≤ (u : Int)) = false := by simp; omega
                    have k4 : t ≤ y + k := by omega
                    have k4i : (t : Int) ≤ (y : Int) + (k : Int) := by omega
                    rw [show regWant t u k false y = 32 from by unfold regWant; rw [if_pos (by omega)]; simp only [Bool.false_eq_true, if_false]; rw [if_neg (by omega)]] at hc10
                    go_wp2
                    go_round
                    case rel => exact ⟨y + 1, by omega, by go_num⟩
                    case measure => simp [intOf]; omega
                · have k2b : decide (y ≤ u) = false := by simpa using k2
                  have k2i : decide ((y : Int) ≤ (u : Int)) = false := by simp; omega
                  rw [show regWant t u k false y = 97 + (y : Int) from by unfold regWant; rw [if_neg (by omega)]] at hc10
                  go_wp2
                  go_round
                  case rel => exact ⟨y + 1, by omega, by go_num⟩
                  case measure => simp [intOf]; omega
              · have k1b : decide (t ≤ y) = false := by simpa using k1
                have k1i : decide ((t : Int) ≤ (y : Int)) = false := by simp; omega
                rw [show regWant t u k false y = 97 + (y : Int) from by unfold regWant; rw [if_neg (by omega)]] at hc10
                go_wp2
                go_round
                case rel => exact ⟨y + 1, by omega, by go_num⟩
                case measure => simp [intOf]; omega
            · have hyi : decide ((y : Int) < 6) = false := by simp; omega
              by_cases ht0 : t = 0
              · subst ht0
                have h5 := H5.out (by first | trivial | rfl) (by first | trivial | rfl)
                have dB : ((g.Back.length : Int) == (k : Int)) = true := by simp [h5]
                clear h5
                go_wp2_with (go_at_call 14; refine (awake6 _).mono ?_; rintro e w9 ⟨rfl, hx⟩; have HX9 := Aside.mk hx; clear hx)
                go_ret
                exact ⟨rfl, HX6.out.trans HX9.out⟩
              · have ht1 : 0 < t := by omega
                have ht2 : (0 : Int) < (t : Int) := by omega
                have ht3 : ((t : Int) == 0) = false := by simp; omega
                have h6 := H6.out (fun h => ht0 h.1)
                have dB : ((g.Back.length : Int) == 0) = true := by simp [h6]
                clear h6 ht0
                go_wp2_with (go_at_call 14; refine (awake6 _).mono ?_; rintro e w9 ⟨rfl, hx⟩; have HX9 := Aside.mk hx; clear hx)
                go_ret
                exact ⟨rfl, HX6.out.trans HX9.out⟩

set_option maxRecDepth 100000 in
set_option maxHeartbeats 4000000 in
theorem ActsRegions_down (a b c : Int) (w : World) : Calls Try.prog 6 #[.int .i64 a, .int .i64 b, .int .i64 c, .bool true] w fun e w' => e = .returned (.bool true) ∧ Ext w w' := by
  obtain ⟨A, hA⟩ : ∃ A, bits .and .i64 a 255 = A := ⟨_, rfl⟩
  obtain ⟨B, hB⟩ : ∃ B, bits .and .i64 b 255 = B := ⟨_, rfl⟩
  have hA2 : 0 ≤ A ∧ A ≤ 255 := by have := and255 a; omega
  have hB2 : 0 ≤ B ∧ B ≤ 255 := by have := and255 b; omega
  obtain ⟨hA0, hA1⟩ := hA2
  obtain ⟨hB0, hB1⟩ := hB2
  obtain ⟨p, hp⟩ := Int.eq_ofNat_of_zero_le (show 0 ≤ A % 6 from by omega)
  obtain ⟨q, hq⟩ := Int.eq_ofNat_of_zero_le (show 0 ≤ B % 6 from by omega)
  have hp6 : p < 6 := by omega
  have hq6 : q < 6 := by omega
  by_cases hpq : p = q
  · have d1 : ((p : Int) == (q : Int)) = true := by rw [hpq]; simp
    go_enter Try.func6, Try.ntmps6
    go_wp2_with (go_at_call 14; refine (awake6 _).mono ?_; rintro e w2 ⟨rfl, hx⟩; have HX := Aside.mk hx; clear hx)
    go_ret
    exact ⟨rfl, HX.out⟩
  have d1 : ((p : Int) == (q : Int)) = false := by simp; omega
  obtain ⟨t, ht⟩ : ∃ t : Nat, min (p : Int) (q : Int) = (t : Int) := ⟨min p q, by omega⟩
  obtain ⟨u, hu⟩ : ∃ u : Nat, max (p : Int) (q : Int) = (u : Int) := ⟨max p q, by omega⟩
  have htu : t < u := by omega
  have hu6 : u < 6 := by omega
  obtain ⟨n, hn⟩ : ∃ n : Nat, bits .and .i64 c 7 = (n : Int) - 1 := ⟨(bits .and .i64 c 7 + 1).toNat, by have := and7 c; omega⟩
  have hn1 : 1 ≤ n ∧ n ≤ 8 := by have := and7 c; omega
  clear hpq
  go_enter Try.func6, Try.ntmps6
  go_wp2_with (fail)
  refine (sNewD_any 1 6 _).mono ?_
  rw [show newG 1 6 = (⟨1, 6, 0, 0, false, 0, 0, 5, 0, 0, 0, false, false, ro 0, []⟩ : Grid) from by decide]
  have e6 : (ro 0).length = 6 := rfl
  rintro e w0 ⟨a0, c0, rfl, HO0, HX0⟩
  clear hA hB hp hq d1 ht hu
  have HB0 := Aside.mk (Box.new w0 31 #[.int .i64 1, .int .i64 6, .int .i64 0, .int .i64 0, .bool false, .int .i64 0, .int .i64 0, .int .i64 5, .int .i64 0, .int .i64 0, .int .i64 0, .bool false, .bool false, .slice a0 6 c0, .slice none 0 0])
  have HG0 := Aside.mk HX0.out.size
  have HO1 : Aside (OwnRD (w0.alloc (.cells #[.int .i64 1, .int .i64 6, .int .i64 0, .int .i64 0, .bool false, .int .i64 0, .int .i64 0, .int .i64 5, .int .i64 0, .int .i64 0, .int .i64 0, .bool false, .bool false, .slice a0 6 c0, .slice none 0 0] 31)) w.heap.size (.slice a0 6 c0) (ro 0)) := ⟨OwnRD.ext HO0.out (Ext.alloc1 _ _)⟩
  have HX1 := Aside.mk (HX0.out.alloc (.cells #[.int .i64 1, .int .i64 6, .int .i64 0, .int .i64 0, .bool false, .int .i64 0, .int .i64 0, .int .i64 5, .int .i64 0, .int .i64 0, .int .i64 0, .bool false, .bool false, .slice a0 6 c0, .slice none 0 0] 31))
  go_wp2
  clear e6
  go_loopw [12, 39] (fun s12 si wr => ∃ k : Nat, k ≤ 6 ∧ si = .int .i64 k ∧ Aside (Box wr w0.heap.size 31 #[.int .i64 1, .int .i64 6, .int .i64 0, .int .i64 0, .bool false, .int .i64 0, .int .i64 0, .int .i64 5, .int .i64 0, .int .i64 0, .int .i64 0, .bool false, .bool false, .slice a0 6 c0, .slice none 0 0]) ∧ Aside (OwnRD wr w.heap.size (.slice a0 6 c0) (ro k)) ∧ Aside (Ext w wr)) (fun _ i _ => 6 - (intOf i).toNat)
  case atStart => exact ⟨0, by omega, rfl, HB0, HO1, HX1⟩
  case round =>
    obtain ⟨k, hk, rfl, HB, HO, HX⟩ := hrel
    clear HB0 HO1 HX1 HO0
    obtain ⟨hcB, hfB⟩ := HB.out.rules
    by_cases hk6 : k < 6
    · obtain ⟨b1, g1, c1, ha1, hc1, HC1, hg1, hgl, hb1, hbg, HU⟩ := HO.out.at_ k _ (ro_at k hk6) (by simp)
      obtain ⟨hk1, hk2, hk3, hk4⟩ := HC1.out.cells rfl 0 (by simp)
      have hne := HB.out.ne_own HC1.out (by decide)
      subst ha1
      have hk0 : (0 : Int) ≤ (k : Int) := by omega
      have hki : (k : Int) < 6 := by omega
      have eR : IntKind.i32.wrap (97 + (k : Int)) = 97 + (k : Int) := IntWalk.i32_in _ (by omega)
      rw [Nat.zero_mul] at hk1 hk3
      clear hk2 hk4
      go_wp2
      go_roundw
      case rel =>
        have hs := World.ownsRow.stored HC1.out 0 (.int .i32 (97 + (k : Int)))
        have hx : (flatC [(⟨32, 0⟩ : Cell)]).set 0 (.int .i32 (97 + (k : Int))) = flatC [⟨97 + (k : Int), 0⟩] := rfl
        rw [hx] at hs
        refine ⟨k + 1, by omega, by go_num, ⟨HB.out.grown hs.2 (by simp [Value.ownBlock]; exact hne)⟩, ⟨?_⟩, ⟨HX.out.of_grown hs.2 (by intro j hj; simp [Value.ownBlock] at hj; omega)⟩⟩
        have h2 := HU.out _ [⟨97 + (k : Int), 0⟩] rfl hs.1 hs.2
        rwa [ro_set k hk6] at h2
      case measure => simp [intOf]; omega
    · obtain rfl : k = 6 := by omega
      obtain ⟨hl1, hl2⟩ := hn1
      obtain ⟨g2, hg2⟩ : ∃ g2, applyG (rgG 6) 4 114 [(t : Int) + 1, (u : Int) + 1] = g2 := ⟨_, rfl⟩
      have hk2 := (reg_law t u n true htu hu6 ⟨hl1, hl2⟩).1
      unfold regOk2 rg2 at hk2
      rw [hg2] at hk2
      simp only [Bool.and_eq_true, beq_iff_eq] at hk2
      obtain ⟨⟨⟨f1, f2⟩, f3⟩, f4⟩ := hk2
      have d1 : (g2.Top != (t : Int)) = false := by simp [f1]
      have d2 : (g2.Bottom != (u : Int)) = false := by simp [f2]
      have d3 : (g2.X != 0) = false := by simp [f3]
      have d4 : (g2.Y != 0) = false := by simp [f4]
      have HG2 := Aside.mk hg2
      have HWF2 : Aside (WFG g2) := ⟨by rw [← hg2]; exact rg2_wf t u⟩
      obtain ⟨g3, hg3⟩ : ∃ g3, applyG g2 4 100 [(t : Int) + 1] = g3 := ⟨_, rfl⟩
      have HG3 : Aside (g3 = rgN t u true 0) := ⟨by rw [← hg3, ← hg2]; rfl⟩
      have HH3 := Aside.mk hg3
      clear f1 f2 f3 f4 hg2 hg3
      have HT := Aside.mk htu
      go_wp2_with (first | (refine atLoad 31 (.tmp 11) rfl ?_; refine wpList_load_row rfl 31 (.tmp 11) rfl w0.heap.size rfl 31 _ (0, 0) _ HB.out Try.underlying31 rfl size31 ?_))
      have HXa := Aside.mk (Ext.alloc1 wr (.cells #[.int .i64 ((t : Int) + 1), .int .i64 ((u : Int) + 1)] 3))
      have HPa : Aside (IntsAt (wr.alloc (.cells #[.int .i64 ((t : Int) + 1), .int .i64 ((u : Int) + 1)] 3)) (.slice (some ⟨wr.heap.size, 0, none⟩) 2 2) [(t : Int) + 1, (u : Int) + 1]) := ⟨Holds.newN wr 3 1 2 [.int .i64 ((t : Int) + 1), .int .i64 ((u : Int) + 1)] rfl (by omega) (by intro x hx; simp at hx; rcases hx with rfl | rfl <;> rfl)⟩
      refine (Apply_to (rgG 6) g2 4 114 [(t : Int) + 1, (u : Int) + 1] _ _ none _ _ 0 _ HG2.out rg_wf (ParOk.of _ (by simp) (by simp; omega)) HPa.out (show RowsAt _ (.slice a0 6 c0) (ro 6) from (HO.out.own.ext HXa.out).at_) (OwnR.nil _ 0).at_).mono ?_
      rintro e w2 ⟨a2, c2, b2, d2', rfl, HI2, HX2, HW2⟩
      have HXb := Aside.mk (HXa.out.trans HX2.out)
      have HBx := Aside.mk (HB.out.ext HXb.out)
      go_wp2_with (first
        | ((refine atStore 31 (.tmp 11) (.tmp 60) rfl ?_; refine wpList_store_box _ rfl 31 (.tmp 11) (.tmp 60) rfl w0.heap.size _ rfl rfl 31 _ HBx.out size31 rfl rfl ?_; intro w3 hbz hgz; have HB3 := Aside.mk hbz; have HS3 := Aside.mk hgz; clear hgz hbz); obtain ⟨hcC, hfC⟩ := HB3.out.rules)
        | (refine atLoad 31 (.tmp 11) rfl ?_; refine wpList_load_row rfl 31 (.tmp 11) rfl w0.heap.size rfl 31 _ (0, 0) _ HB3.out Try.underlying31 rfl size31 ?_))
      have HI3 := Aside.mk (HI2.out.box HBx.out HS3.out)
      have HX3 : Aside (Ext w w3) := ⟨(HX.out.trans HXb.out).of_grown HS3.out (by intro k hk; cases hk; exact HG0.out)⟩
      have HXc := Aside.mk (Ext.alloc1 w3 (.cells #[.int .i64 ((t : Int) + 1)] 3))
      refine (Apply_to g2 g3 4 100 [(t : Int) + 1] _ _ _ _ _ _ _ HH3.out HWF2.out (ParOk.of _ (by simp) (by simp; omega)) (Holds.new1 w3 3 (.int .i64 ((t : Int) + 1)) rfl) (HI3.out.rows.at_.ext HXc.out) (HI3.out.back.at_.ext HXc.out)).mono ?_
      rintro e w4 ⟨a4, c4, b4, d4', rfl, HI4, HX4, HW4⟩
      have HXd := Aside.mk (HXc.out.trans HX4.out)
      have HBy := Aside.mk (HB3.out.ext HXd.out)
      go_wp2_with (first
        | ((refine atStore 31 (.tmp 11) (.tmp 92) rfl ?_; refine wpList_store_box _ rfl 31 (.tmp 11) (.tmp 92) rfl w0.heap.size _ rfl rfl 31 _ HBy.out size31 rfl rfl ?_; intro w5 hbz hgz; have HB5 := Aside.mk hbz; have HS5 := Aside.mk hgz; clear hgz hbz)))
      have HI5 := Aside.mk ((HI4.out.box HBy.out HS5.out).mono (show w.heap.size ≤ _ by have := HX3.out.size; simp; omega))
      have HX5 : Aside (Ext w w5) := ⟨(HX3.out.trans HXd.out).of_grown HS5.out (by intro k hk; cases hk; exact HG0.out)⟩
      clear d1 d2 d3 d4 hcB hfB hcC hfC
      go_loopw [15] (fun si wr => ∃ (k : Nat) (g : Grid) (a6 b6 : Option Addr) (c6 d6 : Nat), k ≤ n ∧ si = .int .i64 k ∧ Aside (g = rgN t u true k) ∧ Aside (Box wr w0.heap.size 31 #[.int .i64 g.W, .int .i64 g.H, .int .i64 g.X, .int .i64 g.Y, .bool g.Wrap, .int .i64 g.A, .int .i64 g.Top, .int .i64 g.Bottom, .int .i64 g.SX, .int .i64 g.SY, .int .i64 g.SA, .bool g.NoWrap, .bool g.Hidden, .slice a6 g.Rows.length c6, .slice b6 g.Back.length d6]) ∧ Aside (InG wr w.heap.size g a6 c6 b6 d6) ∧ Aside (Ext w wr)) (fun i _ => n - (intOf i).toNat)
      case atStart => exact ⟨0, g3, a4, b4, c4, d4', by omega, rfl, HG3, HB5, HI5, HX5⟩
      case round =>
        obtain ⟨k, g, a6, b6, c6, d6, hk, rfl, hg, HB6, HI6, HX6⟩ := hrel
        have HWF : Aside (WFG g) := ⟨by rw [hg.out]; exact rgN_wf _ _ _ _⟩
        by_cases hlt : (k : Int) < (n : Int)
        · have hk0 : (0 : Int) ≤ (k : Int) := by omega
          have hk1 : (k : Int) ≤ 8 := by omega
          go_wp2_with (first | (refine atLoad 31 (.tmp 11) rfl ?_; refine wpList_load_row rfl 31 (.tmp 11) rfl w0.heap.size rfl 31 _ (0, 0) _ HB6.out Try.underlying31 rfl size31 ?_))
          obtain ⟨g7, hg7⟩ : ∃ g7, applyG g 3 77 [] = g7 := ⟨_, rfl⟩
          have HG7 : Aside (g7 = rgN t u true (k + 1)) := ⟨by rw [← hg7, hg.out]; rfl⟩
          refine (Apply_to g g7 3 77 [] none _ _ 0 _ _ _ hg7 HWF.out ParOk.nil (IntsAt.nil _) HI6.out.rows.at_ HI6.out.back.at_).mono ?_
          clear hg7
          rintro e w7 ⟨a7, c7, b7, d7, rfl, HI7, HX7, HW7⟩
          have HBz := Aside.mk (HB6.out.ext HX7.out)
          go_wp2_with (first
            | ((refine atStore 31 (.tmp 11) (.tmp 101) rfl ?_; refine wpList_store_box _ rfl 31 (.tmp 11) (.tmp 101) rfl w0.heap.size _ rfl rfl 31 _ HBz.out size31 rfl rfl ?_; intro w8 hbz hgz; have HB8 := Aside.mk hbz; have HS8 := Aside.mk hgz; clear hgz hbz)))
          go_roundw
          case rel => exact ⟨k + 1, g7, a7, b7, c7, d7, by omega, by go_num, HG7, HB8, ⟨(HI7.out.box HBz.out HS8.out).mono HX6.out.size⟩, ⟨(HX6.out.trans HX7.out).of_grown HS8.out (by intro k hk; cases hk; exact HG0.out)⟩⟩
          case measure => simp [intOf]; omega
        · obtain rfl : k = n := by omega
          obtain ⟨r1, r2, r3, r4, r5, r6⟩ := reg_facts t u k true HT.out hu6 ⟨hl1, hl2⟩ g hg.out
          have H4 := Aside.mk r4
          have hwide := Aside.mk HWF.out.wide
          have hWW := Aside.mk r1
          have dy : (g.Y == (t : Int)) = true := by simp [r2]
          have dl : ((g.Rows.length : Int) != 6) = false := by simp [r3]
          have HRL := Aside.mk r3
          have H5 := Aside.mk r5
          have H6 := Aside.mk r6
          clear r1 r2 r3 r4 r5 r6
          obtain ⟨hcB, hfB⟩ := HB6.out.rules
          go_wp2
          go_loop [16] (fun si => ∃ y : Nat, y ≤ 6 ∧ si = .int .i64 y) (fun i => 6 - (intOf i).toNat)
          case atStart => exact ⟨0, by omega, rfl⟩
          case round =>
            obtain ⟨y, hy, rfl⟩ := hrel
            by_cases hy6 : y < 6
            · have hyN : y < g.Rows.length := by have := HRL.out; omega
              have hyI : (y : Int) < (g.Rows.length : Int) := by omega
              have hy0 : (0 : Int) ≤ (y : Int) := by omega
              have hyi : (y : Int) < 6 := by omega
              obtain ⟨b8, o8, a9, c9, r9, ha8, hc8, hr9, hi9⟩ := HI6.out.rows.at_.at_ y hyN
              have hrl : r9.length = 1 := by have h1 := hwide.out r9 (List.mem_of_getElem? hi9.out); rw [hWW.out] at h1; omega
              have hR9 : g.Rows.getD y [] = r9 := by simp [List.getD_eq_getElem?_getD, hi9.out]
              obtain ⟨b10, o10, ha10, hc10, _⟩ := hr9.at_ 0 (by omega)
              have hW := H4.out y hy6
              rw [hR9] at hW
              rw [Nat.zero_mul, Nat.add_zero, hW] at hc10
              have hp9 : 0 < r9.length := by omega
              have hp9i : (0 : Int) < (r9.length : Int) := by omega
              have HRl := Aside.mk hrl
              subst ha8
              subst ha10
              clear hr9 hi9 hW hR9 hrl
              have eR : IntKind.i32.wrap (97 + (y : Int)) = 97 + (y : Int) := IntWalk.i32_in _ (by omega)
              by_cases k1 : t ≤ y
              · have k1i : (t : Int) ≤ (y : Int) := by omega
                by_cases k2 : y ≤ u
                · have k2i : (y : Int) ≤ (u : Int) := by omega
                  by_cases k3 : (t : Int) ≤ (y : Int) - (k : Int)
                  · have k4i : (y : Int) - (k : Int) ≤ (u : Int) := by omega
                    have eR2 : IntKind.i32.wrap (97 + ((y : Int) - (k : Int))) = 97 + ((y : Int) - (k : Int)) := IntWalk.i32_in _ (by omega)
                    rw [show regWant t u k true y = 97 + ((y : Int) - (k : Int)) from by unfold regWant; rw [if_pos (by omega)]; simp only [if_true]; rw [if_pos (by omega)]] at hc10
                    go_wp2
                    go_round
                    case rel => exact ⟨y + 1, by omega, by go_num⟩
                    case measure => simp [intOf]; omega
                  · have k3i : decide ((t : Int) ≤ (y : Int) - (k : Int)) = false := by simpa using k3
                    rw [show regWant t u k true y = 32 from by unfold regWant; rw [if_pos (by omega)]; simp only [if_true]; rw [if_neg (by omega)]] at hc10
                    clear k3
                    go_wp2
                    go_round
                    case rel => exact ⟨y + 1, by omega, by go_num⟩
                    case measure => simp [intOf]; omega
                · have k2b : decide (y ≤ u) = false := by simpa using k2
                  have k2i : decide ((y : Int) ≤ (u : Int)) = false := by simp; omega
                  rw [show regWant t u k true y = 97 + (y : Int) from by unfold regWant; rw [if_neg (by omega)]] at hc10
                  go_wp2
                  go_round
                  case rel => exact ⟨y + 1, by omega, by go_num⟩
                  case measure => simp [intOf]; omega
              · have k1b : decide (t ≤ y) = false := by simpa using k1
                have k1i : decide ((t : Int) ≤ (y : Int)) = false := by simp; omega
                rw [show regWant t u k true y = 97 + (y : Int) from by unfold regWant; rw [if_neg (by omega)]] at hc10
                go_wp2
                go_round
                case rel => exact ⟨y + 1, by omega, by go_num⟩
                case measure => simp [intOf]; omega
            · have hyi : decide ((y : Int) < 6) = false := by simp; omega
              by_cases ht0 : t = 0
              · subst ht0
                have dy0 : (g.Y == 0) = true := by simpa using dy
                have h6 := H6.out (fun h => by cases h.2)
                have dB : ((g.Back.length : Int) == 0) = true := by simp [h6]
                clear h6
                go_wp2_with (go_at_call 14; refine (awake6 _).mono ?_; rintro e w9 ⟨rfl, hx⟩; have HX9 := Aside.mk hx; clear hx)
                go_ret
                exact ⟨rfl, HX6.out.trans HX9.out⟩
              · have ht1 : 0 < t := by omega
                have ht2 : (0 : Int) < (t : Int) := by omega
                have ht3 : ((t : Int) == 0) = false := by simp; omega
                have h6 := H6.out (fun h => ht0 h.1)
                have dB : ((g.Back.length : Int) == 0) = true := by simp [h6]
                clear h6 ht0
                go_wp2_with (go_at_call 14; refine (awake6 _).mono ?_; rintro e w9 ⟨rfl, hx⟩; have HX9 := Aside.mk hx; clear hx)
                go_ret
                exact ⟨rfl, HX6.out.trans HX9.out⟩

theorem ActsRegions_any (a b c : Int) (down : Bool) (w : World) : Calls Try.prog 6 #[.int .i64 a, .int .i64 b, .int .i64 c, .bool down] w fun e w' => e = .returned (.bool true) ∧ Ext w w' := by
  cases down
  · exact ActsRegions_up a b c w
  · exact ActsRegions_down a b c w
end Go.Proofs.Ytmehkikkjebnnaa
