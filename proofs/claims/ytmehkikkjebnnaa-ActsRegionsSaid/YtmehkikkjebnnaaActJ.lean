/-
  Walks: acts.private.
-/
import Derived.Test.YtmehkikkjebnnaaActI
set_option linter.unusedVariables false
set_option linter.unusedSimpArgs false
namespace Go.Proofs.Ytmehkikkjebnnaa
open Go.RowKit
attribute [local go_sem] max2_i min2_i max_two min_two
attribute [local go_sem ↓] Go.wp_at_zero Go.wp_at_succ

def privOne (r : Int) (g : Grid) (n : Int) : Grid := if n = 25 then { g with Hidden := r == 108 } else if n = 7 then { g with NoWrap := r == 108 } else g
def privG (g : Grid) (r : Int) (l : List Int) : Grid := if r = 104 ∨ r = 108 then l.foldl (privOne r) g else g
theorem privOne_rows (r : Int) (g : Grid) (n : Int) : (privOne r g n).Rows = g.Rows ∧ (privOne r g n).Back = g.Back := by
  unfold privOne
  split
  · exact ⟨rfl, rfl⟩
  · split
    · exact ⟨rfl, rfl⟩
    · exact ⟨rfl, rfl⟩
theorem privFold_rows (r : Int) (l : List Int) : ∀ (g : Grid), (l.foldl (privOne r) g).Rows = g.Rows ∧ (l.foldl (privOne r) g).Back = g.Back := by
  induction l with
  | nil => intro g; exact ⟨rfl, rfl⟩
  | cons n l ih =>
    intro g
    have h1 := ih (privOne r g n)
    have h2 := privOne_rows r g n
    exact ⟨h1.1.trans h2.1, h1.2.trans h2.2⟩

set_option maxRecDepth 100000 in
set_option maxHeartbeats 2000000 in
theorem private_any (g : Grid) (k r : Int) (l : List Int) (ap ar ab : Option Addr) (cp nr cr nb cb : Nat) (w : World) (hl : l.length ≤ 1000000) (hla : IntsAt w (.slice ap l.length cp) l) :
    Calls Try.prog 38 #[.agg #[.int .i64 g.W, .int .i64 g.H, .int .i64 g.X, .int .i64 g.Y, .bool g.Wrap, .int .i64 g.A, .int .i64 g.Top, .int .i64 g.Bottom, .int .i64 g.SX, .int .i64 g.SY, .int .i64 g.SA, .bool g.NoWrap, .bool g.Hidden, .slice ar nr cr, .slice ab nb cb], .agg #[.int .i64 k, .int .i32 r, .slice ap l.length cp]] w fun e w' => e = .returned (.agg #[.int .i64 (privG g r l).W, .int .i64 (privG g r l).H, .int .i64 (privG g r l).X, .int .i64 (privG g r l).Y, .bool (privG g r l).Wrap, .int .i64 (privG g r l).A, .int .i64 (privG g r l).Top, .int .i64 (privG g r l).Bottom, .int .i64 (privG g r l).SX, .int .i64 (privG g r l).SY, .int .i64 (privG g r l).SA, .bool (privG g r l).NoWrap, .bool (privG g r l).Hidden, .slice ar nr cr, .slice ab nb cb]) ∧ Ext w w' := by
  have HL := Aside.mk hla
  clear hla
  have HA := Aside.mk (((Box.new w 31 #[.int .i64 g.W, .int .i64 g.H, .int .i64 g.X, .int .i64 g.Y, .bool g.Wrap, .int .i64 g.A, .int .i64 g.Top, .int .i64 g.Bottom, .int .i64 g.SX, .int .i64 g.SY, .int .i64 g.SA, .bool g.NoWrap, .bool g.Hidden, .slice ar nr cr, .slice ab nb cb]).alloc (.cells #[.int .i64 k, .int .i32 r, .slice ap l.length cp] 35)).alloc (.cells #[.int .i64 0, .int .i64 0, .int .i64 0, .int .i64 0, .bool false, .int .i64 0, .int .i64 0, .int .i64 0, .int .i64 0, .int .i64 0, .int .i64 0, .bool false, .bool false, .slice none 0 0, .slice none 0 0] 31))
  have HR := Aside.mk ((Box.newAt (w.alloc (.cells #[.int .i64 g.W, .int .i64 g.H, .int .i64 g.X, .int .i64 g.Y, .bool g.Wrap, .int .i64 g.A, .int .i64 g.Top, .int .i64 g.Bottom, .int .i64 g.SX, .int .i64 g.SY, .int .i64 g.SA, .bool g.NoWrap, .bool g.Hidden, .slice ar nr cr, .slice ab nb cb] 31)) 35 #[.int .i64 k, .int .i32 r, .slice ap l.length cp] (w.heap.size + 1) (by simp)).alloc (.cells #[.int .i64 0, .int .i64 0, .int .i64 0, .int .i64 0, .bool false, .int .i64 0, .int .i64 0, .int .i64 0, .int .i64 0, .int .i64 0, .int .i64 0, .bool false, .bool false, .slice none 0 0, .slice none 0 0] 31))
  have HZ := Aside.mk (Box.newAt ((w.alloc (.cells #[.int .i64 g.W, .int .i64 g.H, .int .i64 g.X, .int .i64 g.Y, .bool g.Wrap, .int .i64 g.A, .int .i64 g.Top, .int .i64 g.Bottom, .int .i64 g.SX, .int .i64 g.SY, .int .i64 g.SA, .bool g.NoWrap, .bool g.Hidden, .slice ar nr cr, .slice ab nb cb] 31)).alloc (.cells #[.int .i64 k, .int .i32 r, .slice ap l.length cp] 35)) 31 #[.int .i64 0, .int .i64 0, .int .i64 0, .int .i64 0, .bool false, .int .i64 0, .int .i64 0, .int .i64 0, .int .i64 0, .int .i64 0, .int .i64 0, .bool false, .bool false, .slice none 0 0, .slice none 0 0] (w.heap.size + 2) (by simp))
  have HW := Aside.mk (((Ext.alloc1 w (.cells #[.int .i64 g.W, .int .i64 g.H, .int .i64 g.X, .int .i64 g.Y, .bool g.Wrap, .int .i64 g.A, .int .i64 g.Top, .int .i64 g.Bottom, .int .i64 g.SX, .int .i64 g.SY, .int .i64 g.SA, .bool g.NoWrap, .bool g.Hidden, .slice ar nr cr, .slice ab nb cb] 31)).alloc (.cells #[.int .i64 k, .int .i32 r, .slice ap l.length cp] 35)).alloc (.cells #[.int .i64 0, .int .i64 0, .int .i64 0, .int .i64 0, .bool false, .int .i64 0, .int .i64 0, .int .i64 0, .int .i64 0, .int .i64 0, .int .i64 0, .bool false, .bool false, .slice none 0 0, .slice none 0 0] 31))
  by_cases hr : r = 104 ∨ r = 108
  · have HP := Aside.mk (show privG g r l = l.foldl (privOne r) g from by unfold privG; rw [if_pos hr])
    rcases hr with rfl | rfl
    · have hq := HP
      go_enter Try.func38, Try.ntmps38
      go_wp2
      go_loopw [19] (fun i wr => ∃ (k' : Nat) (gk : Grid), k' ≤ l.length ∧ i = .int .i64 k' ∧ Aside (gk = (l.take k').foldl (privOne 104) g) ∧ Aside (Box wr w.heap.size 31 #[.int .i64 gk.W, .int .i64 gk.H, .int .i64 gk.X, .int .i64 gk.Y, .bool gk.Wrap, .int .i64 gk.A, .int .i64 gk.Top, .int .i64 gk.Bottom, .int .i64 gk.SX, .int .i64 gk.SY, .int .i64 gk.SA, .bool gk.NoWrap, .bool gk.Hidden, .slice ar nr cr, .slice ab nb cb]) ∧ Aside (Box wr (w.heap.size + 1) 35 #[.int .i64 k, .int .i32 104, .slice ap l.length cp]) ∧ Aside (Box wr (w.heap.size + 2) 31 #[.int .i64 0, .int .i64 0, .int .i64 0, .int .i64 0, .bool false, .int .i64 0, .int .i64 0, .int .i64 0, .int .i64 0, .int .i64 0, .int .i64 0, .bool false, .bool false, .slice none 0 0, .slice none 0 0]) ∧ Aside (Ext w wr)) (fun i _ => l.length - (intOf i).toNat)
      case atStart => exact ⟨0, g, by omega, rfl, ⟨rfl⟩, HA, HR, HZ, HW⟩
      case round =>
        obtain ⟨k', gk, hk, rfl, HK, HA1, HR1, HZ1, HX1⟩ := hrel
        obtain ⟨hc1, hf1⟩ := HA1.out.rules
        obtain ⟨hc2, hf2⟩ := HR1.out.rules
        by_cases hlt : k' < l.length
        · obtain ⟨b, o, ha, hcell⟩ := (HL.out.ext HX1.out).at_ k' hlt
          obtain ⟨p, hp0⟩ : ∃ p, l.getD k' 0 = p := ⟨_, rfl⟩
          rw [hp0] at hcell
          have HS := Aside.mk (foldl_take_succ (privOne 104) g l k' 0 hlt)
          rw [hp0] at HS
          clear hp0
          subst ha
          by_cases h25 : p = 25
          · subst h25
            go_wp2
            go_roundw
            case rel =>
              have HS1 := HA1.out.set 12 (.bool false)
              refine ⟨k' + 1, { gk with Hidden := false }, by omega, by go_num, ⟨?_⟩, ⟨HS1.1⟩, ⟨HR1.out.grown HS1.2 (by simp)⟩, ⟨HZ1.out.grown HS1.2 (by simp)⟩, ⟨HX1.out.of_grown HS1.2 (by intro k hk; cases hk; omega)⟩⟩
              rw [HS.out, ← HK.out]
              rfl
            case measure => simp [intOf]; omega
          · have d25 : (p == 25) = false := by simpa using h25
            by_cases h7 : p = 7
            · subst h7
              go_wp2
              go_roundw
              case rel =>
                have HS1 := HA1.out.set 11 (.bool false)
                refine ⟨k' + 1, { gk with NoWrap := false }, by omega, by go_num, ⟨?_⟩, ⟨HS1.1⟩, ⟨HR1.out.grown HS1.2 (by simp)⟩, ⟨HZ1.out.grown HS1.2 (by simp)⟩, ⟨HX1.out.of_grown HS1.2 (by intro k hk; cases hk; omega)⟩⟩
                rw [HS.out, ← HK.out]
                rfl
              case measure => simp [intOf]; omega
            · have d7 : (p == 7) = false := by simpa using h7
              go_wp2
              go_roundw
              case rel =>
                refine ⟨k' + 1, gk, by omega, by go_num, ⟨?_⟩, HA1, HR1, HZ1, HX1⟩
                rw [HS.out, ← HK.out]
                unfold privOne
                rw [if_neg h25, if_neg h7]
              case measure => simp [intOf]; omega
        · have hk' : k' = l.length := by omega
          subst hk'
          have hgk : privG g 104 l = gk := by rw [HP.out, HK.out, List.take_length]
          have HGK := Aside.mk hgk
          clear hgk
          go_wp2_with (first
            | (refine atLoad 31 (.tmp 2) rfl ?_; refine wpList_load_row rfl 31 (.tmp 2) rfl w.heap.size rfl 31 _ (0, 0) _ HA1.out Try.underlying31 rfl size31 ?_)
            | (refine atStore 31 (.tmp 4) (.tmp 37) rfl ?_; refine wpList_store_box _ rfl 31 (.tmp 4) (.tmp 37) rfl (w.heap.size + 2) _ rfl rfl 31 _ HZ1.out size31 rfl rfl ?_; intro w9 hbz hgz; have HZ9 := Aside.mk hbz; have HG9 := Aside.mk hgz; clear hgz hbz))
          refine bodyPost_ret (results_cell_row Try.results38 _ _ (w.heap.size + 2) 31 _ (0, 0) _ rfl HZ9.out Try.underlying31 rfl size31) rfl ?_
          rw [HGK.out]
          exact ⟨rfl, HX1.out.of_grown HG9.out (by intro k hk; cases hk; omega)⟩
    · have hq := HP
      go_enter Try.func38, Try.ntmps38
      go_wp2
      go_loopw [19] (fun i wr => ∃ (k' : Nat) (gk : Grid), k' ≤ l.length ∧ i = .int .i64 k' ∧ Aside (gk = (l.take k').foldl (privOne 108) g) ∧ Aside (Box wr w.heap.size 31 #[.int .i64 gk.W, .int .i64 gk.H, .int .i64 gk.X, .int .i64 gk.Y, .bool gk.Wrap, .int .i64 gk.A, .int .i64 gk.Top, .int .i64 gk.Bottom, .int .i64 gk.SX, .int .i64 gk.SY, .int .i64 gk.SA, .bool gk.NoWrap, .bool gk.Hidden, .slice ar nr cr, .slice ab nb cb]) ∧ Aside (Box wr (w.heap.size + 1) 35 #[.int .i64 k, .int .i32 108, .slice ap l.length cp]) ∧ Aside (Box wr (w.heap.size + 2) 31 #[.int .i64 0, .int .i64 0, .int .i64 0, .int .i64 0, .bool false, .int .i64 0, .int .i64 0, .int .i64 0, .int .i64 0, .int .i64 0, .int .i64 0, .bool false, .bool false, .slice none 0 0, .slice none 0 0]) ∧ Aside (Ext w wr)) (fun i _ => l.length - (intOf i).toNat)
      case atStart => exact ⟨0, g, by omega, rfl, ⟨rfl⟩, HA, HR, HZ, HW⟩
      case round =>
        obtain ⟨k', gk, hk, rfl, HK, HA1, HR1, HZ1, HX1⟩ := hrel
        obtain ⟨hc1, hf1⟩ := HA1.out.rules
        obtain ⟨hc2, hf2⟩ := HR1.out.rules
        by_cases hlt : k' < l.length
        · obtain ⟨b, o, ha, hcell⟩ := (HL.out.ext HX1.out).at_ k' hlt
          obtain ⟨p, hp0⟩ : ∃ p, l.getD k' 0 = p := ⟨_, rfl⟩
          rw [hp0] at hcell
          have HS := Aside.mk (foldl_take_succ (privOne 108) g l k' 0 hlt)
          rw [hp0] at HS
          clear hp0
          subst ha
          by_cases h25 : p = 25
          · subst h25
            go_wp2
            go_roundw
            case rel =>
              have HS1 := HA1.out.set 12 (.bool true)
              refine ⟨k' + 1, { gk with Hidden := true }, by omega, by go_num, ⟨?_⟩, ⟨HS1.1⟩, ⟨HR1.out.grown HS1.2 (by simp)⟩, ⟨HZ1.out.grown HS1.2 (by simp)⟩, ⟨HX1.out.of_grown HS1.2 (by intro k hk; cases hk; omega)⟩⟩
              rw [HS.out, ← HK.out]
              rfl
            case measure => simp [intOf]; omega
          · have d25 : (p == 25) = false := by simpa using h25
            by_cases h7 : p = 7
            · subst h7
              go_wp2
              go_roundw
              case rel =>
                have HS1 := HA1.out.set 11 (.bool true)
                refine ⟨k' + 1, { gk with NoWrap := true }, by omega, by go_num, ⟨?_⟩, ⟨HS1.1⟩, ⟨HR1.out.grown HS1.2 (by simp)⟩, ⟨HZ1.out.grown HS1.2 (by simp)⟩, ⟨HX1.out.of_grown HS1.2 (by intro k hk; cases hk; omega)⟩⟩
                rw [HS.out, ← HK.out]
                rfl
              case measure => simp [intOf]; omega
            · have d7 : (p == 7) = false := by simpa using h7
              go_wp2
              go_roundw
              case rel =>
                refine ⟨k' + 1, gk, by omega, by go_num, ⟨?_⟩, HA1, HR1, HZ1, HX1⟩
                rw [HS.out, ← HK.out]
                unfold privOne
                rw [if_neg h25, if_neg h7]
              case measure => simp [intOf]; omega
        · have hk' : k' = l.length := by omega
          subst hk'
          have hgk : privG g 108 l = gk := by rw [HP.out, HK.out, List.take_length]
          have HGK := Aside.mk hgk
          clear hgk
          go_wp2_with (first
            | (refine atLoad 31 (.tmp 2) rfl ?_; refine wpList_load_row rfl 31 (.tmp 2) rfl w.heap.size rfl 31 _ (0, 0) _ HA1.out Try.underlying31 rfl size31 ?_)
            | (refine atStore 31 (.tmp 4) (.tmp 37) rfl ?_; refine wpList_store_box _ rfl 31 (.tmp 4) (.tmp 37) rfl (w.heap.size + 2) _ rfl rfl 31 _ HZ1.out size31 rfl rfl ?_; intro w9 hbz hgz; have HZ9 := Aside.mk hbz; have HG9 := Aside.mk hgz; clear hgz hbz))
          refine bodyPost_ret (results_cell_row Try.results38 _ _ (w.heap.size + 2) 31 _ (0, 0) _ rfl HZ9.out Try.underlying31 rfl size31) rfl ?_
          rw [HGK.out]
          exact ⟨rfl, HX1.out.of_grown HG9.out (by intro k hk; cases hk; omega)⟩
  · rw [show privG g r l = g from by unfold privG; rw [if_neg hr]]
    have d1 : (r == 104) = false := by simp; omega
    have d2 : (r == 108) = false := by simp; omega
    have d3 : (r != 104) = true := by simp; omega
    have d4 : (r != 108) = true := by simp; omega
    go_enter Try.func38, Try.ntmps38
    go_wp2_with (first
      | (refine atLoad 31 (.tmp 2) rfl ?_; refine wpList_load_row rfl 31 (.tmp 2) rfl w.heap.size rfl 31 _ (0, 0) _ HA.out Try.underlying31 rfl size31 ?_)
      | (refine atStore 31 (.tmp 4) (.tmp 15) rfl ?_; refine wpList_store_box _ rfl 31 (.tmp 4) (.tmp 15) rfl (w.heap.size + 2) _ rfl rfl 31 _ HZ.out size31 rfl rfl ?_; intro w9 hbz hgz; have HZ9 := Aside.mk hbz; have HG9 := Aside.mk hgz; clear hgz hbz))
    refine bodyPost_ret (results_cell_row Try.results38 _ _ (w.heap.size + 2) 31 _ (0, 0) _ rfl HZ9.out Try.underlying31 rfl size31) rfl ?_
    exact ⟨rfl, HW.out.of_grown HG9.out (by intro k hk; cases hk; omega)⟩
end Go.Proofs.Ytmehkikkjebnnaa
