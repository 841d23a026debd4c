/-
  Walks: polyptychref1.Step.
-/
import Derived.Test.YtmehkikkjebnnaaStepH
set_option linter.unusedVariables false
set_option linter.unusedSimpArgs false
namespace Go.Proofs.Ytmehkikkjebnnaa
open Go.RowKit
attribute [local go_sem] max2_i min2_i max_two min_two
attribute [local go_sem ↓] Go.wp_at_zero Go.wp_at_succ

set_option maxRecDepth 100000 in
set_option maxHeartbeats 4000000 in
theorem Step_any (s : EscV) (b : Int) (ap : Option Addr) (cp : Nat) (w : World) (h0 : 0 ≤ b) (h1 : b ≤ 255) (hs : EscOk s) (hp : IntsT w (.slice ap s.Par.length cp) s.Par) :
    Calls Try.prog 25 #[.agg #[.int .i64 s.Mode, .int .i64 s.U.Need, .int .i64 s.U.Min, .int .i64 s.U.Got, .slice ap s.Par.length cp, .int .i64 s.Num, .bool s.Priv, .bool s.Skip], .int .u8 b] w (EscRes w (stepR s b)) := by
  have HP := Aside.mk hp
  have HSO := Aside.mk hs
  clear hp hs
  have HZ := Aside.mk (Box.newAt (w.alloc (.cells #[.int .i64 s.Mode, .int .i64 s.U.Need, .int .i64 s.U.Min, .int .i64 s.U.Got, .slice ap s.Par.length cp, .int .i64 s.Num, .bool s.Priv, .bool s.Skip] 42)) 42 #[.int .i64 0, .int .i64 0, .int .i64 0, .int .i64 0, .slice none 0 0, .int .i64 0, .bool false, .bool false] (w.heap.size + 1) (by simp))
  have HW := Aside.mk ((Ext.alloc1 w (.cells #[.int .i64 s.Mode, .int .i64 s.U.Need, .int .i64 s.U.Min, .int .i64 s.U.Got, .slice ap s.Par.length cp, .int .i64 s.Num, .bool s.Priv, .bool s.Skip] 42)).alloc (.cells #[.int .i64 0, .int .i64 0, .int .i64 0, .int .i64 0, .slice none 0 0, .int .i64 0, .bool false, .bool false] 42))
  obtain ⟨M, hM⟩ : ∃ M, s.Mode = M := ⟨_, rfl⟩
  by_cases c0 : M = 0
  · have m0 : (s.Mode == 0) = true := by rw [hM]; simpa using c0
    rw [show stepR s b = groundR s b from by unfold stepR; rw [if_pos (hM.trans c0)]]
    obtain ⟨⟨s2, l2⟩, hr⟩ : ∃ r : EscV × List ActV, groundR s b = r := ⟨_, rfl⟩
    have hU := fun w ap cp hp => ground_any s b ap cp w h0 h1 HSO.out hp
    rw [hr]
    simp only [hr] at hU
    have HU := Aside.mk hU
    clear hU hr hM c0
    go_enter Try.func25, Try.ntmps25
    go_wp2_with (first
      | ((go_at_call 42; refine (HU.out _ _ _ (HP.out.ext HW.out)).mono ?_); rintro e w1 ⟨a1, c1, a2, c2, rfl, hp1, ha1, he1⟩; have HZ1 := Aside.mk (HZ.out.ext he1.out))
      | (refine atStore 42 (.tmp 4) (.tmp 13) rfl ?_; refine wpList_store_box _ rfl 42 (.tmp 4) (.tmp 13) rfl (w.heap.size + 1) _ rfl rfl 42 _ HZ1.out size42 rfl rfl ?_; intro w2 hbz hgz; have HZ2 := Aside.mk hbz; have HG2 := Aside.mk hgz; clear hgz hbz))
    refine bodyPost_ret (results_cell_tmp Try.results25 _ _ (w.heap.size + 1) 42 #[.int .i64 s2.Mode, .int .i64 s2.U.Need, .int .i64 s2.U.Min, .int .i64 s2.U.Got, .slice a1 s2.Par.length c1, .int .i64 s2.Num, .bool s2.Priv, .bool s2.Skip] (0, 0) _ rfl HZ2.out Try.underlying42 rfl size42) rfl ?_
    exact EscRes.of s2 l2 _ _ _ _ (HoldsT.grown hp1.out HG2.out HZ1.out (by decide)) (ha1.out.grown HG2.out HZ1.out (by decide) (by decide)) ((HW.out.trans he1.out).of_grown HG2.out (by intro k hk; cases hk; omega))
  by_cases c1 : M = 1
  · have m0 : (s.Mode == 0) = false := by rw [hM]; simpa using c0
    have m1 : (s.Mode == 1) = true := by rw [hM]; simpa using c1
    rw [show stepR s b = escapeR s b from by unfold stepR; rw [hM, if_neg c0, if_pos c1]]
    obtain ⟨⟨s2, l2⟩, hr⟩ : ∃ r : EscV × List ActV, escapeR s b = r := ⟨_, rfl⟩
    have hU := fun w ap cp hp => qescape_any s b ap cp w h0 h1 hp
    rw [hr]
    simp only [hr] at hU
    have HU := Aside.mk hU
    clear hU hr hM c0 c1
    go_enter Try.func25, Try.ntmps25
    go_wp2_with (first
      | ((go_at_call 43; refine (HU.out _ _ _ (HP.out.ext HW.out)).mono ?_); rintro e w1 ⟨a1, c1, a2, c2, rfl, hp1, ha1, he1⟩; have HZ1 := Aside.mk (HZ.out.ext he1.out))
      | (refine atStore 42 (.tmp 4) (.tmp 20) rfl ?_; refine wpList_store_box _ rfl 42 (.tmp 4) (.tmp 20) rfl (w.heap.size + 1) _ rfl rfl 42 _ HZ1.out size42 rfl rfl ?_; intro w2 hbz hgz; have HZ2 := Aside.mk hbz; have HG2 := Aside.mk hgz; clear hgz hbz))
    refine bodyPost_ret (results_cell_tmp Try.results25 _ _ (w.heap.size + 1) 42 #[.int .i64 s2.Mode, .int .i64 s2.U.Need, .int .i64 s2.U.Min, .int .i64 s2.U.Got, .slice a1 s2.Par.length c1, .int .i64 s2.Num, .bool s2.Priv, .bool s2.Skip] (0, 0) _ rfl HZ2.out Try.underlying42 rfl size42) rfl ?_
    exact EscRes.of s2 l2 _ _ _ _ (HoldsT.grown hp1.out HG2.out HZ1.out (by decide)) (ha1.out.grown HG2.out HZ1.out (by decide) (by decide)) ((HW.out.trans he1.out).of_grown HG2.out (by intro k hk; cases hk; omega))
  by_cases c2 : M = 2
  · have m0 : (s.Mode == 0) = false := by rw [hM]; simpa using c0
    have m1 : (s.Mode == 1) = false := by rw [hM]; simpa using c1
    have m2 : (s.Mode == 2) = true := by rw [hM]; simpa using c2
    rw [show stepR s b = csiR s b from by unfold stepR; rw [hM, if_neg c0, if_neg c1, if_pos c2]]
    obtain ⟨⟨s2, l2⟩, hr⟩ : ∃ r : EscV × List ActV, csiR s b = r := ⟨_, rfl⟩
    have hU := fun w ap cp hp => csi_any s b ap cp w h0 h1 HSO.out hp
    rw [hr]
    simp only [hr] at hU
    have HU := Aside.mk hU
    clear hU hr hM c0 c1 c2
    go_enter Try.func25, Try.ntmps25
    go_wp2_with (first
      | ((go_at_call 44; refine (HU.out _ _ _ (HP.out.ext HW.out)).mono ?_); rintro e w1 ⟨a1, c1, a2, c2, rfl, hp1, ha1, he1⟩; have HZ1 := Aside.mk (HZ.out.ext he1.out))
      | (refine atStore 42 (.tmp 4) (.tmp 27) rfl ?_; refine wpList_store_box _ rfl 42 (.tmp 4) (.tmp 27) rfl (w.heap.size + 1) _ rfl rfl 42 _ HZ1.out size42 rfl rfl ?_; intro w2 hbz hgz; have HZ2 := Aside.mk hbz; have HG2 := Aside.mk hgz; clear hgz hbz))
    refine bodyPost_ret (results_cell_tmp Try.results25 _ _ (w.heap.size + 1) 42 #[.int .i64 s2.Mode, .int .i64 s2.U.Need, .int .i64 s2.U.Min, .int .i64 s2.U.Got, .slice a1 s2.Par.length c1, .int .i64 s2.Num, .bool s2.Priv, .bool s2.Skip] (0, 0) _ rfl HZ2.out Try.underlying42 rfl size42) rfl ?_
    exact EscRes.of s2 l2 _ _ _ _ (HoldsT.grown hp1.out HG2.out HZ1.out (by decide)) (ha1.out.grown HG2.out HZ1.out (by decide) (by decide)) ((HW.out.trans he1.out).of_grown HG2.out (by intro k hk; cases hk; omega))
  have m0 : (s.Mode == 0) = false := by rw [hM]; simpa using c0
  have m1 : (s.Mode == 1) = false := by rw [hM]; simpa using c1
  have m2 : (s.Mode == 2) = false := by rw [hM]; simpa using c2
  by_cases c3 : M = 3
  · have m3 : (s.Mode == 3) = true := by rw [hM]; simpa using c3
    rw [show stepR s b = (stringR s b, []) from by unfold stepR; rw [hM, if_neg c0, if_neg c1, if_neg c2, if_pos c3]]
    clear hM c0 c1 c2 c3
    by_cases d1 : b = 7 ∨ b = 24 ∨ b = 26
    · rw [show stringR s b = zE from by unfold stringR; rw [if_pos d1]]
      rcases d1 with rfl | rfl | rfl
      all_goals
        go_enter Try.func25, Try.ntmps25
        go_wp2
        refine bodyPost_ret (results_cell_tmp Try.results25 _ _ (w.heap.size + 1) 42 #[.int .i64 (zE : EscV).Mode, .int .i64 (zE : EscV).U.Need, .int .i64 (zE : EscV).U.Min, .int .i64 (zE : EscV).U.Got, .slice none 0 0, .int .i64 (zE : EscV).Num, .bool (zE : EscV).Priv, .bool (zE : EscV).Skip] (0, 0) _ rfl (Box.newAt _ _ _ _ (by simp)) Try.underlying42 rfl size42) rfl ?_
        exact EscRes.of (zE : EscV) [] none 0 _ _ (IntsT.nil _) (ActsAt.nil _) ((Ext.alloc1 _ _).alloc _)
    have d7 : (b == 7) = false := by simp; omega
    have d24 : (b == 24) = false := by simp; omega
    have d26 : (b == 26) = false := by simp; omega
    by_cases d2 : b = 27
    · subst d2
      rw [show stringR s 27 = modeE 5 from rfl]
      clear d1
      go_enter Try.func25, Try.ntmps25
      go_wp2
      refine bodyPost_ret (results_cell_tmp Try.results25 _ _ (w.heap.size + 1) 42 #[.int .i64 ((modeE 5) : EscV).Mode, .int .i64 ((modeE 5) : EscV).U.Need, .int .i64 ((modeE 5) : EscV).U.Min, .int .i64 ((modeE 5) : EscV).U.Got, .slice none 0 0, .int .i64 ((modeE 5) : EscV).Num, .bool ((modeE 5) : EscV).Priv, .bool ((modeE 5) : EscV).Skip] (0, 0) _ rfl (Box.newAt _ _ _ _ (by simp)) Try.underlying42 rfl size42) rfl ?_
      exact EscRes.of ((modeE 5) : EscV) [] none 0 _ _ (IntsT.nil _) (ActsAt.nil _) ((Ext.alloc1 _ _).alloc _)
    have d27 : (b == 27) = false := by simp; omega
    rw [show stringR s b = s from by unfold stringR; rw [if_neg d1, if_neg d2]]
    clear d1 d2
    go_enter Try.func25, Try.ntmps25
    go_wp2
    refine bodyPost_ret (results_cell_tmp Try.results25 _ _ (w.heap.size + 1) 42 #[.int .i64 s.Mode, .int .i64 s.U.Need, .int .i64 s.U.Min, .int .i64 s.U.Got, .slice ap s.Par.length cp, .int .i64 s.Num, .bool s.Priv, .bool s.Skip] (0, 0) _ rfl (Box.newAt _ _ _ _ (by simp)) Try.underlying42 rfl size42) rfl ?_
    exact EscRes.of s [] _ _ _ _ (HP.out.ext ((Ext.alloc1 _ _).alloc _)) (ActsAt.nil _) ((Ext.alloc1 _ _).alloc _)
  have m3 : (s.Mode == 3) = false := by rw [hM]; simpa using c3
  by_cases c5 : M = 5
  · have m5 : (s.Mode == 5) = true := by rw [hM]; simpa using c5
    rw [show stepR s b = (endSR s b, []) from by unfold stepR; rw [hM, if_neg c0, if_neg c1, if_neg c2, if_neg c3, if_pos c5]]
    clear hM c0 c1 c2 c3 c5
    by_cases d1 : b = 92
    · subst d1
      rw [show endSR s 92 = zE from rfl]
      go_enter Try.func25, Try.ntmps25
      go_wp2
      refine bodyPost_ret (results_cell_tmp Try.results25 _ _ (w.heap.size + 1) 42 #[.int .i64 (zE : EscV).Mode, .int .i64 (zE : EscV).U.Need, .int .i64 (zE : EscV).U.Min, .int .i64 (zE : EscV).U.Got, .slice none 0 0, .int .i64 (zE : EscV).Num, .bool (zE : EscV).Priv, .bool (zE : EscV).Skip] (0, 0) _ rfl (Box.newAt _ _ _ _ (by simp)) Try.underlying42 rfl size42) rfl ?_
      exact EscRes.of (zE : EscV) [] none 0 _ _ (IntsT.nil _) (ActsAt.nil _) ((Ext.alloc1 _ _).alloc _)
    have d92 : (b == 92) = false := by simp; omega
    by_cases d2 : b = 27
    · subst d2
      rw [show endSR s 27 = s from rfl]
      clear d1
      go_enter Try.func25, Try.ntmps25
      go_wp2
      refine bodyPost_ret (results_cell_tmp Try.results25 _ _ (w.heap.size + 1) 42 #[.int .i64 s.Mode, .int .i64 s.U.Need, .int .i64 s.U.Min, .int .i64 s.U.Got, .slice ap s.Par.length cp, .int .i64 s.Num, .bool s.Priv, .bool s.Skip] (0, 0) _ rfl (Box.newAt _ _ _ _ (by simp)) Try.underlying42 rfl size42) rfl ?_
      exact EscRes.of s [] _ _ _ _ (HP.out.ext ((Ext.alloc1 _ _).alloc _)) (ActsAt.nil _) ((Ext.alloc1 _ _).alloc _)
    have d27 : (b == 27) = false := by simp; omega
    rw [show endSR s b = modeE 3 from by unfold endSR; rw [if_neg d1, if_neg d2]]
    clear d1 d2
    go_enter Try.func25, Try.ntmps25
    go_wp2
    refine bodyPost_ret (results_cell_tmp Try.results25 _ _ (w.heap.size + 1) 42 #[.int .i64 ((modeE 3) : EscV).Mode, .int .i64 ((modeE 3) : EscV).U.Need, .int .i64 ((modeE 3) : EscV).U.Min, .int .i64 ((modeE 3) : EscV).U.Got, .slice none 0 0, .int .i64 ((modeE 3) : EscV).Num, .bool ((modeE 3) : EscV).Priv, .bool ((modeE 3) : EscV).Skip] (0, 0) _ rfl (Box.newAt _ _ _ _ (by simp)) Try.underlying42 rfl size42) rfl ?_
    exact EscRes.of ((modeE 3) : EscV) [] none 0 _ _ (IntsT.nil _) (ActsAt.nil _) ((Ext.alloc1 _ _).alloc _)
  have m5 : (s.Mode == 5) = false := by rw [hM]; simpa using c5
  by_cases c4 : M = 4
  · have m4 : (s.Mode == 4) = true := by rw [hM]; simpa using c4
    rw [show stepR s b = (skipR s b, []) from by unfold stepR; rw [hM, if_neg c0, if_neg c1, if_neg c2, if_neg c3, if_neg c5, if_pos c4]]
    clear hM c0 c1 c2 c3 c4 c5
    by_cases d1 : 48 ≤ b ∧ b ≤ 126
    · rw [show skipR s b = zE from by unfold skipR; rw [if_pos (.inl d1)]]
      obtain ⟨d1a, d1b⟩ := d1
      go_enter Try.func25, Try.ntmps25
      go_wp2
      refine bodyPost_ret (results_cell_tmp Try.results25 _ _ (w.heap.size + 1) 42 #[.int .i64 (zE : EscV).Mode, .int .i64 (zE : EscV).U.Need, .int .i64 (zE : EscV).U.Min, .int .i64 (zE : EscV).U.Got, .slice none 0 0, .int .i64 (zE : EscV).Num, .bool (zE : EscV).Priv, .bool (zE : EscV).Skip] (0, 0) _ rfl (Box.newAt _ _ _ _ (by simp)) Try.underlying42 rfl size42) rfl ?_
      exact EscRes.of (zE : EscV) [] none 0 _ _ (IntsT.nil _) (ActsAt.nil _) ((Ext.alloc1 _ _).alloc _)
    by_cases d2 : b = 24 ∨ b = 26
    · rw [show skipR s b = zE from by unfold skipR; rw [if_pos (.inr d2)]]
      clear d1
      rcases d2 with rfl | rfl
      all_goals
        go_enter Try.func25, Try.ntmps25
        go_wp2
        refine bodyPost_ret (results_cell_tmp Try.results25 _ _ (w.heap.size + 1) 42 #[.int .i64 (zE : EscV).Mode, .int .i64 (zE : EscV).U.Need, .int .i64 (zE : EscV).U.Min, .int .i64 (zE : EscV).U.Got, .slice none 0 0, .int .i64 (zE : EscV).Num, .bool (zE : EscV).Priv, .bool (zE : EscV).Skip] (0, 0) _ rfl (Box.newAt _ _ _ _ (by simp)) Try.underlying42 rfl size42) rfl ?_
        exact EscRes.of (zE : EscV) [] none 0 _ _ (IntsT.nil _) (ActsAt.nil _) ((Ext.alloc1 _ _).alloc _)
    have d24 : (b == 24) = false := by simp; omega
    have d26 : (b == 26) = false := by simp; omega
    have hcase : b < 48 ∨ (48 ≤ b ∧ 126 < b) := by omega
    by_cases d3 : b = 27
    · subst d3
      rw [show skipR s 27 = modeE 1 from rfl]
      clear d1 d2 hcase
      go_enter Try.func25, Try.ntmps25
      go_wp2
      refine bodyPost_ret (results_cell_tmp Try.results25 _ _ (w.heap.size + 1) 42 #[.int .i64 ((modeE 1) : EscV).Mode, .int .i64 ((modeE 1) : EscV).U.Need, .int .i64 ((modeE 1) : EscV).U.Min, .int .i64 ((modeE 1) : EscV).U.Got, .slice none 0 0, .int .i64 ((modeE 1) : EscV).Num, .bool ((modeE 1) : EscV).Priv, .bool ((modeE 1) : EscV).Skip] (0, 0) _ rfl (Box.newAt _ _ _ _ (by simp)) Try.underlying42 rfl size42) rfl ?_
      exact EscRes.of ((modeE 1) : EscV) [] none 0 _ _ (IntsT.nil _) (ActsAt.nil _) ((Ext.alloc1 _ _).alloc _)
    have d27 : (b == 27) = false := by simp; omega
    rw [show skipR s b = s from by unfold skipR; rw [if_neg (fun h => h.elim d1 d2), if_neg d3]]
    clear d1 d2 d3
    rcases hcase with k1 | ⟨k1, k2⟩
    · have e1 : decide (48 ≤ b) = false := by simp; omega
      go_enter Try.func25, Try.ntmps25
      go_wp2
      refine bodyPost_ret (results_cell_tmp Try.results25 _ _ (w.heap.size + 1) 42 #[.int .i64 s.Mode, .int .i64 s.U.Need, .int .i64 s.U.Min, .int .i64 s.U.Got, .slice ap s.Par.length cp, .int .i64 s.Num, .bool s.Priv, .bool s.Skip] (0, 0) _ rfl (Box.newAt _ _ _ _ (by simp)) Try.underlying42 rfl size42) rfl ?_
      exact EscRes.of s [] _ _ _ _ (HP.out.ext ((Ext.alloc1 _ _).alloc _)) (ActsAt.nil _) ((Ext.alloc1 _ _).alloc _)
    · have e1 : decide (b ≤ 126) = false := by simp; omega
      go_enter Try.func25, Try.ntmps25
      go_wp2
      refine bodyPost_ret (results_cell_tmp Try.results25 _ _ (w.heap.size + 1) 42 #[.int .i64 s.Mode, .int .i64 s.U.Need, .int .i64 s.U.Min, .int .i64 s.U.Got, .slice ap s.Par.length cp, .int .i64 s.Num, .bool s.Priv, .bool s.Skip] (0, 0) _ rfl (Box.newAt _ _ _ _ (by simp)) Try.underlying42 rfl size42) rfl ?_
      exact EscRes.of s [] _ _ _ _ (HP.out.ext ((Ext.alloc1 _ _).alloc _)) (ActsAt.nil _) ((Ext.alloc1 _ _).alloc _)
  · have m4 : (s.Mode == 4) = false := by rw [hM]; simpa using c4
    rw [show stepR s b = (s, []) from by unfold stepR; rw [hM, if_neg c0, if_neg c1, if_neg c2, if_neg c3, if_neg c5, if_neg c4]]
    clear hM c0 c1 c2 c3 c4 c5
    go_enter Try.func25, Try.ntmps25
    go_wp2
    refine bodyPost_ret (results_cell_tmp Try.results25 _ _ (w.heap.size + 1) 42 #[.int .i64 s.Mode, .int .i64 s.U.Need, .int .i64 s.U.Min, .int .i64 s.U.Got, .slice ap s.Par.length cp, .int .i64 s.Num, .bool s.Priv, .bool s.Skip] (0, 0) _ rfl (Box.newAt _ _ _ _ (by simp)) Try.underlying42 rfl size42) rfl ?_
    exact EscRes.of s [] _ _ _ _ (HP.out.ext ((Ext.alloc1 _ _).alloc _)) (ActsAt.nil _) ((Ext.alloc1 _ _).alloc _)
end Go.Proofs.Ytmehkikkjebnnaa
