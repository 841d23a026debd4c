/-
  Walks: polyptychref1.csi.
-/
import Derived.Test.YtmehkikkjebnnaaStepE
set_option linter.unusedVariables false
set_option linter.unusedSimpArgs false
namespace Go.Proofs.Ytmehkikkjebnnaa
open Go.RowKit
attribute [local go_sem] max2_i min2_i max_two min_two
attribute [local go_sem ↓] Go.wp_at_zero Go.wp_at_succ

set_option maxRecDepth 100000 in
set_option maxHeartbeats 4000000 in
theorem csiA_any (s : EscV) (b : Int) (ap : Option Addr) (cp : Nat) (w : World) (h0 : 0 ≤ b) (h1 : b ≤ 255) (hs : EscOk s) (hp : IntsT w (.slice ap s.Par.length cp) s.Par) (hb : b < 64) (hb2 : 28 ≤ b) :
    Calls Try.prog 44 #[.agg #[.int .i64 s.Mode, .int .i64 s.U.Need, .int .i64 s.U.Min, .int .i64 s.U.Got, .slice ap s.Par.length cp, .int .i64 s.Num, .bool s.Priv, .bool s.Skip], .int .u8 b] w (EscRes w (csiR s b)) := by
  have HP := Aside.mk hp
  clear hp
  by_cases c1 : 48 ≤ b ∧ b ≤ 57
  · obtain ⟨k1, k2⟩ := c1
    obtain ⟨M, hM⟩ : ∃ M, max s.Num 0 = M := ⟨_, rfl⟩
    rw [show csiR s b = ({ s with Num := min (10 * M + (b - 48)) 65535 }, []) from by unfold csiR; rw [if_pos ⟨k1, k2⟩, hM]]
    have hn := hs.num
    have hM0 : 0 ≤ M := by omega
    have hM1 : M ≤ 65535 := by omega
    have e1 : IntKind.u8.wrap (b - 48) = b - 48 := IntWalk.u8_in _ (by omega)
    have e2 : IntKind.i64.wrap (b - 48) = b - 48 := IntWalk.i64_in _ (by omega)
    clear hn hs
    go_enter Try.func44, Try.ntmps44
    go_wp2
    refine bodyPost_ret (results_cell_tmp Try.results44 _ _ (w.heap.size + 1) 42 #[.int .i64 ({ s with Num := min (10 * M + (b - 48)) 65535 } : EscV).Mode, .int .i64 ({ s with Num := min (10 * M + (b - 48)) 65535 } : EscV).U.Need, .int .i64 ({ s with Num := min (10 * M + (b - 48)) 65535 } : EscV).U.Min, .int .i64 ({ s with Num := min (10 * M + (b - 48)) 65535 } : EscV).U.Got, .slice ap s.Par.length cp, .int .i64 ({ s with Num := min (10 * M + (b - 48)) 65535 } : EscV).Num, .bool ({ s with Num := min (10 * M + (b - 48)) 65535 } : EscV).Priv, .bool ({ s with Num := min (10 * M + (b - 48)) 65535 } : EscV).Skip] (0, 0) _ rfl (Box.newAt _ _ _ _ (by simp)) Try.underlying42 rfl size42) rfl ?_
    exact EscRes.of ({ s with Num := min (10 * M + (b - 48)) 65535 } : EscV) [] _ _ _ _ (HP.out.ext ((Ext.alloc1 _ _).alloc _)) (ActsAt.nil _) ((Ext.alloc1 _ _).alloc _)
  by_cases c2 : b = 59
  · rw [show csiR s b = ({ s with Par := toldR s.Par s.Num, Num := -1 }, []) from by unfold csiR; rw [if_neg c1, if_pos c2]]
    subst c2
    have HB := Aside.mk ((Box.new w 42 #[.int .i64 s.Mode, .int .i64 s.U.Need, .int .i64 s.U.Min, .int .i64 s.U.Got, .slice ap s.Par.length cp, .int .i64 s.Num, .bool s.Priv, .bool s.Skip]).alloc (.cells #[.int .i64 0, .int .i64 0, .int .i64 0, .int .i64 0, .slice none 0 0, .int .i64 0, .bool false, .bool false] 42))
    have HZ := Aside.mk (Box.newAt (w.alloc (.cells #[.int .i64 s.Mode, .int .i64 s.U.Need, .int .i64 s.U.Min, .int .i64 s.U.Got, .slice ap s.Par.length cp, .int .i64 s.Num, .bool s.Priv, .bool s.Skip] 42)) 42 #[.int .i64 0, .int .i64 0, .int .i64 0, .int .i64 0, .slice none 0 0, .int .i64 0, .bool false, .bool false] (w.heap.size + 1) (by simp))
    have HW := Aside.mk ((Ext.alloc1 w (.cells #[.int .i64 s.Mode, .int .i64 s.U.Need, .int .i64 s.U.Min, .int .i64 s.U.Got, .slice ap s.Par.length cp, .int .i64 s.Num, .bool s.Priv, .bool s.Skip] 42)).alloc (.cells #[.int .i64 0, .int .i64 0, .int .i64 0, .int .i64 0, .slice none 0 0, .int .i64 0, .bool false, .bool false] 42))
    clear c1
    go_enter Try.func44, Try.ntmps44
    go_wp2_with (first
      | (go_at_call 80; refine (told_any s.Par s.Num _ _ _ (HP.out.ext HW.out)).mono ?_; rintro e w1 ⟨a1, c1, rfl, hr, he⟩; have HX1 := Aside.mk (HW.out.trans he.out); have HB1 := Aside.mk (HB.out.ext he.out); have HZ1 := Aside.mk (HZ.out.ext he.out); obtain ⟨hcB, hfB⟩ := HB1.out.rules; have hlB := HB1.out.lt; have HS2 := Aside.mk (HB1.out.set 4 (.slice a1 (toldR s.Par s.Num).length c1)); have hb3 := HS2.out.1; simp only [List.setIfInBounds_toArray, List.set_cons_zero, List.set_cons_succ] at hb3; have HB2 := Aside.mk hb3; clear hb3; have HS3 := Aside.mk (HB2.out.set 5 (.int .i64 (-1))); have HZ3 := Aside.mk ((HZ1.out.grown HS2.out.2 (by simp)).grown HS3.out.2 (by simp)))
      | (refine atStore 42 (.tmp 4) (.tmp 115) rfl ?_; refine wpList_store_box _ rfl 42 (.tmp 4) (.tmp 115) rfl (w.heap.size + 1) _ rfl rfl 42 _ HZ3.out size42 rfl rfl ?_; intro w5 hbz hgz; have HZ5 := Aside.mk hbz; have HG5 := Aside.mk hgz; clear hgz hbz))
    refine bodyPost_ret (results_cell_tmp Try.results44 _ _ (w.heap.size + 1) 42 #[.int .i64 ({ s with Par := toldR s.Par s.Num, Num := -1 } : EscV).Mode, .int .i64 ({ s with Par := toldR s.Par s.Num, Num := -1 } : EscV).U.Need, .int .i64 ({ s with Par := toldR s.Par s.Num, Num := -1 } : EscV).U.Min, .int .i64 ({ s with Par := toldR s.Par s.Num, Num := -1 } : EscV).U.Got, .slice a1 (toldR s.Par s.Num).length c1, .int .i64 ({ s with Par := toldR s.Par s.Num, Num := -1 } : EscV).Num, .bool ({ s with Par := toldR s.Par s.Num, Num := -1 } : EscV).Priv, .bool ({ s with Par := toldR s.Par s.Num, Num := -1 } : EscV).Skip] (0, 0) _ rfl HZ5.out Try.underlying42 rfl size42) rfl ?_
    have hk : ∀ k, some w.heap.size = some k → w.heap.size ≤ k := by intro k hk; cases hk; omega
    have hx : Ext w _ := ((HX1.out.of_grown HS2.out.2 hk).of_grown HS3.out.2 hk).of_grown HG5.out (by intro k hk; cases hk; omega)
    exact EscRes.of { s with Par := toldR s.Par s.Num, Num := -1 } [] _ _ _ _ (((hr.out.grown HS2.out.2 HB1.out (by decide)).grown HS3.out.2 HB2.out (by decide)).grown HG5.out HZ3.out (by decide)) (ActsAt.nil _) hx
  have d59 : (b == 59) = false := by simpa using c2
  have hcase : (28 ≤ b ∧ b < 32) ∨ (32 ≤ b ∧ b < 48) ∨ (58 ≤ b ∧ b < 63) ∨ b = 63 := by omega
  rcases hcase with ⟨k1, k2⟩ | ⟨k1, k2⟩ | ⟨k1, k2⟩ | rfl
  · rw [show csiR s b = (s, controlR b) from by unfold csiR; rw [if_neg c1, if_neg c2, if_neg (by omega), if_neg (by omega), if_neg (by omega), if_neg (by omega), if_neg (by omega), if_pos (by omega)]]
    have e1 : decide (48 ≤ b) = false := by simp; omega
    have e2 : decide (32 ≤ b) = false := by simp; omega
    have e3 : decide (64 ≤ b) = false := by simp; omega
    have d63 : (b == 63) = false := by simp; omega
    have d27 : (b == 27) = false := by simp; omega
    have d24 : (b == 24) = false := by simp; omega
    have d26 : (b == 26) = false := by simp; omega
    clear c1 c2
    go_enter Try.func44, Try.ntmps44
    go_wp2
    refine wp_region_till 100 (fun w' => Box w' w.heap.size 42 #[.int .i64 s.Mode, .int .i64 s.U.Need, .int .i64 s.U.Min, .int .i64 s.U.Got, .slice ap s.Par.length cp, .int .i64 s.Num, .bool s.Priv, .bool s.Skip]) (by rfl) (((Box.new _ _ _).alloc _).drew) ?_
    intro hS
    refine ⟨kept_none _ rfl, fun hKept => ?_⟩
    refine till_take (i := 0) (oi := _) (v := ?_) rfl (by kernel_rfl) (by kernel_rfl) (by kernel_rfl) (by kernel_rfl) (fun _ _ _ h => h) hKept hS (Or.inl ⟨by rfl, ?_⟩) ?_; rotate_left; (intro wS hSw; have hSc := hSw.cell; go_simp; try with_reducible rfl); intro hKept; (try simp only [List.getElem?_toArray, List.getElem?_cons_succ, List.getElem?_cons_zero, List.getElem_toArray, List.getElem_cons_succ, List.getElem_cons_zero, Act.put, List.setIfInBounds_toArray, List.set_cons_zero, List.set_cons_succ])
    refine till_take (i := 1) (oi := _) (v := ?_) rfl (by kernel_rfl) (by kernel_rfl) (by kernel_rfl) (by kernel_rfl) (fun _ _ _ h => h) hKept hS (Or.inl ⟨by rfl, ?_⟩) ?_; rotate_left; (intro wS hSw; have hSc := hSw.cell; go_simp; try with_reducible rfl); intro hKept; (try simp only [List.getElem?_toArray, List.getElem?_cons_succ, List.getElem?_cons_zero, List.getElem_toArray, List.getElem_cons_succ, List.getElem_cons_zero, Act.put, List.setIfInBounds_toArray, List.set_cons_zero, List.set_cons_succ])
    refine till_one (i := 2) (by simp only [List.getElem?_toArray, List.getElem?_cons_succ, List.getElem?_cons_zero]; rfl) (by kernel_rfl) hKept ?_; intro K hK; rw [if_pos (by rfl)]
    go_simp
    refine (qcontrol_any b _ h0 h1).mono ?_
    rintro e w1 ⟨al, cl, rfl, ha, he⟩
    have hx1 := ((Ext.refl _).drew).trans he.out
    have HX1 := Aside.mk hx1
    have HB1 := Aside.mk (((Box.new w 42 #[.int .i64 s.Mode, .int .i64 s.U.Need, .int .i64 s.U.Min, .int .i64 s.U.Got, .slice ap s.Par.length cp, .int .i64 s.Num, .bool s.Priv, .bool s.Skip]).alloc (.cells #[.int .i64 0, .int .i64 0, .int .i64 0, .int .i64 0, .slice none 0 0, .int .i64 0, .bool false, .bool false] 42)).ext hx1)
    have HZ1 := Aside.mk ((Box.newAt (w.alloc (.cells #[.int .i64 s.Mode, .int .i64 s.U.Need, .int .i64 s.U.Min, .int .i64 s.U.Got, .slice ap s.Par.length cp, .int .i64 s.Num, .bool s.Priv, .bool s.Skip] 42)) 42 #[.int .i64 0, .int .i64 0, .int .i64 0, .int .i64 0, .slice none 0 0, .int .i64 0, .bool false, .bool false] (w.heap.size + 1) (by simp)).ext hx1)
    clear hx1
    go_simp
    refine hK.out _ _ (fun _ => HB1.out) ?_; clear hS; intro hS hKept; replace hS := hS (by decide); (try simp only [List.getElem?_toArray, List.getElem?_cons_succ, List.getElem?_cons_zero, List.getElem_toArray, List.getElem_cons_succ, List.getElem_cons_zero, Act.put, List.setIfInBounds_toArray, List.set_cons_zero, List.set_cons_succ])
    refine till_one (i := 3) (by simp only [List.getElem?_toArray, List.getElem?_cons_succ, List.getElem?_cons_zero]; rfl) (by kernel_rfl) hKept ?_; intro K hK
    refine step_store_box _ rfl 42 (.tmp 4) (.tmp 112) rfl (w.heap.size + 1) #[.int .i64 s.Mode, .int .i64 s.U.Need, .int .i64 s.U.Min, .int .i64 s.U.Got, .slice ap s.Par.length cp, .int .i64 s.Num, .bool s.Priv, .bool s.Skip] (by rfl) (by rfl) 42 _ HZ1.out size42 rfl rfl ?_
    intro w2 hb2 hg2
    have HB2 := Aside.mk hb2
    have HG2 := Aside.mk hg2
    clear hb2 hg2
    go_simp
    refine hK.out _ _ (fun _ => HB1.out.grown HG2.out (by simp)) ?_; clear hS; intro hS hKept; replace hS := hS (by decide); (try simp only [List.getElem?_toArray, List.getElem?_cons_succ, List.getElem?_cons_zero, List.getElem_toArray, List.getElem_cons_succ, List.getElem_cons_zero, Act.put, List.setIfInBounds_toArray, List.set_cons_zero, List.set_cons_succ])
    refine till_take (i := 4) (oi := _) (v := ?_) rfl (by kernel_rfl) (by kernel_rfl) (by kernel_rfl) (by kernel_rfl) (fun _ _ _ h => h) hKept hS (Or.inl ⟨by rfl, ?_⟩) ?_; rotate_left; (intro wS hSw; have hSc := hSw.cell; go_simp; try with_reducible rfl); intro hKept; (try simp only [List.getElem?_toArray, List.getElem?_cons_succ, List.getElem?_cons_zero, List.getElem_toArray, List.getElem_cons_succ, List.getElem_cons_zero, Act.put, List.setIfInBounds_toArray, List.set_cons_zero, List.set_cons_succ])
    refine till_done (by kernel_rfl) ?_ _
    go_wp2
    refine bodyPost_ret (results_cell_tmp Try.results44 _ _ (w.heap.size + 1) 42 #[.int .i64 s.Mode, .int .i64 s.U.Need, .int .i64 s.U.Min, .int .i64 s.U.Got, .slice ap s.Par.length cp, .int .i64 s.Num, .bool s.Priv, .bool s.Skip] (0, 0) _ rfl HB2.out Try.underlying42 rfl size42) rfl ?_
    have hx : Ext w w2 := (((Ext.alloc1 w _).alloc _).trans HX1.out).of_grown HG2.out (by intro k hk; cases hk; omega)
    exact EscRes.of s (controlR b) _ _ _ _ (HP.out.ext hx) (ha.out.grown HG2.out HZ1.out (by decide) (by decide)) hx
  · rw [show csiR s b = ({ s with Skip := true }, []) from by unfold csiR; rw [if_neg c1, if_neg c2, if_neg (by omega), if_pos (by omega)]]
    have e1 : decide (48 ≤ b) = false := by simp; omega
    have e2 : b ≤ 63 := by omega
    have d63 : (b == 63) = false := by simp; omega
    clear c1 c2
    go_enter Try.func44, Try.ntmps44
    go_wp2
    refine bodyPost_ret (results_cell_tmp Try.results44 _ _ (w.heap.size + 1) 42 #[.int .i64 ({ s with Skip := true } : EscV).Mode, .int .i64 ({ s with Skip := true } : EscV).U.Need, .int .i64 ({ s with Skip := true } : EscV).U.Min, .int .i64 ({ s with Skip := true } : EscV).U.Got, .slice ap s.Par.length cp, .int .i64 ({ s with Skip := true } : EscV).Num, .bool ({ s with Skip := true } : EscV).Priv, .bool ({ s with Skip := true } : EscV).Skip] (0, 0) _ rfl (Box.newAt _ _ _ _ (by simp)) Try.underlying42 rfl size42) rfl ?_
    exact EscRes.of ({ s with Skip := true } : EscV) [] _ _ _ _ (HP.out.ext ((Ext.alloc1 _ _).alloc _)) (ActsAt.nil _) ((Ext.alloc1 _ _).alloc _)
  · rw [show csiR s b = ({ s with Skip := true }, []) from by unfold csiR; rw [if_neg c1, if_neg c2, if_neg (by omega), if_pos (by omega)]]
    have e1 : decide (b ≤ 57) = false := by simp; omega
    have e2 : b ≤ 63 := by omega
    have e4 : 48 ≤ b := by omega
    have e5 : 32 ≤ b := by omega
    have d63 : (b == 63) = false := by simp; omega
    clear c1 c2
    go_enter Try.func44, Try.ntmps44
    go_wp2
    refine bodyPost_ret (results_cell_tmp Try.results44 _ _ (w.heap.size + 1) 42 #[.int .i64 ({ s with Skip := true } : EscV).Mode, .int .i64 ({ s with Skip := true } : EscV).U.Need, .int .i64 ({ s with Skip := true } : EscV).U.Min, .int .i64 ({ s with Skip := true } : EscV).U.Got, .slice ap s.Par.length cp, .int .i64 ({ s with Skip := true } : EscV).Num, .bool ({ s with Skip := true } : EscV).Priv, .bool ({ s with Skip := true } : EscV).Skip] (0, 0) _ rfl (Box.newAt _ _ _ _ (by simp)) Try.underlying42 rfl size42) rfl ?_
    exact EscRes.of ({ s with Skip := true } : EscV) [] _ _ _ _ (HP.out.ext ((Ext.alloc1 _ _).alloc _)) (ActsAt.nil _) ((Ext.alloc1 _ _).alloc _)
  · by_cases p1 : s.Par.length = 0
    · by_cases p2 : s.Num = -1
      · by_cases p3 : s.Priv = false
        · rw [show csiR s 63 = ({ s with Priv := true }, []) from by unfold csiR; rw [if_neg (by omega), if_neg (by omega), if_pos ⟨rfl, p1, p2, p3⟩]]
          have e1 : ((s.Par.length : Int) == 0) = true := by simp [p1]
          have e2 : (s.Num == -1) = true := by simp [p2]
          have e3 : (!s.Priv) = true := by simp [p3]
          clear p1 p2 p3
          go_enter Try.func44, Try.ntmps44
          go_wp2
          refine bodyPost_ret (results_cell_tmp Try.results44 _ _ (w.heap.size + 1) 42 #[.int .i64 ({ s with Priv := true } : EscV).Mode, .int .i64 ({ s with Priv := true } : EscV).U.Need, .int .i64 ({ s with Priv := true } : EscV).U.Min, .int .i64 ({ s with Priv := true } : EscV).U.Got, .slice ap s.Par.length cp, .int .i64 ({ s with Priv := true } : EscV).Num, .bool ({ s with Priv := true } : EscV).Priv, .bool ({ s with Priv := true } : EscV).Skip] (0, 0) _ rfl (Box.newAt _ _ _ _ (by simp)) Try.underlying42 rfl size42) rfl ?_
          exact EscRes.of ({ s with Priv := true } : EscV) [] _ _ _ _ (HP.out.ext ((Ext.alloc1 _ _).alloc _)) (ActsAt.nil _) ((Ext.alloc1 _ _).alloc _)
        · rw [show csiR s 63 = ({ s with Skip := true }, []) from by unfold csiR; rw [if_neg (by omega), if_neg (by omega), if_neg (fun h => p3 h.2.2.2), if_pos (by omega)]]
          have e1 : ((s.Par.length : Int) == 0) = true := by simp [p1]
          have e2 : (s.Num == -1) = true := by simp [p2]
          have e3 : (!s.Priv) = false := by simpa using p3
          clear p1 p2 p3
          go_enter Try.func44, Try.ntmps44
          go_wp2
          refine bodyPost_ret (results_cell_tmp Try.results44 _ _ (w.heap.size + 1) 42 #[.int .i64 ({ s with Skip := true } : EscV).Mode, .int .i64 ({ s with Skip := true } : EscV).U.Need, .int .i64 ({ s with Skip := true } : EscV).U.Min, .int .i64 ({ s with Skip := true } : EscV).U.Got, .slice ap s.Par.length cp, .int .i64 ({ s with Skip := true } : EscV).Num, .bool ({ s with Skip := true } : EscV).Priv, .bool ({ s with Skip := true } : EscV).Skip] (0, 0) _ rfl (Box.newAt _ _ _ _ (by simp)) Try.underlying42 rfl size42) rfl ?_
          exact EscRes.of ({ s with Skip := true } : EscV) [] _ _ _ _ (HP.out.ext ((Ext.alloc1 _ _).alloc _)) (ActsAt.nil _) ((Ext.alloc1 _ _).alloc _)
      · rw [show csiR s 63 = ({ s with Skip := true }, []) from by unfold csiR; rw [if_neg (by omega), if_neg (by omega), if_neg (fun h => p2 h.2.2.1), if_pos (by omega)]]
        have e1 : ((s.Par.length : Int) == 0) = true := by simp [p1]
        have e2 : (s.Num == -1) = false := by simpa using p2
        clear p1 p2
        go_enter Try.func44, Try.ntmps44
        go_wp2
        refine bodyPost_ret (results_cell_tmp Try.results44 _ _ (w.heap.size + 1) 42 #[.int .i64 ({ s with Skip := true } : EscV).Mode, .int .i64 ({ s with Skip := true } : EscV).U.Need, .int .i64 ({ s with Skip := true } : EscV).U.Min, .int .i64 ({ s with Skip := true } : EscV).U.Got, .slice ap s.Par.length cp, .int .i64 ({ s with Skip := true } : EscV).Num, .bool ({ s with Skip := true } : EscV).Priv, .bool ({ s with Skip := true } : EscV).Skip] (0, 0) _ rfl (Box.newAt _ _ _ _ (by simp)) Try.underlying42 rfl size42) rfl ?_
        exact EscRes.of ({ s with Skip := true } : EscV) [] _ _ _ _ (HP.out.ext ((Ext.alloc1 _ _).alloc _)) (ActsAt.nil _) ((Ext.alloc1 _ _).alloc _)
    · rw [show csiR s 63 = ({ s with Skip := true }, []) from by unfold csiR; rw [if_neg (by omega), if_neg (by omega), if_neg (fun h => p1 h.2.1), if_pos (by omega)]]
      have e1 : ((s.Par.length : Int) == 0) = false := by simp; intro h; apply p1; rw [h]; rfl
      clear p1
      go_enter Try.func44, Try.ntmps44
      go_wp2
      refine bodyPost_ret (results_cell_tmp Try.results44 _ _ (w.heap.size + 1) 42 #[.int .i64 ({ s with Skip := true } : EscV).Mode, .int .i64 ({ s with Skip := true } : EscV).U.Need, .int .i64 ({ s with Skip := true } : EscV).U.Min, .int .i64 ({ s with Skip := true } : EscV).U.Got, .slice ap s.Par.length cp, .int .i64 ({ s with Skip := true } : EscV).Num, .bool ({ s with Skip := true } : EscV).Priv, .bool ({ s with Skip := true } : EscV).Skip] (0, 0) _ rfl (Box.newAt _ _ _ _ (by simp)) Try.underlying42 rfl size42) rfl ?_
      exact EscRes.of ({ s with Skip := true } : EscV) [] _ _ _ _ (HP.out.ext ((Ext.alloc1 _ _).alloc _)) (ActsAt.nil _) ((Ext.alloc1 _ _).alloc _)
end Go.Proofs.Ytmehkikkjebnnaa
