/-
  Walks: polyptychref1.csi.
-/
import Derived.Test.YtmehkikkjebnnaaStepG
set_option linter.unusedVariables false
set_option linter.unusedSimpArgs false
namespace Go.Proofs.Ytmehkikkjebnnaa
open Go.RowKit
attribute [local go_sem] max2_i min2_i max_two min_two
attribute [local go_sem ↓] Go.wp_at_zero Go.wp_at_succ

set_option maxRecDepth 100000 in
set_option maxHeartbeats 4000000 in
theorem csiN_any (m : Int) (u : UtfV) (p : List Int) (n : Int) (pv sk : Bool) (b : Int) (ap : Option Addr) (cp : Nat) (w : World) (k1 : 64 ≤ b) (k2 : b ≤ 126) (hp : IntsT w (.slice ap p.length cp) p) (q1 : (n != -1) = false) (q2 : decide (0 < p.length) = false) :
    Calls Try.prog 44 #[.agg #[.int .i64 (⟨m, u, p, n, pv, sk⟩ : EscV).Mode, .int .i64 (⟨m, u, p, n, pv, sk⟩ : EscV).U.Need, .int .i64 (⟨m, u, p, n, pv, sk⟩ : EscV).U.Min, .int .i64 (⟨m, u, p, n, pv, sk⟩ : EscV).U.Got, .slice ap p.length cp, .int .i64 (⟨m, u, p, n, pv, sk⟩ : EscV).Num, .bool (⟨m, u, p, n, pv, sk⟩ : EscV).Priv, .bool (⟨m, u, p, n, pv, sk⟩ : EscV).Skip], .int .u8 b] w (EscRes w (zE, if sk then [] else [⟨if pv then 5 else 4, b, p⟩])) := by
  have HP := Aside.mk hp
  have er : IntKind.i32.wrap b = b := IntWalk.i32_in _ (by omega)
  have e1 : 48 ≤ b := by omega
  have e2 : decide (b ≤ 57) = false := by simp; omega
  have e3 : 32 ≤ b := by omega
  have e4 : decide (b ≤ 63) = false := by simp; omega
  have d59 : (b == 59) = false := by simp; omega
  have d63 : (b == 63) = false := by simp; omega
  have q3 : decide ((0 : Int) < (p.length : Int)) = false := by simp at q2 ⊢; omega
  clear hp
  cases pv
  · cases sk
    · show Calls _ _ _ _ (EscRes w (zE, [⟨4, b, p⟩]))
      have HB := Aside.mk ((Box.new w 42 #[.int .i64 (⟨m, u, p, n, false, false⟩ : EscV).Mode, .int .i64 (⟨m, u, p, n, false, false⟩ : EscV).U.Need, .int .i64 (⟨m, u, p, n, false, false⟩ : EscV).U.Min, .int .i64 (⟨m, u, p, n, false, false⟩ : EscV).U.Got, .slice ap p.length cp, .int .i64 (⟨m, u, p, n, false, false⟩ : EscV).Num, .bool (⟨m, u, p, n, false, false⟩ : EscV).Priv, .bool (⟨m, u, p, n, false, false⟩ : EscV).Skip]).alloc (.cells #[.int .i64 0, .int .i64 0, .int .i64 0, .int .i64 0, .slice none 0 0, .int .i64 0, .bool false, .bool false] 42))
      have HZ := Aside.mk (Box.newAt (w.alloc (.cells #[.int .i64 (⟨m, u, p, n, false, false⟩ : EscV).Mode, .int .i64 (⟨m, u, p, n, false, false⟩ : EscV).U.Need, .int .i64 (⟨m, u, p, n, false, false⟩ : EscV).U.Min, .int .i64 (⟨m, u, p, n, false, false⟩ : EscV).U.Got, .slice ap p.length cp, .int .i64 (⟨m, u, p, n, false, false⟩ : EscV).Num, .bool (⟨m, u, p, n, false, false⟩ : EscV).Priv, .bool (⟨m, u, p, n, false, false⟩ : EscV).Skip] 42)) 42 #[.int .i64 0, .int .i64 0, .int .i64 0, .int .i64 0, .slice none 0 0, .int .i64 0, .bool false, .bool false] (w.heap.size + 1) (by simp))
      have HW := Aside.mk ((Ext.alloc1 w (.cells #[.int .i64 (⟨m, u, p, n, false, false⟩ : EscV).Mode, .int .i64 (⟨m, u, p, n, false, false⟩ : EscV).U.Need, .int .i64 (⟨m, u, p, n, false, false⟩ : EscV).U.Min, .int .i64 (⟨m, u, p, n, false, false⟩ : EscV).U.Got, .slice ap p.length cp, .int .i64 (⟨m, u, p, n, false, false⟩ : EscV).Num, .bool (⟨m, u, p, n, false, false⟩ : EscV).Priv, .bool (⟨m, u, p, n, false, false⟩ : EscV).Skip] 42)).alloc (.cells #[.int .i64 0, .int .i64 0, .int .i64 0, .int .i64 0, .slice none 0 0, .int .i64 0, .bool false, .bool false] 42))
      go_enter Try.func44, Try.ntmps44
      go_wp2_with (fail)
      have HPW := Aside.mk (HP.out.ext HW.out)
      refine wp_region_till 100 (fun w' => Box w' w.heap.size 42 #[.int .i64 (⟨m, u, p, n, false, false⟩ : EscV).Mode, .int .i64 (⟨m, u, p, n, false, false⟩ : EscV).U.Need, .int .i64 (⟨m, u, p, n, false, false⟩ : EscV).U.Min, .int .i64 (⟨m, u, p, n, false, false⟩ : EscV).U.Got, .slice ap (p).length cp, .int .i64 (⟨m, u, p, n, false, false⟩ : EscV).Num, .bool (⟨m, u, p, n, false, false⟩ : EscV).Priv, .bool (⟨m, u, p, n, false, false⟩ : EscV).Skip]) (by rfl) (HB.out.drew) ?_
      intro hS
      refine ⟨kept_none _ rfl, fun hKept => ?_⟩
      refine till_take (i := 0) (oi := _) (v := ?_) rfl (by kernel_rfl) (by kernel_rfl) (by kernel_rfl) (by kernel_rfl) (fun _ _ _ h => h) hKept hS (Or.inl ⟨by rfl, ?_⟩) ?_; rotate_left; (intro wS hSw; have hSc := hSw.cell; go_simp; try with_reducible rfl); intro hKept; (try simp only [List.getElem?_toArray, List.getElem?_cons_succ, List.getElem?_cons_zero, List.getElem_toArray, List.getElem_cons_succ, List.getElem_cons_zero, Act.put, List.setIfInBounds_toArray, List.set_cons_zero, List.set_cons_succ])
      refine till_take (i := 1) (oi := _) (v := ?_) rfl (by kernel_rfl) (by kernel_rfl) (by kernel_rfl) (by kernel_rfl) (fun _ _ _ h => h) hKept hS (Or.inl ⟨by rfl, ?_⟩) ?_; rotate_left; (intro wS hSw; have hSc := hSw.cell; go_simp; try with_reducible rfl); intro hKept; (try simp only [List.getElem?_toArray, List.getElem?_cons_succ, List.getElem?_cons_zero, List.getElem_toArray, List.getElem_cons_succ, List.getElem_cons_zero, Act.put, List.setIfInBounds_toArray, List.set_cons_zero, List.set_cons_succ])
      refine till_take (i := 2) (oi := _) (v := ?_) rfl (by kernel_rfl) (by kernel_rfl) (by kernel_rfl) (by kernel_rfl) (fun _ _ _ h => h) hKept hS (Or.inl ⟨by rfl, ?_⟩) ?_; rotate_left; (intro wS hSw; have hSc := hSw.cell; go_simp; try with_reducible rfl); intro hKept; (try simp only [List.getElem?_toArray, List.getElem?_cons_succ, List.getElem?_cons_zero, List.getElem_toArray, List.getElem_cons_succ, List.getElem_cons_zero, Act.put, List.setIfInBounds_toArray, List.set_cons_zero, List.set_cons_succ])
      refine till_take (i := 3) (oi := _) (v := ?_) rfl (by kernel_rfl) (by kernel_rfl) (by kernel_rfl) (by kernel_rfl) (fun _ _ _ h => h) hKept hS (Or.inl ⟨by rfl, ?_⟩) ?_; rotate_left; (intro wS hSw; have hSc := hSw.cell; go_simp; try with_reducible rfl); intro hKept; (try simp only [List.getElem?_toArray, List.getElem?_cons_succ, List.getElem?_cons_zero, List.getElem_toArray, List.getElem_cons_succ, List.getElem_cons_zero, Act.put, List.setIfInBounds_toArray, List.set_cons_zero, List.set_cons_succ])
      refine till_take (i := 4) (oi := _) (v := ?_) rfl (by kernel_rfl) (by kernel_rfl) (by kernel_rfl) (by kernel_rfl) (fun _ _ _ h => h) hKept hS (Or.inl ⟨by rfl, ?_⟩) ?_; rotate_left; (intro wS hSw; have hSc := hSw.cell; go_simp; try with_reducible rfl); intro hKept; (try simp only [List.getElem?_toArray, List.getElem?_cons_succ, List.getElem?_cons_zero, List.getElem_toArray, List.getElem_cons_succ, List.getElem_cons_zero, Act.put, List.setIfInBounds_toArray, List.set_cons_zero, List.set_cons_succ])
      refine till_take (i := 5) (oi := _) (v := ?_) rfl (by kernel_rfl) (by kernel_rfl) (by kernel_rfl) (by kernel_rfl) (fun _ _ _ h => h) hKept hS (Or.inl ⟨by rfl, ?_⟩) ?_; rotate_left; (intro wS hSw; have hSc := hSw.cell; go_simp; try with_reducible rfl); intro hKept; (try simp only [List.getElem?_toArray, List.getElem?_cons_succ, List.getElem?_cons_zero, List.getElem_toArray, List.getElem_cons_succ, List.getElem_cons_zero, Act.put, List.setIfInBounds_toArray, List.set_cons_zero, List.set_cons_succ])
      refine till_take (i := 6) (oi := _) (v := ?_) rfl (by kernel_rfl) (by kernel_rfl) (by kernel_rfl) (by kernel_rfl) (fun _ _ _ h => h) hKept hS (Or.inl ⟨by rfl, ?_⟩) ?_; rotate_left; (intro wS hSw; have hSc := hSw.cell; go_simp; try with_reducible rfl); intro hKept; (try simp only [List.getElem?_toArray, List.getElem?_cons_succ, List.getElem?_cons_zero, List.getElem_toArray, List.getElem_cons_succ, List.getElem_cons_zero, Act.put, List.setIfInBounds_toArray, List.set_cons_zero, List.set_cons_succ])
      refine till_two (i := 7) (j := 8) (by simp only [List.getElem?_toArray, List.getElem?_cons_succ, List.getElem?_cons_zero]; rfl) (by simp only [List.getElem?_toArray, List.getElem?_cons_succ, List.getElem?_cons_zero]; rfl) (by kernel_rfl) hKept ?_ ?_
      all_goals (intro K hK)
      · rw [if_pos (by rfl)]
        go_simp
        refine hK.out _ _ (fun _ => (HB.out.alloc _).drew) ?_; clear hS; intro hS hKept; replace hS := hS (by decide); (try simp only [List.getElem?_toArray, List.getElem?_cons_succ, List.getElem?_cons_zero, List.getElem_toArray, List.getElem_cons_succ, List.getElem_cons_zero, Act.put, List.setIfInBounds_toArray, List.set_cons_zero, List.set_cons_succ])
        refine till_one (i := 8) (by simp only [List.getElem?_toArray, List.getElem?_cons_succ, List.getElem?_cons_zero]; rfl) (by kernel_rfl) hKept ?_; intro K hK
        refine step_store_box _ rfl 42 (.tmp 4) (.tmp 89) rfl (w.heap.size + 1) #[.int .i64 (zE : EscV).Mode, .int .i64 (zE : EscV).U.Need, .int .i64 (zE : EscV).U.Min, .int .i64 (zE : EscV).U.Got, .slice none 0 0, .int .i64 (zE : EscV).Num, .bool (zE : EscV).Priv, .bool (zE : EscV).Skip] (by rfl) (by rfl) 42 _ ((HZ.out.alloc _).drew) size42 rfl rfl ?_
        intro w7 hb7 hg7
        have HB7 := Aside.mk hb7
        have HG7 := Aside.mk hg7
        clear hb7 hg7
        go_simp
        refine hK.out _ _ (fun _ => ((HB.out.alloc _).drew).grown HG7.out (by simp)) ?_; clear hS; intro hS hKept; replace hS := hS (by decide); (try simp only [List.getElem?_toArray, List.getElem?_cons_succ, List.getElem?_cons_zero, List.getElem_toArray, List.getElem_cons_succ, List.getElem_cons_zero, Act.put, List.setIfInBounds_toArray, List.set_cons_zero, List.set_cons_succ])
        refine till_take (i := 9) (oi := _) (v := ?_) rfl (by kernel_rfl) (by kernel_rfl) (by kernel_rfl) (by kernel_rfl) (fun _ _ _ h => h) hKept hS (Or.inl ⟨by rfl, ?_⟩) ?_; rotate_left; (intro wS hSw; have hSc := hSw.cell; go_simp; try with_reducible rfl); intro hKept; (try simp only [List.getElem?_toArray, List.getElem?_cons_succ, List.getElem?_cons_zero, List.getElem_toArray, List.getElem_cons_succ, List.getElem_cons_zero, Act.put, List.setIfInBounds_toArray, List.set_cons_zero, List.set_cons_succ])
        refine till_done (by kernel_rfl) ?_ _
        go_wp2
        refine bodyPost_ret (results_cell_tmp Try.results44 _ _ (w.heap.size + 1) 42 #[.int .i64 (zE : EscV).Mode, .int .i64 (zE : EscV).U.Need, .int .i64 (zE : EscV).U.Min, .int .i64 (zE : EscV).U.Got, .slice none 0 0, .int .i64 (zE : EscV).Num, .bool (zE : EscV).Priv, .bool (zE : EscV).Skip] (0, 0) _ rfl HB7.out Try.underlying42 rfl size42) rfl ?_
        have hx : Ext w w7 := ((HW.out.alloc _).drew).of_grown HG7.out (by intro k hk; cases hk; omega)
        exact EscRes.of zE [⟨4, b, p⟩] _ _ _ _ (IntsT.nil _) (ActsAt.grown (ActsAt.one ⟨4, b, p⟩ ((Box.newAt _ 35 #[.int .i64 4, .int .i32 b, .slice ap (p).length cp] _ (by simp)).drew) ((HPW.out.ext (Ext.alloc1 _ _)).ext ((Ext.refl _).drew))) HG7.out ((HZ.out.alloc _).drew) (by decide) (by decide)) hx
      · refine step_store_box _ rfl 42 (.tmp 4) (.tmp 89) rfl (w.heap.size + 1) #[.int .i64 (zE : EscV).Mode, .int .i64 (zE : EscV).U.Need, .int .i64 (zE : EscV).U.Min, .int .i64 (zE : EscV).U.Got, .slice none 0 0, .int .i64 (zE : EscV).Num, .bool (zE : EscV).Priv, .bool (zE : EscV).Skip] (by rfl) (by rfl) 42 _ (HZ.out.drew) size42 rfl rfl ?_
        intro w7 hb7 hg7
        have HB7 := Aside.mk hb7
        have HG7 := Aside.mk hg7
        clear hb7 hg7
        go_simp
        refine hK.out _ _ (fun _ => (HB.out.drew).grown HG7.out (by simp)) ?_; clear hS; intro hS hKept; replace hS := hS (by decide); (try simp only [List.getElem?_toArray, List.getElem?_cons_succ, List.getElem?_cons_zero, List.getElem_toArray, List.getElem_cons_succ, List.getElem_cons_zero, Act.put, List.setIfInBounds_toArray, List.set_cons_zero, List.set_cons_succ])
        refine till_one (i := 7) (by simp only [List.getElem?_toArray, List.getElem?_cons_succ, List.getElem?_cons_zero]; rfl) (by kernel_rfl) hKept ?_; intro K hK; rw [if_pos (by rfl)]
        go_simp
        refine hK.out _ _ (fun _ => ((HB.out.drew).grown HG7.out (by simp)).alloc _) ?_; clear hS; intro hS hKept; replace hS := hS (by decide); (try simp only [List.getElem?_toArray, List.getElem?_cons_succ, List.getElem?_cons_zero, List.getElem_toArray, List.getElem_cons_succ, List.getElem_cons_zero, Act.put, List.setIfInBounds_toArray, List.set_cons_zero, List.set_cons_succ])
        refine till_take (i := 9) (oi := _) (v := ?_) rfl (by kernel_rfl) (by kernel_rfl) (by kernel_rfl) (by kernel_rfl) (fun _ _ _ h => h) hKept hS (Or.inl ⟨by rfl, ?_⟩) ?_; rotate_left; (intro wS hSw; have hSc := hSw.cell; go_simp; try with_reducible rfl); intro hKept; (try simp only [List.getElem?_toArray, List.getElem?_cons_succ, List.getElem?_cons_zero, List.getElem_toArray, List.getElem_cons_succ, List.getElem_cons_zero, Act.put, List.setIfInBounds_toArray, List.set_cons_zero, List.set_cons_succ])
        refine till_done (by kernel_rfl) ?_ _
        go_wp2
        refine bodyPost_ret (results_cell_tmp Try.results44 _ _ (w.heap.size + 1) 42 #[.int .i64 (zE : EscV).Mode, .int .i64 (zE : EscV).U.Need, .int .i64 (zE : EscV).U.Min, .int .i64 (zE : EscV).U.Got, .slice none 0 0, .int .i64 (zE : EscV).Num, .bool (zE : EscV).Priv, .bool (zE : EscV).Skip] (0, 0) _ rfl (HB7.out.alloc _) Try.underlying42 rfl size42) rfl ?_
        have hx : Ext w w7 := (HW.out.drew).of_grown HG7.out (by intro k hk; cases hk; omega)
        exact EscRes.of zE [⟨4, b, p⟩] _ _ _ _ (IntsT.nil _) (ActsAt.one ⟨4, b, p⟩ (Box.new _ 35 #[.int .i64 4, .int .i32 b, .slice ap (p).length cp]) ((((HPW.out.ext ((Ext.refl _).drew)).grown HG7.out (HZ.out.drew) (by decide))).ext (Ext.alloc1 _ _))) (hx.alloc _)
    · show Calls _ _ _ _ (EscRes w (zE, []))
      have HB := Aside.mk ((Box.new w 42 #[.int .i64 (⟨m, u, p, n, false, true⟩ : EscV).Mode, .int .i64 (⟨m, u, p, n, false, true⟩ : EscV).U.Need, .int .i64 (⟨m, u, p, n, false, true⟩ : EscV).U.Min, .int .i64 (⟨m, u, p, n, false, true⟩ : EscV).U.Got, .slice ap p.length cp, .int .i64 (⟨m, u, p, n, false, true⟩ : EscV).Num, .bool (⟨m, u, p, n, false, true⟩ : EscV).Priv, .bool (⟨m, u, p, n, false, true⟩ : EscV).Skip]).alloc (.cells #[.int .i64 0, .int .i64 0, .int .i64 0, .int .i64 0, .slice none 0 0, .int .i64 0, .bool false, .bool false] 42))
      have HZ := Aside.mk (Box.newAt (w.alloc (.cells #[.int .i64 (⟨m, u, p, n, false, true⟩ : EscV).Mode, .int .i64 (⟨m, u, p, n, false, true⟩ : EscV).U.Need, .int .i64 (⟨m, u, p, n, false, true⟩ : EscV).U.Min, .int .i64 (⟨m, u, p, n, false, true⟩ : EscV).U.Got, .slice ap p.length cp, .int .i64 (⟨m, u, p, n, false, true⟩ : EscV).Num, .bool (⟨m, u, p, n, false, true⟩ : EscV).Priv, .bool (⟨m, u, p, n, false, true⟩ : EscV).Skip] 42)) 42 #[.int .i64 0, .int .i64 0, .int .i64 0, .int .i64 0, .slice none 0 0, .int .i64 0, .bool false, .bool false] (w.heap.size + 1) (by simp))
      have HW := Aside.mk ((Ext.alloc1 w (.cells #[.int .i64 (⟨m, u, p, n, false, true⟩ : EscV).Mode, .int .i64 (⟨m, u, p, n, false, true⟩ : EscV).U.Need, .int .i64 (⟨m, u, p, n, false, true⟩ : EscV).U.Min, .int .i64 (⟨m, u, p, n, false, true⟩ : EscV).U.Got, .slice ap p.length cp, .int .i64 (⟨m, u, p, n, false, true⟩ : EscV).Num, .bool (⟨m, u, p, n, false, true⟩ : EscV).Priv, .bool (⟨m, u, p, n, false, true⟩ : EscV).Skip] 42)).alloc (.cells #[.int .i64 0, .int .i64 0, .int .i64 0, .int .i64 0, .slice none 0 0, .int .i64 0, .bool false, .bool false] 42))
      go_enter Try.func44, Try.ntmps44
      go_wp2_with (first
        | (refine atStore 42 (.tmp 4) (.tmp 86) rfl ?_; refine wpList_store_box _ rfl 42 (.tmp 4) (.tmp 86) rfl (w.heap.size + 1) _ rfl rfl 42 _ HZ.out size42 rfl rfl ?_; intro w5 hbz hgz; have HZ5 := Aside.mk hbz; have HG5 := Aside.mk hgz; clear hgz hbz))
      refine bodyPost_ret (results_cell_tmp Try.results44 _ _ (w.heap.size + 1) 42 #[.int .i64 (zE : EscV).Mode, .int .i64 (zE : EscV).U.Need, .int .i64 (zE : EscV).U.Min, .int .i64 (zE : EscV).U.Got, .slice none 0 0, .int .i64 (zE : EscV).Num, .bool (zE : EscV).Priv, .bool (zE : EscV).Skip] (0, 0) _ rfl HZ5.out Try.underlying42 rfl size42) rfl ?_
      exact EscRes.of zE [] _ _ _ _ (IntsT.nil _) (ActsAt.nil _) (HW.out.of_grown HG5.out (by intro k hk; cases hk; omega))
  · cases sk
    · show Calls _ _ _ _ (EscRes w (zE, [⟨5, b, p⟩]))
      have HB := Aside.mk ((Box.new w 42 #[.int .i64 (⟨m, u, p, n, true, false⟩ : EscV).Mode, .int .i64 (⟨m, u, p, n, true, false⟩ : EscV).U.Need, .int .i64 (⟨m, u, p, n, true, false⟩ : EscV).U.Min, .int .i64 (⟨m, u, p, n, true, false⟩ : EscV).U.Got, .slice ap p.length cp, .int .i64 (⟨m, u, p, n, true, false⟩ : EscV).Num, .bool (⟨m, u, p, n, true, false⟩ : EscV).Priv, .bool (⟨m, u, p, n, true, false⟩ : EscV).Skip]).alloc (.cells #[.int .i64 0, .int .i64 0, .int .i64 0, .int .i64 0, .slice none 0 0, .int .i64 0, .bool false, .bool false] 42))
      have HZ := Aside.mk (Box.newAt (w.alloc (.cells #[.int .i64 (⟨m, u, p, n, true, false⟩ : EscV).Mode, .int .i64 (⟨m, u, p, n, true, false⟩ : EscV).U.Need, .int .i64 (⟨m, u, p, n, true, false⟩ : EscV).U.Min, .int .i64 (⟨m, u, p, n, true, false⟩ : EscV).U.Got, .slice ap p.length cp, .int .i64 (⟨m, u, p, n, true, false⟩ : EscV).Num, .bool (⟨m, u, p, n, true, false⟩ : EscV).Priv, .bool (⟨m, u, p, n, true, false⟩ : EscV).Skip] 42)) 42 #[.int .i64 0, .int .i64 0, .int .i64 0, .int .i64 0, .slice none 0 0, .int .i64 0, .bool false, .bool false] (w.heap.size + 1) (by simp))
      have HW := Aside.mk ((Ext.alloc1 w (.cells #[.int .i64 (⟨m, u, p, n, true, false⟩ : EscV).Mode, .int .i64 (⟨m, u, p, n, true, false⟩ : EscV).U.Need, .int .i64 (⟨m, u, p, n, true, false⟩ : EscV).U.Min, .int .i64 (⟨m, u, p, n, true, false⟩ : EscV).U.Got, .slice ap p.length cp, .int .i64 (⟨m, u, p, n, true, false⟩ : EscV).Num, .bool (⟨m, u, p, n, true, false⟩ : EscV).Priv, .bool (⟨m, u, p, n, true, false⟩ : EscV).Skip] 42)).alloc (.cells #[.int .i64 0, .int .i64 0, .int .i64 0, .int .i64 0, .slice none 0 0, .int .i64 0, .bool false, .bool false] 42))
      go_enter Try.func44, Try.ntmps44
      go_wp2_with (fail)
      have HPW := Aside.mk (HP.out.ext HW.out)
      refine wp_region_till 100 (fun w' => Box w' w.heap.size 42 #[.int .i64 (⟨m, u, p, n, true, false⟩ : EscV).Mode, .int .i64 (⟨m, u, p, n, true, false⟩ : EscV).U.Need, .int .i64 (⟨m, u, p, n, true, false⟩ : EscV).U.Min, .int .i64 (⟨m, u, p, n, true, false⟩ : EscV).U.Got, .slice ap (p).length cp, .int .i64 (⟨m, u, p, n, true, false⟩ : EscV).Num, .bool (⟨m, u, p, n, true, false⟩ : EscV).Priv, .bool (⟨m, u, p, n, true, false⟩ : EscV).Skip]) (by rfl) (HB.out.drew) ?_
      intro hS
      refine ⟨kept_none _ rfl, fun hKept => ?_⟩
      refine till_take (i := 0) (oi := _) (v := ?_) rfl (by kernel_rfl) (by kernel_rfl) (by kernel_rfl) (by kernel_rfl) (fun _ _ _ h => h) hKept hS (Or.inl ⟨by rfl, ?_⟩) ?_; rotate_left; (intro wS hSw; have hSc := hSw.cell; go_simp; try with_reducible rfl); intro hKept; (try simp only [List.getElem?_toArray, List.getElem?_cons_succ, List.getElem?_cons_zero, List.getElem_toArray, List.getElem_cons_succ, List.getElem_cons_zero, Act.put, List.setIfInBounds_toArray, List.set_cons_zero, List.set_cons_succ])
      refine till_take (i := 1) (oi := _) (v := ?_) rfl (by kernel_rfl) (by kernel_rfl) (by kernel_rfl) (by kernel_rfl) (fun _ _ _ h => h) hKept hS (Or.inl ⟨by rfl, ?_⟩) ?_; rotate_left; (intro wS hSw; have hSc := hSw.cell; go_simp; try with_reducible rfl); intro hKept; (try simp only [List.getElem?_toArray, List.getElem?_cons_succ, List.getElem?_cons_zero, List.getElem_toArray, List.getElem_cons_succ, List.getElem_cons_zero, Act.put, List.setIfInBounds_toArray, List.set_cons_zero, List.set_cons_succ])
      refine till_take (i := 2) (oi := _) (v := ?_) rfl (by kernel_rfl) (by kernel_rfl) (by kernel_rfl) (by kernel_rfl) (fun _ _ _ h => h) hKept hS (Or.inl ⟨by rfl, ?_⟩) ?_; rotate_left; (intro wS hSw; have hSc := hSw.cell; go_simp; try with_reducible rfl); intro hKept; (try simp only [List.getElem?_toArray, List.getElem?_cons_succ, List.getElem?_cons_zero, List.getElem_toArray, List.getElem_cons_succ, List.getElem_cons_zero, Act.put, List.setIfInBounds_toArray, List.set_cons_zero, List.set_cons_succ])
      refine till_take (i := 3) (oi := _) (v := ?_) rfl (by kernel_rfl) (by kernel_rfl) (by kernel_rfl) (by kernel_rfl) (fun _ _ _ h => h) hKept hS (Or.inl ⟨by rfl, ?_⟩) ?_; rotate_left; (intro wS hSw; have hSc := hSw.cell; go_simp; try with_reducible rfl); intro hKept; (try simp only [List.getElem?_toArray, List.getElem?_cons_succ, List.getElem?_cons_zero, List.getElem_toArray, List.getElem_cons_succ, List.getElem_cons_zero, Act.put, List.setIfInBounds_toArray, List.set_cons_zero, List.set_cons_succ])
      refine till_take (i := 4) (oi := _) (v := ?_) rfl (by kernel_rfl) (by kernel_rfl) (by kernel_rfl) (by kernel_rfl) (fun _ _ _ h => h) hKept hS (Or.inl ⟨by rfl, ?_⟩) ?_; rotate_left; (intro wS hSw; have hSc := hSw.cell; go_simp; try with_reducible rfl); intro hKept; (try simp only [List.getElem?_toArray, List.getElem?_cons_succ, List.getElem?_cons_zero, List.getElem_toArray, List.getElem_cons_succ, List.getElem_cons_zero, Act.put, List.setIfInBounds_toArray, List.set_cons_zero, List.set_cons_succ])
      refine till_take (i := 5) (oi := _) (v := ?_) rfl (by kernel_rfl) (by kernel_rfl) (by kernel_rfl) (by kernel_rfl) (fun _ _ _ h => h) hKept hS (Or.inl ⟨by rfl, ?_⟩) ?_; rotate_left; (intro wS hSw; have hSc := hSw.cell; go_simp; try with_reducible rfl); intro hKept; (try simp only [List.getElem?_toArray, List.getElem?_cons_succ, List.getElem?_cons_zero, List.getElem_toArray, List.getElem_cons_succ, List.getElem_cons_zero, Act.put, List.setIfInBounds_toArray, List.set_cons_zero, List.set_cons_succ])
      refine till_take (i := 6) (oi := _) (v := ?_) rfl (by kernel_rfl) (by kernel_rfl) (by kernel_rfl) (by kernel_rfl) (fun _ _ _ h => h) hKept hS (Or.inl ⟨by rfl, ?_⟩) ?_; rotate_left; (intro wS hSw; have hSc := hSw.cell; go_simp; try with_reducible rfl); intro hKept; (try simp only [List.getElem?_toArray, List.getElem?_cons_succ, List.getElem?_cons_zero, List.getElem_toArray, List.getElem_cons_succ, List.getElem_cons_zero, Act.put, List.setIfInBounds_toArray, List.set_cons_zero, List.set_cons_succ])
      refine till_two (i := 7) (j := 8) (by simp only [List.getElem?_toArray, List.getElem?_cons_succ, List.getElem?_cons_zero]; rfl) (by simp only [List.getElem?_toArray, List.getElem?_cons_succ, List.getElem?_cons_zero]; rfl) (by kernel_rfl) hKept ?_ ?_
      all_goals (intro K hK)
      · rw [if_pos (by rfl)]
        go_simp
        refine hK.out _ _ (fun _ => (HB.out.alloc _).drew) ?_; clear hS; intro hS hKept; replace hS := hS (by decide); (try simp only [List.getElem?_toArray, List.getElem?_cons_succ, List.getElem?_cons_zero, List.getElem_toArray, List.getElem_cons_succ, List.getElem_cons_zero, Act.put, List.setIfInBounds_toArray, List.set_cons_zero, List.set_cons_succ])
        refine till_one (i := 8) (by simp only [List.getElem?_toArray, List.getElem?_cons_succ, List.getElem?_cons_zero]; rfl) (by kernel_rfl) hKept ?_; intro K hK
        refine step_store_box _ rfl 42 (.tmp 4) (.tmp 89) rfl (w.heap.size + 1) #[.int .i64 (zE : EscV).Mode, .int .i64 (zE : EscV).U.Need, .int .i64 (zE : EscV).U.Min, .int .i64 (zE : EscV).U.Got, .slice none 0 0, .int .i64 (zE : EscV).Num, .bool (zE : EscV).Priv, .bool (zE : EscV).Skip] (by rfl) (by rfl) 42 _ ((HZ.out.alloc _).drew) size42 rfl rfl ?_
        intro w7 hb7 hg7
        have HB7 := Aside.mk hb7
        have HG7 := Aside.mk hg7
        clear hb7 hg7
        go_simp
        refine hK.out _ _ (fun _ => ((HB.out.alloc _).drew).grown HG7.out (by simp)) ?_; clear hS; intro hS hKept; replace hS := hS (by decide); (try simp only [List.getElem?_toArray, List.getElem?_cons_succ, List.getElem?_cons_zero, List.getElem_toArray, List.getElem_cons_succ, List.getElem_cons_zero, Act.put, List.setIfInBounds_toArray, List.set_cons_zero, List.set_cons_succ])
        refine till_take (i := 9) (oi := _) (v := ?_) rfl (by kernel_rfl) (by kernel_rfl) (by kernel_rfl) (by kernel_rfl) (fun _ _ _ h => h) hKept hS (Or.inl ⟨by rfl, ?_⟩) ?_; rotate_left; (intro wS hSw; have hSc := hSw.cell; go_simp; try with_reducible rfl); intro hKept; (try simp only [List.getElem?_toArray, List.getElem?_cons_succ, List.getElem?_cons_zero, List.getElem_toArray, List.getElem_cons_succ, List.getElem_cons_zero, Act.put, List.setIfInBounds_toArray, List.set_cons_zero, List.set_cons_succ])
        refine till_done (by kernel_rfl) ?_ _
        go_wp2
        refine bodyPost_ret (results_cell_tmp Try.results44 _ _ (w.heap.size + 1) 42 #[.int .i64 (zE : EscV).Mode, .int .i64 (zE : EscV).U.Need, .int .i64 (zE : EscV).U.Min, .int .i64 (zE : EscV).U.Got, .slice none 0 0, .int .i64 (zE : EscV).Num, .bool (zE : EscV).Priv, .bool (zE : EscV).Skip] (0, 0) _ rfl HB7.out Try.underlying42 rfl size42) rfl ?_
        have hx : Ext w w7 := ((HW.out.alloc _).drew).of_grown HG7.out (by intro k hk; cases hk; omega)
        exact EscRes.of zE [⟨5, b, p⟩] _ _ _ _ (IntsT.nil _) (ActsAt.grown (ActsAt.one ⟨5, b, p⟩ ((Box.newAt _ 35 #[.int .i64 5, .int .i32 b, .slice ap (p).length cp] _ (by simp)).drew) ((HPW.out.ext (Ext.alloc1 _ _)).ext ((Ext.refl _).drew))) HG7.out ((HZ.out.alloc _).drew) (by decide) (by decide)) hx
      · refine step_store_box _ rfl 42 (.tmp 4) (.tmp 89) rfl (w.heap.size + 1) #[.int .i64 (zE : EscV).Mode, .int .i64 (zE : EscV).U.Need, .int .i64 (zE : EscV).U.Min, .int .i64 (zE : EscV).U.Got, .slice none 0 0, .int .i64 (zE : EscV).Num, .bool (zE : EscV).Priv, .bool (zE : EscV).Skip] (by rfl) (by rfl) 42 _ (HZ.out.drew) size42 rfl rfl ?_
        intro w7 hb7 hg7
        have HB7 := Aside.mk hb7
        have HG7 := Aside.mk hg7
        clear hb7 hg7
        go_simp
        refine hK.out _ _ (fun _ => (HB.out.drew).grown HG7.out (by simp)) ?_; clear hS; intro hS hKept; replace hS := hS (by decide); (try simp only [List.getElem?_toArray, List.getElem?_cons_succ, List.getElem?_cons_zero, List.getElem_toArray, List.getElem_cons_succ, List.getElem_cons_zero, Act.put, List.setIfInBounds_toArray, List.set_cons_zero, List.set_cons_succ])
        refine till_one (i := 7) (by simp only [List.getElem?_toArray, List.getElem?_cons_succ, List.getElem?_cons_zero]; rfl) (by kernel_rfl) hKept ?_; intro K hK; rw [if_pos (by rfl)]
        go_simp
        refine hK.out _ _ (fun _ => ((HB.out.drew).grown HG7.out (by simp)).alloc _) ?_; clear hS; intro hS hKept; replace hS := hS (by decide); (try simp only [List.getElem?_toArray, List.getElem?_cons_succ, List.getElem?_cons_zero, List.getElem_toArray, List.getElem_cons_succ, List.getElem_cons_zero, Act.put, List.setIfInBounds_toArray, List.set_cons_zero, List.set_cons_succ])
        refine till_take (i := 9) (oi := _) (v := ?_) rfl (by kernel_rfl) (by kernel_rfl) (by kernel_rfl) (by kernel_rfl) (fun _ _ _ h => h) hKept hS (Or.inl ⟨by rfl, ?_⟩) ?_; rotate_left; (intro wS hSw; have hSc := hSw.cell; go_simp; try with_reducible rfl); intro hKept; (try simp only [List.getElem?_toArray, List.getElem?_cons_succ, List.getElem?_cons_zero, List.getElem_toArray, List.getElem_cons_succ, List.getElem_cons_zero, Act.put, List.setIfInBounds_toArray, List.set_cons_zero, List.set_cons_succ])
        refine till_done (by kernel_rfl) ?_ _
        go_wp2
        refine bodyPost_ret (results_cell_tmp Try.results44 _ _ (w.heap.size + 1) 42 #[.int .i64 (zE : EscV).Mode, .int .i64 (zE : EscV).U.Need, .int .i64 (zE : EscV).U.Min, .int .i64 (zE : EscV).U.Got, .slice none 0 0, .int .i64 (zE : EscV).Num, .bool (zE : EscV).Priv, .bool (zE : EscV).Skip] (0, 0) _ rfl (HB7.out.alloc _) Try.underlying42 rfl size42) rfl ?_
        have hx : Ext w w7 := (HW.out.drew).of_grown HG7.out (by intro k hk; cases hk; omega)
        exact EscRes.of zE [⟨5, b, p⟩] _ _ _ _ (IntsT.nil _) (ActsAt.one ⟨5, b, p⟩ (Box.new _ 35 #[.int .i64 5, .int .i32 b, .slice ap (p).length cp]) ((((HPW.out.ext ((Ext.refl _).drew)).grown HG7.out (HZ.out.drew) (by decide))).ext (Ext.alloc1 _ _))) (hx.alloc _)
    · show Calls _ _ _ _ (EscRes w (zE, []))
      have HB := Aside.mk ((Box.new w 42 #[.int .i64 (⟨m, u, p, n, true, true⟩ : EscV).Mode, .int .i64 (⟨m, u, p, n, true, true⟩ : EscV).U.Need, .int .i64 (⟨m, u, p, n, true, true⟩ : EscV).U.Min, .int .i64 (⟨m, u, p, n, true, true⟩ : EscV).U.Got, .slice ap p.length cp, .int .i64 (⟨m, u, p, n, true, true⟩ : EscV).Num, .bool (⟨m, u, p, n, true, true⟩ : EscV).Priv, .bool (⟨m, u, p, n, true, true⟩ : EscV).Skip]).alloc (.cells #[.int .i64 0, .int .i64 0, .int .i64 0, .int .i64 0, .slice none 0 0, .int .i64 0, .bool false, .bool false] 42))
      have HZ := Aside.mk (Box.newAt (w.alloc (.cells #[.int .i64 (⟨m, u, p, n, true, true⟩ : EscV).Mode, .int .i64 (⟨m, u, p, n, true, true⟩ : EscV).U.Need, .int .i64 (⟨m, u, p, n, true, true⟩ : EscV).U.Min, .int .i64 (⟨m, u, p, n, true, true⟩ : EscV).U.Got, .slice ap p.length cp, .int .i64 (⟨m, u, p, n, true, true⟩ : EscV).Num, .bool (⟨m, u, p, n, true, true⟩ : EscV).Priv, .bool (⟨m, u, p, n, true, true⟩ : EscV).Skip] 42)) 42 #[.int .i64 0, .int .i64 0, .int .i64 0, .int .i64 0, .slice none 0 0, .int .i64 0, .bool false, .bool false] (w.heap.size + 1) (by simp))
      have HW := Aside.mk ((Ext.alloc1 w (.cells #[.int .i64 (⟨m, u, p, n, true, true⟩ : EscV).Mode, .int .i64 (⟨m, u, p, n, true, true⟩ : EscV).U.Need, .int .i64 (⟨m, u, p, n, true, true⟩ : EscV).U.Min, .int .i64 (⟨m, u, p, n, true, true⟩ : EscV).U.Got, .slice ap p.length cp, .int .i64 (⟨m, u, p, n, true, true⟩ : EscV).Num, .bool (⟨m, u, p, n, true, true⟩ : EscV).Priv, .bool (⟨m, u, p, n, true, true⟩ : EscV).Skip] 42)).alloc (.cells #[.int .i64 0, .int .i64 0, .int .i64 0, .int .i64 0, .slice none 0 0, .int .i64 0, .bool false, .bool false] 42))
      go_enter Try.func44, Try.ntmps44
      go_wp2_with (first
        | (refine atStore 42 (.tmp 4) (.tmp 86) rfl ?_; refine wpList_store_box _ rfl 42 (.tmp 4) (.tmp 86) rfl (w.heap.size + 1) _ rfl rfl 42 _ HZ.out size42 rfl rfl ?_; intro w5 hbz hgz; have HZ5 := Aside.mk hbz; have HG5 := Aside.mk hgz; clear hgz hbz))
      refine bodyPost_ret (results_cell_tmp Try.results44 _ _ (w.heap.size + 1) 42 #[.int .i64 (zE : EscV).Mode, .int .i64 (zE : EscV).U.Need, .int .i64 (zE : EscV).U.Min, .int .i64 (zE : EscV).U.Got, .slice none 0 0, .int .i64 (zE : EscV).Num, .bool (zE : EscV).Priv, .bool (zE : EscV).Skip] (0, 0) _ rfl HZ5.out Try.underlying42 rfl size42) rfl ?_
      exact EscRes.of zE [] _ _ _ _ (IntsT.nil _) (ActsAt.nil _) (HW.out.of_grown HG5.out (by intro k hk; cases hk; omega))

set_option maxRecDepth 100000 in
set_option maxHeartbeats 4000000 in
theorem csi_any (s : EscV) (b : Int) (ap : Option Addr) (cp : Nat) (w : World) (h0 : 0 ≤ b) (h1 : b ≤ 255) (hs : EscOk s) (hp : IntsT w (.slice ap s.Par.length cp) s.Par) :
    Calls Try.prog 44 #[.agg #[.int .i64 s.Mode, .int .i64 s.U.Need, .int .i64 s.U.Min, .int .i64 s.U.Got, .slice ap s.Par.length cp, .int .i64 s.Num, .bool s.Priv, .bool s.Skip], .int .u8 b] w (EscRes w (csiR s b)) := by
  by_cases c1 : 28 ≤ b ∧ b < 64
  · exact csiA_any s b ap cp w h0 h1 hs hp c1.2 c1.1
  by_cases c2 : 64 ≤ b ∧ b ≤ 126
  · obtain ⟨m, u, p, n, pv, sk⟩ := s
    have hr : csiR ⟨m, u, p, n, pv, sk⟩ b = (zE, if sk then [] else [⟨if pv then 5 else 4, b, finR ⟨m, u, p, n, pv, sk⟩⟩]) := by
      unfold csiR
      rw [if_neg (by omega), if_neg (by omega), if_neg (by omega), if_neg (by omega), if_pos c2]
    rw [hr]
    by_cases q1 : n = -1
    · by_cases q2 : 0 < p.length
      · rw [show finR ⟨m, u, p, n, pv, sk⟩ = toldR p n from by unfold finR; rw [if_pos (.inr q2)]]
        exact csiT_any m u p n pv sk b ap cp w c2.1 c2.2 hp (.inr ⟨by simpa using q1, q2⟩)
      · rw [show finR ⟨m, u, p, n, pv, sk⟩ = p from by unfold finR; rw [if_neg (by simp only; omega)]]
        exact csiN_any m u p n pv sk b ap cp w c2.1 c2.2 hp (by simpa using q1) (by simpa using q2)
    · rw [show finR ⟨m, u, p, n, pv, sk⟩ = toldR p n from by unfold finR; rw [if_pos (.inl q1)]]
      exact csiT_any m u p n pv sk b ap cp w c2.1 c2.2 hp (.inl (by simpa using q1))
  have HP := Aside.mk hp
  clear hp
  by_cases c3 : 126 < b
  · rw [show csiR s b = (s, []) from by unfold csiR; rw [if_neg (by omega), if_neg (by omega), if_neg (by omega), if_neg (by omega), if_neg (by omega), if_neg (by omega), if_neg (by omega), if_neg (by omega)]]
    have e1 : 48 ≤ b := by omega
    have e2 : decide (b ≤ 57) = false := by simp; omega
    have e3 : 32 ≤ b := by omega
    have e4 : decide (b ≤ 63) = false := by simp; omega
    have e5 : 64 ≤ b := by omega
    have e6 : decide (b ≤ 126) = false := by simp; omega
    have e7 : decide (b < 32) = false := by simp; omega
    have d59 : (b == 59) = false := by simp; omega
    have d63 : (b == 63) = false := by simp; omega
    have d27 : (b == 27) = false := by simp; omega
    have d24 : (b == 24) = false := by simp; omega
    have d26 : (b == 26) = false := by simp; omega
    clear c1 c2
    go_enter Try.func44, Try.ntmps44
    go_wp2
    refine bodyPost_ret (results_cell_tmp Try.results44 _ _ (w.heap.size + 1) 42 #[.int .i64 s.Mode, .int .i64 s.U.Need, .int .i64 s.U.Min, .int .i64 s.U.Got, .slice ap s.Par.length cp, .int .i64 s.Num, .bool s.Priv, .bool s.Skip] (0, 0) _ rfl (Box.newAt _ _ _ _ (by simp)) Try.underlying42 rfl size42) rfl ?_
    exact EscRes.of s [] _ _ _ _ (HP.out.ext ((Ext.alloc1 _ _).alloc _)) (ActsAt.nil _) ((Ext.alloc1 _ _).alloc _)
  · have e1 : decide (48 ≤ b) = false := by simp; omega
    have e2 : decide (32 ≤ b) = false := by simp; omega
    have e3 : decide (64 ≤ b) = false := by simp; omega
    have e4 : b < 32 := by omega
    have d59 : (b == 59) = false := by simp; omega
    have d63 : (b == 63) = false := by simp; omega
    by_cases c4 : b = 27
    · subst c4
      rw [show csiR s 27 = (modeE 1, []) from rfl]
      clear c1 c2 c3
      go_enter Try.func44, Try.ntmps44
      go_wp2
      refine bodyPost_ret (results_cell_tmp Try.results44 _ _ (w.heap.size + 1) 42 #[.int .i64 ((modeE 1) : EscV).Mode, .int .i64 ((modeE 1) : EscV).U.Need, .int .i64 ((modeE 1) : EscV).U.Min, .int .i64 ((modeE 1) : EscV).U.Got, .slice none 0 0, .int .i64 ((modeE 1) : EscV).Num, .bool ((modeE 1) : EscV).Priv, .bool ((modeE 1) : EscV).Skip] (0, 0) _ rfl (Box.newAt _ _ _ _ (by simp)) Try.underlying42 rfl size42) rfl ?_
      exact EscRes.of ((modeE 1) : EscV) [] none 0 _ _ (IntsT.nil _) (ActsAt.nil _) ((Ext.alloc1 _ _).alloc _)
    have d27 : (b == 27) = false := by simp; omega
    by_cases c5 : b = 24 ∨ b = 26
    · rw [show csiR s b = (zE, []) from by unfold csiR; rw [if_neg (by omega), if_neg (by omega), if_neg (by omega), if_neg (by omega), if_neg (by omega), if_neg c4, if_pos c5]]
      clear c1 c2 c3
      rcases c5 with rfl | rfl
      all_goals
        go_enter Try.func44, Try.ntmps44
        go_wp2
        refine bodyPost_ret (results_cell_tmp Try.results44 _ _ (w.heap.size + 1) 42 #[.int .i64 (zE : EscV).Mode, .int .i64 (zE : EscV).U.Need, .int .i64 (zE : EscV).U.Min, .int .i64 (zE : EscV).U.Got, .slice none 0 0, .int .i64 (zE : EscV).Num, .bool (zE : EscV).Priv, .bool (zE : EscV).Skip] (0, 0) _ rfl (Box.newAt _ _ _ _ (by simp)) Try.underlying42 rfl size42) rfl ?_
        exact EscRes.of (zE : EscV) [] none 0 _ _ (IntsT.nil _) (ActsAt.nil _) ((Ext.alloc1 _ _).alloc _)
    have d24 : (b == 24) = false := by simp; omega
    have d26 : (b == 26) = false := by simp; omega
    rw [show csiR s b = (s, controlR b) from by unfold csiR; rw [if_neg (by omega), if_neg (by omega), if_neg (by omega), if_neg (by omega), if_neg (by omega), if_neg c4, if_neg c5, if_pos (by omega)]]
    clear c1 c2 c3 c4 c5
    go_enter Try.func44, Try.ntmps44
    go_wp2
    refine wp_region_till 100 (fun w' => Box w' w.heap.size 42 #[.int .i64 s.Mode, .int .i64 s.U.Need, .int .i64 s.U.Min, .int .i64 s.U.Got, .slice ap s.Par.length cp, .int .i64 s.Num, .bool s.Priv, .bool s.Skip]) (by rfl) (((Box.new _ _ _).alloc _).drew) ?_
    intro hS
    refine ⟨kept_none _ rfl, fun hKept => ?_⟩
    refine till_take (i := 0) (oi := _) (v := ?_) rfl (by kernel_rfl) (by kernel_rfl) (by kernel_rfl) (by kernel_rfl) (fun _ _ _ h => h) hKept hS (Or.inl ⟨by rfl, ?_⟩) ?_; rotate_left; (intro wS hSw; have hSc := hSw.cell; go_simp; try with_reducible rfl); intro hKept; (try simp only [List.getElem?_toArray, List.getElem?_cons_succ, List.getElem?_cons_zero, List.getElem_toArray, List.getElem_cons_succ, List.getElem_cons_zero, Act.put, List.setIfInBounds_toArray, List.set_cons_zero, List.set_cons_succ])
    refine till_take (i := 1) (oi := _) (v := ?_) rfl (by kernel_rfl) (by kernel_rfl) (by kernel_rfl) (by kernel_rfl) (fun _ _ _ h => h) hKept hS (Or.inl ⟨by rfl, ?_⟩) ?_; rotate_left; (intro wS hSw; have hSc := hSw.cell; go_simp; try with_reducible rfl); intro hKept; (try simp only [List.getElem?_toArray, List.getElem?_cons_succ, List.getElem?_cons_zero, List.getElem_toArray, List.getElem_cons_succ, List.getElem_cons_zero, Act.put, List.setIfInBounds_toArray, List.set_cons_zero, List.set_cons_succ])
    refine till_one (i := 2) (by simp only [List.getElem?_toArray, List.getElem?_cons_succ, List.getElem?_cons_zero]; rfl) (by kernel_rfl) hKept ?_; intro K hK; rw [if_pos (by rfl)]
    go_simp
    refine (qcontrol_any b _ h0 h1).mono ?_
    rintro e w1 ⟨al, cl, rfl, ha, he⟩
    have hx1 := ((Ext.refl _).drew).trans he.out
    have HX1 := Aside.mk hx1
    have HB1 := Aside.mk (((Box.new w 42 #[.int .i64 s.Mode, .int .i64 s.U.Need, .int .i64 s.U.Min, .int .i64 s.U.Got, .slice ap s.Par.length cp, .int .i64 s.Num, .bool s.Priv, .bool s.Skip]).alloc (.cells #[.int .i64 0, .int .i64 0, .int .i64 0, .int .i64 0, .slice none 0 0, .int .i64 0, .bool false, .bool false] 42)).ext hx1)
    have HZ1 := Aside.mk ((Box.newAt (w.alloc (.cells #[.int .i64 s.Mode, .int .i64 s.U.Need, .int .i64 s.U.Min, .int .i64 s.U.Got, .slice ap s.Par.length cp, .int .i64 s.Num, .bool s.Priv, .bool s.Skip] 42)) 42 #[.int .i64 0, .int .i64 0, .int .i64 0, .int .i64 0, .slice none 0 0, .int .i64 0, .bool false, .bool false] (w.heap.size + 1) (by simp)).ext hx1)
    clear hx1
    go_simp
    refine hK.out _ _ (fun _ => HB1.out) ?_; clear hS; intro hS hKept; replace hS := hS (by decide); (try simp only [List.getElem?_toArray, List.getElem?_cons_succ, List.getElem?_cons_zero, List.getElem_toArray, List.getElem_cons_succ, List.getElem_cons_zero, Act.put, List.setIfInBounds_toArray, List.set_cons_zero, List.set_cons_succ])
    refine till_one (i := 3) (by simp only [List.getElem?_toArray, List.getElem?_cons_succ, List.getElem?_cons_zero]; rfl) (by kernel_rfl) hKept ?_; intro K hK
    refine step_store_box _ rfl 42 (.tmp 4) (.tmp 112) rfl (w.heap.size + 1) #[.int .i64 s.Mode, .int .i64 s.U.Need, .int .i64 s.U.Min, .int .i64 s.U.Got, .slice ap s.Par.length cp, .int .i64 s.Num, .bool s.Priv, .bool s.Skip] (by rfl) (by rfl) 42 _ HZ1.out size42 rfl rfl ?_
    intro w2 hb2 hg2
    have HB2 := Aside.mk hb2
    have HG2 := Aside.mk hg2
    clear hb2 hg2
    go_simp
    refine hK.out _ _ (fun _ => HB1.out.grown HG2.out (by simp)) ?_; clear hS; intro hS hKept; replace hS := hS (by decide); (try simp only [List.getElem?_toArray, List.getElem?_cons_succ, List.getElem?_cons_zero, List.getElem_toArray, List.getElem_cons_succ, List.getElem_cons_zero, Act.put, List.setIfInBounds_toArray, List.set_cons_zero, List.set_cons_succ])
    refine till_take (i := 4) (oi := _) (v := ?_) rfl (by kernel_rfl) (by kernel_rfl) (by kernel_rfl) (by kernel_rfl) (fun _ _ _ h => h) hKept hS (Or.inl ⟨by rfl, ?_⟩) ?_; rotate_left; (intro wS hSw; have hSc := hSw.cell; go_simp; try with_reducible rfl); intro hKept; (try simp only [List.getElem?_toArray, List.getElem?_cons_succ, List.getElem?_cons_zero, List.getElem_toArray, List.getElem_cons_succ, List.getElem_cons_zero, Act.put, List.setIfInBounds_toArray, List.set_cons_zero, List.set_cons_succ])
    refine till_done (by kernel_rfl) ?_ _
    go_wp2
    refine bodyPost_ret (results_cell_tmp Try.results44 _ _ (w.heap.size + 1) 42 #[.int .i64 s.Mode, .int .i64 s.U.Need, .int .i64 s.U.Min, .int .i64 s.U.Got, .slice ap s.Par.length cp, .int .i64 s.Num, .bool s.Priv, .bool s.Skip] (0, 0) _ rfl HB2.out Try.underlying42 rfl size42) rfl ?_
    have hx : Ext w w2 := (((Ext.alloc1 w _).alloc _).trans HX1.out).of_grown HG2.out (by intro k hk; cases hk; omega)
    exact EscRes.of s (controlR b) _ _ _ _ (HP.out.ext hx) (ha.out.grown HG2.out HZ1.out (by decide) (by decide)) hx
end Go.Proofs.Ytmehkikkjebnnaa
