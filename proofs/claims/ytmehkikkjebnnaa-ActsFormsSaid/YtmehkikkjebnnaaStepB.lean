/-
  Walks: polyptychref1: escape.
-/
import Derived.Test.YtmehkikkjebnnaaStepA
set_option linter.unusedVariables false
set_option linter.unusedSimpArgs false
namespace Go.Proofs.Ytmehkikkjebnnaa
open Go.RowKit
attribute [local go_sem] max2_i min2_i max_two min_two
attribute [local go_sem ↓] Go.wp_at_zero Go.wp_at_succ

theorem size42 : (Try.prog.info? 42).map (·.size) = some 8 := by kernel_rfl
/-- What a call leaves that hands back where an escape is, and actions. -/
def EscRes (w : World) (r : EscV × List ActV) (e : Ending) (w' : World) : Prop :=
  ∃ ap cp al cl, e = .returned (.tuple #[.agg #[.int .i64 r.1.Mode, .int .i64 r.1.U.Need, .int .i64 r.1.U.Min, .int .i64 r.1.U.Got, .slice ap r.1.Par.length cp, .int .i64 r.1.Num, .bool r.1.Priv, .bool r.1.Skip], .slice al r.2.length cl]) ∧ Aside (IntsT w' (.slice ap r.1.Par.length cp) r.1.Par) ∧ Aside (ActsAt w' (.slice al r.2.length cl) r.2) ∧ Aside (Ext w w')
theorem EscRes.of {w w' : World} (s : EscV) (l : List ActV) (ap : Option Addr) (cp : Nat) (al : Option Addr) (cl : Nat) (h : IntsT w' (.slice ap s.Par.length cp) s.Par) (h2 : ActsAt w' (.slice al l.length cl) l) (he : Ext w w') :
    EscRes w (s, l) (.returned (.tuple #[.agg #[.int .i64 s.Mode, .int .i64 s.U.Need, .int .i64 s.U.Min, .int .i64 s.U.Got, .slice ap s.Par.length cp, .int .i64 s.Num, .bool s.Priv, .bool s.Skip], .slice al l.length cl])) w' := ⟨ap, cp, al, cl, rfl, ⟨h⟩, ⟨h2⟩, ⟨he⟩⟩

set_option maxRecDepth 100000 in
set_option maxHeartbeats 4000000 in
theorem qescape_any (s : EscV) (b : Int) (ap : Option Addr) (cp : Nat) (w : World) (h0 : 0 ≤ b) (h1 : b ≤ 255) (hp : IntsT w (.slice ap s.Par.length cp) s.Par) :
    Calls Try.prog 43 #[.agg #[.int .i64 s.Mode, .int .i64 s.U.Need, .int .i64 s.U.Min, .int .i64 s.U.Got, .slice ap s.Par.length cp, .int .i64 s.Num, .bool s.Priv, .bool s.Skip], .int .u8 b] w (EscRes w (escapeR s b)) := by
  have HP := Aside.mk hp
  clear hp
  have er : IntKind.i32.wrap b = b := IntWalk.i32_in _ (by omega)
  by_cases c1 : b = 91
  · subst c1
    rw [show escapeR s 91 = (⟨2, ⟨0, 0, 0⟩, [], -1, false, false⟩, []) from rfl]
    go_enter Try.func43, Try.ntmps43
    go_wp2
    refine bodyPost_ret (results_cell_tmp Try.results43 _ _ (w.heap.size + 1) 42 #[.int .i64 (⟨2, ⟨0, 0, 0⟩, [], -1, false, false⟩ : EscV).Mode, .int .i64 (⟨2, ⟨0, 0, 0⟩, [], -1, false, false⟩ : EscV).U.Need, .int .i64 (⟨2, ⟨0, 0, 0⟩, [], -1, false, false⟩ : EscV).U.Min, .int .i64 (⟨2, ⟨0, 0, 0⟩, [], -1, false, false⟩ : EscV).U.Got, .slice none 0 0, .int .i64 (⟨2, ⟨0, 0, 0⟩, [], -1, false, false⟩ : EscV).Num, .bool (⟨2, ⟨0, 0, 0⟩, [], -1, false, false⟩ : EscV).Priv, .bool (⟨2, ⟨0, 0, 0⟩, [], -1, false, false⟩ : EscV).Skip] (0, 0) _ rfl (Box.newAt _ _ _ _ (by simp)) Try.underlying42 rfl size42) rfl ?_
    exact EscRes.of (⟨2, ⟨0, 0, 0⟩, [], -1, false, false⟩ : EscV) [] none 0 _ _ (IntsT.nil _) (ActsAt.nil _) ((Ext.alloc1 _ _).alloc _)
  have d91 : (b == 91) = false := by simp; omega
  by_cases c2 : b = 93 ∨ b = 80 ∨ b = 88 ∨ b = 94 ∨ b = 95
  · rw [show escapeR s b = (modeE 3, []) from by unfold escapeR; rw [if_neg c1, if_pos c2]]
    rcases c2 with rfl | rfl | rfl | rfl | rfl
    all_goals
      go_enter Try.func43, Try.ntmps43
      go_wp2
      refine bodyPost_ret (results_cell_tmp Try.results43 _ _ (w.heap.size + 1) 42 #[.int .i64 ((modeE 3) : EscV).Mode, .int .i64 ((modeE 3) : EscV).U.Need, .int .i64 ((modeE 3) : EscV).U.Min, .int .i64 ((modeE 3) : EscV).U.Got, .slice none 0 0, .int .i64 ((modeE 3) : EscV).Num, .bool ((modeE 3) : EscV).Priv, .bool ((modeE 3) : EscV).Skip] (0, 0) _ rfl (Box.newAt _ _ _ _ (by simp)) Try.underlying42 rfl size42) rfl ?_
      exact EscRes.of ((modeE 3) : EscV) [] none 0 _ _ (IntsT.nil _) (ActsAt.nil _) ((Ext.alloc1 _ _).alloc _)
  have d93 : (b == 93) = false := by simp; omega
  have d80 : (b == 80) = false := by simp; omega
  have d88 : (b == 88) = false := by simp; omega
  have d94 : (b == 94) = false := by simp; omega
  have d95 : (b == 95) = false := by simp; omega
  by_cases c3 : b = 27
  · subst c3
    rw [show escapeR s 27 = (s, []) from rfl]
    go_enter Try.func43, Try.ntmps43
    go_wp2
    refine bodyPost_ret (results_cell_tmp Try.results43 _ _ (w.heap.size + 1) 42 #[.int .i64 s.Mode, .int .i64 s.U.Need, .int .i64 s.U.Min, .int .i64 s.U.Got, .slice ap s.Par.length cp, .int .i64 s.Num, .bool s.Priv, .bool s.Skip] (0, 0) _ rfl (Box.newAt _ _ _ _ (by simp)) Try.underlying42 rfl size42) rfl ?_
    exact EscRes.of s [] _ _ _ _ (HP.out.ext ((Ext.alloc1 _ _).alloc _)) (ActsAt.nil _) ((Ext.alloc1 _ _).alloc _)
  have d27 : (b == 27) = false := by simp; omega
  by_cases c4 : b = 24 ∨ b = 26
  · rw [show escapeR s b = (zE, []) from by unfold escapeR; rw [if_neg c1, if_neg c2, if_neg c3, if_pos c4]]
    rcases c4 with rfl | rfl
    all_goals
      go_enter Try.func43, Try.ntmps43
      go_wp2
      refine bodyPost_ret (results_cell_tmp Try.results43 _ _ (w.heap.size + 1) 42 #[.int .i64 (zE : EscV).Mode, .int .i64 (zE : EscV).U.Need, .int .i64 (zE : EscV).U.Min, .int .i64 (zE : EscV).U.Got, .slice none 0 0, .int .i64 (zE : EscV).Num, .bool (zE : EscV).Priv, .bool (zE : EscV).Skip] (0, 0) _ rfl (Box.newAt _ _ _ _ (by simp)) Try.underlying42 rfl size42) rfl ?_
      exact EscRes.of (zE : EscV) [] none 0 _ _ (IntsT.nil _) (ActsAt.nil _) ((Ext.alloc1 _ _).alloc _)
  have d24 : (b == 24) = false := by simp; omega
  have d26 : (b == 26) = false := by simp; omega
  by_cases c5 : 48 ≤ b ∧ b ≤ 126
  · rw [show escapeR s b = (zE, [⟨3, b, []⟩]) from by unfold escapeR; rw [if_neg c1, if_neg c2, if_neg c3, if_neg c4, if_pos c5]]
    clear c1 c2 c3 c4
    obtain ⟨c5a, c5b⟩ := c5
    go_enter Try.func43, Try.ntmps43
    go_wp2
    refine bodyPost_ret (results_cell_tmp Try.results43 _ _ (w.heap.size + 1) 42 #[.int .i64 (zE : EscV).Mode, .int .i64 (zE : EscV).U.Need, .int .i64 (zE : EscV).U.Min, .int .i64 (zE : EscV).U.Got, .slice none 0 0, .int .i64 (zE : EscV).Num, .bool (zE : EscV).Priv, .bool (zE : EscV).Skip] (0, 0) _ rfl ((Box.newAt _ _ _ _ (by simp)).alloc _) Try.underlying42 rfl size42) rfl ?_
    exact EscRes.of zE [⟨3, b, []⟩] none 0 _ _ (IntsT.nil _) (ActsAt.one ⟨3, b, []⟩ (Box.newAt _ _ _ _ (by simp)) (IntsT.nil _)) (((Ext.alloc1 _ _).alloc _).alloc _)
  by_cases c6 : 32 ≤ b ∧ b ≤ 47
  · rw [show escapeR s b = (modeE 4, []) from by unfold escapeR; rw [if_neg c1, if_neg c2, if_neg c3, if_neg c4, if_neg c5, if_pos c6]]
    have d5 : decide (48 ≤ b) = false := by simp; omega
    clear c1 c2 c3 c4 c5
    obtain ⟨c6a, c6b⟩ := c6
    go_enter Try.func43, Try.ntmps43
    go_wp2
    refine bodyPost_ret (results_cell_tmp Try.results43 _ _ (w.heap.size + 1) 42 #[.int .i64 ((modeE 4) : EscV).Mode, .int .i64 ((modeE 4) : EscV).U.Need, .int .i64 ((modeE 4) : EscV).U.Min, .int .i64 ((modeE 4) : EscV).U.Got, .slice none 0 0, .int .i64 ((modeE 4) : EscV).Num, .bool ((modeE 4) : EscV).Priv, .bool ((modeE 4) : EscV).Skip] (0, 0) _ rfl (Box.newAt _ _ _ _ (by simp)) Try.underlying42 rfl size42) rfl ?_
    exact EscRes.of ((modeE 4) : EscV) [] none 0 _ _ (IntsT.nil _) (ActsAt.nil _) ((Ext.alloc1 _ _).alloc _)
  by_cases c7 : b < 32
  · rw [show escapeR s b = (s, controlR b) from by unfold escapeR; rw [if_neg c1, if_neg c2, if_neg c3, if_neg c4, if_neg c5, if_neg c6, if_pos c7]]
    have d5 : decide (48 ≤ b) = false := by simp; omega
    have d6 : decide (32 ≤ b) = false := by simp; omega
    clear c1 c2 c3 c4 c5 c6
    go_enter Try.func43, Try.ntmps43
    go_wp2
    refine wp_region_till 100 (fun w' => Box w' w.heap.size 42 #[.int .i64 s.Mode, .int .i64 s.U.Need, .int .i64 s.U.Min, .int .i64 s.U.Got, .slice ap s.Par.length cp, .int .i64 s.Num, .bool s.Priv, .bool s.Skip]) (by rfl) (((Box.new _ _ _).alloc _).drew) ?_
    intro hS
    refine ⟨kept_none _ rfl, fun hKept => ?_⟩
    refine till_take (i := 0) (oi := _) (v := ?_) rfl (by kernel_rfl) (by kernel_rfl) (by kernel_rfl) (by kernel_rfl) (fun _ _ _ h => h) hKept hS (Or.inl ⟨by rfl, ?_⟩) ?_; rotate_left; (intro wS hSw; have hSc := hSw.cell; go_simp; try with_reducible rfl); intro hKept; (try simp only [List.getElem?_toArray, List.getElem?_cons_succ, List.getElem?_cons_zero, List.getElem_toArray, List.getElem_cons_succ, List.getElem_cons_zero, Act.put, List.setIfInBounds_toArray, List.set_cons_zero, List.set_cons_succ])
    refine till_take (i := 1) (oi := _) (v := ?_) rfl (by kernel_rfl) (by kernel_rfl) (by kernel_rfl) (by kernel_rfl) (fun _ _ _ h => h) hKept hS (Or.inl ⟨by rfl, ?_⟩) ?_; rotate_left; (intro wS hSw; have hSc := hSw.cell; go_simp; try with_reducible rfl); intro hKept; (try simp only [List.getElem?_toArray, List.getElem?_cons_succ, List.getElem?_cons_zero, List.getElem_toArray, List.getElem_cons_succ, List.getElem_cons_zero, Act.put, List.setIfInBounds_toArray, List.set_cons_zero, List.set_cons_succ])
    refine till_one (i := 2) (by simp only [List.getElem?_toArray, List.getElem?_cons_succ, List.getElem?_cons_zero]; rfl) (by kernel_rfl) hKept ?_; intro K hK; rw [if_pos (by rfl)]
    go_simp
    refine (qcontrol_any b _ h0 h1).mono ?_
    rintro e w1 ⟨al, cl, rfl, ha, he⟩
    have hx1 := ((Ext.refl _).drew).trans he.out
    have HX1 := Aside.mk hx1
    have HB1 := Aside.mk (((Box.new w 42 #[.int .i64 s.Mode, .int .i64 s.U.Need, .int .i64 s.U.Min, .int .i64 s.U.Got, .slice ap s.Par.length cp, .int .i64 s.Num, .bool s.Priv, .bool s.Skip]).alloc (.cells #[.int .i64 0, .int .i64 0, .int .i64 0, .int .i64 0, .slice none 0 0, .int .i64 0, .bool false, .bool false] 42)).ext hx1)
    have HZ1 := Aside.mk ((Box.newAt (w.alloc (.cells #[.int .i64 s.Mode, .int .i64 s.U.Need, .int .i64 s.U.Min, .int .i64 s.U.Got, .slice ap s.Par.length cp, .int .i64 s.Num, .bool s.Priv, .bool s.Skip] 42)) 42 #[.int .i64 0, .int .i64 0, .int .i64 0, .int .i64 0, .slice none 0 0, .int .i64 0, .bool false, .bool false] (w.heap.size + 1) (by simp)).ext hx1)
    clear hx1
    go_simp
    refine hK.out _ _ (fun _ => HB1.out) ?_; clear hS; intro hS hKept; replace hS := hS (by decide); (try simp only [List.getElem?_toArray, List.getElem?_cons_succ, List.getElem?_cons_zero, List.getElem_toArray, List.getElem_cons_succ, List.getElem_cons_zero, Act.put, List.setIfInBounds_toArray, List.set_cons_zero, List.set_cons_succ])
    refine till_one (i := 3) (by simp only [List.getElem?_toArray, List.getElem?_cons_succ, List.getElem?_cons_zero]; rfl) (by kernel_rfl) hKept ?_; intro K hK
    refine step_store_box _ rfl 42 (.tmp 4) (.tmp 65) rfl (w.heap.size + 1) #[.int .i64 s.Mode, .int .i64 s.U.Need, .int .i64 s.U.Min, .int .i64 s.U.Got, .slice ap s.Par.length cp, .int .i64 s.Num, .bool s.Priv, .bool s.Skip] (by rfl) (by rfl) 42 _ HZ1.out size42 rfl rfl ?_
    intro w2 hb2 hg2
    have HB2 := Aside.mk hb2
    have HG2 := Aside.mk hg2
    clear hb2 hg2
    go_simp
    refine hK.out _ _ (fun _ => HB1.out.grown HG2.out (by simp)) ?_; clear hS; intro hS hKept; replace hS := hS (by decide); (try simp only [List.getElem?_toArray, List.getElem?_cons_succ, List.getElem?_cons_zero, List.getElem_toArray, List.getElem_cons_succ, List.getElem_cons_zero, Act.put, List.setIfInBounds_toArray, List.set_cons_zero, List.set_cons_succ])
    refine till_take (i := 4) (oi := _) (v := ?_) rfl (by kernel_rfl) (by kernel_rfl) (by kernel_rfl) (by kernel_rfl) (fun _ _ _ h => h) hKept hS (Or.inl ⟨by rfl, ?_⟩) ?_; rotate_left; (intro wS hSw; have hSc := hSw.cell; go_simp; try with_reducible rfl); intro hKept; (try simp only [List.getElem?_toArray, List.getElem?_cons_succ, List.getElem?_cons_zero, List.getElem_toArray, List.getElem_cons_succ, List.getElem_cons_zero, Act.put, List.setIfInBounds_toArray, List.set_cons_zero, List.set_cons_succ])
    refine till_done (by kernel_rfl) ?_ _
    go_wp2
    refine bodyPost_ret (results_cell_tmp Try.results43 _ _ (w.heap.size + 1) 42 #[.int .i64 s.Mode, .int .i64 s.U.Need, .int .i64 s.U.Min, .int .i64 s.U.Got, .slice ap s.Par.length cp, .int .i64 s.Num, .bool s.Priv, .bool s.Skip] (0, 0) _ rfl HB2.out Try.underlying42 rfl size42) rfl ?_
    have hx : Ext w w2 := (((Ext.alloc1 w _).alloc _).trans HX1.out).of_grown HG2.out (by intro k hk; cases hk; omega)
    exact EscRes.of s (controlR b) _ _ _ _ (HP.out.ext hx) (ha.out.grown HG2.out HZ1.out (by decide) (by decide)) hx
  · rw [show escapeR s b = (zE, []) from by unfold escapeR; rw [if_neg c1, if_neg c2, if_neg c3, if_neg c4, if_neg c5, if_neg c6, if_neg c7]]
    have d5 : decide (b ≤ 126) = false := by simp; omega
    have d6 : decide (b ≤ 47) = false := by simp; omega
    have d7 : decide (b < 32) = false := by simp; omega
    have k5 : 48 ≤ b := by omega
    have k6 : 32 ≤ b := by omega
    clear c1 c2 c3 c4 c5 c6 c7
    go_enter Try.func43, Try.ntmps43
    go_wp2
    refine bodyPost_ret (results_cell_tmp Try.results43 _ _ (w.heap.size + 1) 42 #[.int .i64 (zE : EscV).Mode, .int .i64 (zE : EscV).U.Need, .int .i64 (zE : EscV).U.Min, .int .i64 (zE : EscV).U.Got, .slice none 0 0, .int .i64 (zE : EscV).Num, .bool (zE : EscV).Priv, .bool (zE : EscV).Skip] (0, 0) _ rfl (Box.newAt _ _ _ _ (by simp)) Try.underlying42 rfl size42) rfl ?_
    exact EscRes.of (zE : EscV) [] none 0 _ _ (IntsT.nil _) (ActsAt.nil _) ((Ext.alloc1 _ _).alloc _)
end Go.Proofs.Ytmehkikkjebnnaa
