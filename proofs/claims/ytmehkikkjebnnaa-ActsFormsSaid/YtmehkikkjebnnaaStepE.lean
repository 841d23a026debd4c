/-
  Walks: polyptychref1.ground.
-/
import Derived.Test.YtmehkikkjebnnaaStepD
set_option linter.unusedVariables false
set_option linter.unusedSimpArgs false
namespace Go.Proofs.Ytmehkikkjebnnaa
open Go.RowKit
attribute [local go_sem] max2_i min2_i max_two min_two
attribute [local go_sem ↓] Go.wp_at_zero Go.wp_at_succ

theorem Box.set3 {w : World} {b : Nat} {t : TypeId} {cs : Array Value} (h : Box w b t cs) (i j k : Nat) (u v x : Value) :
    Box (((w.setCell ⟨b, i, none⟩ u).setCell ⟨b, j, none⟩ v).setCell ⟨b, k, none⟩ x) b t (((cs.setIfInBounds i u).setIfInBounds j v).setIfInBounds k x) ∧ w.grownBy (((w.setCell ⟨b, i, none⟩ u).setCell ⟨b, j, none⟩ v).setCell ⟨b, k, none⟩ x) (some b) := by
  have h1 := h.set i u
  have h2 := h1.1.set j v
  have h3 := h2.1.set k x
  exact ⟨h3.1, ⟨rfl, rfl, rfl, by have := h1.2.size; have := h2.2.size; have := h3.2.size; omega, fun k hk hne => by rw [h3.2.block k (by have := h1.2.size; have := h2.2.size; omega) hne, h2.2.block k (by have := h1.2.size; omega) hne, h1.2.block k hk hne]⟩⟩

/-- What reads stays where memory of another element type, owned, is written. -/
theorem HoldsT.grownO {w w' : World} {e t : TypeId} {sz n m base : Nat} {v u : Value} {xs ys : List Value} {sz' : Nat} (h : HoldsT w e sz v n xs) (hg : w.grownBy w' u.ownBlock) (ho : w.ownsRow base t sz' u m ys) (hne : t ≠ e) : HoldsT w' e sz v n xs := by
  rcases ho.2 with ⟨rfl, _⟩ | ⟨g, cap, cur, rfl, _, hh, _⟩
  · exact h.ext ⟨hg.os, hg.tape, hg.output, hg.size, fun i hi => hg.block i hi (by simp [Value.ownBlock])⟩
  · exact h.grown (b := g) (t := t) (cs := cur) hg hh hne

set_option maxRecDepth 100000 in
set_option maxHeartbeats 4000000 in
theorem ground_any (s : EscV) (b : Int) (ap : Option Addr) (cp : Nat) (w : World) (h0 : 0 ≤ b) (h1 : b ≤ 255) (hs : EscOk s) (hp : IntsT w (.slice ap s.Par.length cp) s.Par) :
    Calls Try.prog 42 #[.agg #[.int .i64 s.Mode, .int .i64 s.U.Need, .int .i64 s.U.Min, .int .i64 s.U.Got, .slice ap s.Par.length cp, .int .i64 s.Num, .bool s.Priv, .bool s.Skip], .int .u8 b] w (EscRes w (groundR s b)) := by
  have HP := Aside.mk hp
  clear hp
  have HB := Aside.mk ((Box.new w 42 #[.int .i64 s.Mode, .int .i64 s.U.Need, .int .i64 s.U.Min, .int .i64 s.U.Got, .slice ap s.Par.length cp, .int .i64 s.Num, .bool s.Priv, .bool s.Skip]).alloc (.cells #[.int .i64 0, .int .i64 0, .int .i64 0, .int .i64 0, .slice none 0 0, .int .i64 0, .bool false, .bool false] 42))
  have HZ := Aside.mk (Box.newAt (w.alloc (.cells #[.int .i64 s.Mode, .int .i64 s.U.Need, .int .i64 s.U.Min, .int .i64 s.U.Got, .slice ap s.Par.length cp, .int .i64 s.Num, .bool s.Priv, .bool s.Skip] 42)) 42 #[.int .i64 0, .int .i64 0, .int .i64 0, .int .i64 0, .slice none 0 0, .int .i64 0, .bool false, .bool false] (w.heap.size + 1) (by simp))
  have HW := Aside.mk ((Ext.alloc1 w (.cells #[.int .i64 s.Mode, .int .i64 s.U.Need, .int .i64 s.U.Min, .int .i64 s.U.Got, .slice ap s.Par.length cp, .int .i64 s.Num, .bool s.Priv, .bool s.Skip] 42)).alloc (.cells #[.int .i64 0, .int .i64 0, .int .i64 0, .int .i64 0, .slice none 0 0, .int .i64 0, .bool false, .bool false] 42))
  by_cases c1 : b > 31 ∧ b ≠ 127
  · obtain ⟨⟨u, l⟩, hul⟩ : ∃ r : UtfV × List Int, utfR s.U b = r := ⟨_, rfl⟩
    rw [show groundR s b = ({ s with U := u }, printsR l) from by unfold groundR; rw [if_pos c1, hul]]
    have k1 : 31 < b := c1.1
    have k2 : (b != 127) = true := by simpa using c1.2
    have hll := Aside.mk (utfR_length s.U b)
    have hU := fun w => Utf_any s.U b w h0 h1 hs.u
    rw [hul] at hll
    simp only [hul] at hU
    have HU := Aside.mk hU
    clear c1 hul hU
    go_enter Try.func42, Try.ntmps42
    go_wp2_with (go_at_call 76; refine (HU.out _).mono ?_; rintro e w1 ⟨a1, c1, rfl, hr, he⟩; have HB1 := Aside.mk (HB.out.ext he.out); have HZ1 := Aside.mk (HZ.out.ext he.out); obtain ⟨hcB, hfB⟩ := HB1.out.rules; have hlB := HB1.out.lt)
    have HR1 := Aside.mk hr.out
    have HX1 := Aside.mk (HW.out.trans he.out)
    clear hcB hfB hlB hr he
    have HS := Aside.mk (HB1.out.set3 1 2 3 (.int .i64 u.Need) (.int .i64 u.Min) (.int .i64 u.Got))
    have HB2 := HS.out.1
    simp only [List.setIfInBounds_toArray, List.set_cons_zero, List.set_cons_succ] at HB2
    replace HB2 := Aside.mk HB2
    have HR2 : Aside (RunesAt _ (.slice a1 l.length c1) l) := ⟨HoldsT.grown HR1.out HS.out.2 HB1.out (by decide)⟩
    have HZ2 := Aside.mk (HZ1.out.grown HS.out.2 (by simp))
    have HX2 : Aside (Ext w _) := ⟨HX1.out.of_grown HS.out.2 (by intro k hk; cases hk; omega)⟩
    refine wp_region_till 100 (fun w' => Box w' w.heap.size 42 #[.int .i64 ({ s with U := u } : EscV).Mode, .int .i64 ({ s with U := u } : EscV).U.Need, .int .i64 ({ s with U := u } : EscV).U.Min, .int .i64 ({ s with U := u } : EscV).U.Got, .slice ap s.Par.length cp, .int .i64 ({ s with U := u } : EscV).Num, .bool ({ s with U := u } : EscV).Priv, .bool ({ s with U := u } : EscV).Skip]) (by rfl) ((HB2.out.alloc _).drew) ?_
    intro hS
    refine ⟨kept_none _ rfl, fun hKept => ?_⟩
    refine till_take (i := 0) (oi := _) (v := ?_) rfl (by kernel_rfl) (by kernel_rfl) (by kernel_rfl) (by kernel_rfl) (fun _ _ _ h => h) hKept hS (Or.inl ⟨by rfl, ?_⟩) ?_; rotate_left; (intro wS hSw; have hSc := hSw.cell; go_simp; try with_reducible rfl); intro hKept; (try simp only [List.getElem?_toArray, List.getElem?_cons_succ, List.getElem?_cons_zero, List.getElem_toArray, List.getElem_cons_succ, List.getElem_cons_zero, Act.put, List.setIfInBounds_toArray, List.set_cons_zero, List.set_cons_succ])
    refine till_take (i := 1) (oi := _) (v := ?_) rfl (by kernel_rfl) (by kernel_rfl) (by kernel_rfl) (by kernel_rfl) (fun _ _ _ h => h) hKept hS (Or.inl ⟨by rfl, ?_⟩) ?_; rotate_left; (intro wS hSw; have hSc := hSw.cell; go_simp; try with_reducible rfl); intro hKept; (try simp only [List.getElem?_toArray, List.getElem?_cons_succ, List.getElem?_cons_zero, List.getElem_toArray, List.getElem_cons_succ, List.getElem_cons_zero, Act.put, List.setIfInBounds_toArray, List.set_cons_zero, List.set_cons_succ])
    refine till_one (i := 2) (by simp only [List.getElem?_toArray, List.getElem?_cons_succ, List.getElem?_cons_zero]; rfl) (by kernel_rfl) hKept ?_; intro K hK; rw [if_pos (by rfl)]
    go_simp
    refine (prints_any l _ _ _ ((HR2.out.ext (Ext.alloc1 _ _)).ext ((Ext.refl _).drew)) (by have h2 : l.length ≤ 2 := hll.out; omega)).mono ?_
    rintro e w3 ⟨al, cl, rfl, ha, he⟩
    have HX23 := Aside.mk (((Ext.alloc1 _ _).drew).trans he.out)
    have HB3 := Aside.mk (HB2.out.ext HX23.out)
    have HZ3 := Aside.mk (HZ2.out.ext HX23.out)
    go_simp
    refine hK.out _ _ (fun _ => HB3.out) ?_; clear hS; intro hS hKept; replace hS := hS (by decide); (try simp only [List.getElem?_toArray, List.getElem?_cons_succ, List.getElem?_cons_zero, List.getElem_toArray, List.getElem_cons_succ, List.getElem_cons_zero, Act.put, List.setIfInBounds_toArray, List.set_cons_zero, List.set_cons_succ])
    refine till_one (i := 3) (by simp only [List.getElem?_toArray, List.getElem?_cons_succ, List.getElem?_cons_zero]; rfl) (by kernel_rfl) hKept ?_; intro K hK
    refine step_store_box _ rfl 42 (.tmp 4) (.tmp 24) rfl (w.heap.size + 1) #[.int .i64 ({ s with U := u } : EscV).Mode, .int .i64 ({ s with U := u } : EscV).U.Need, .int .i64 ({ s with U := u } : EscV).U.Min, .int .i64 ({ s with U := u } : EscV).U.Got, .slice ap s.Par.length cp, .int .i64 ({ s with U := u } : EscV).Num, .bool ({ s with U := u } : EscV).Priv, .bool ({ s with U := u } : EscV).Skip] (by rfl) (by rfl) 42 _ HZ3.out size42 rfl rfl ?_
    intro w4 hb4 hg4
    have HB4 := Aside.mk hb4
    have HG4 := Aside.mk hg4
    clear hb4 hg4
    go_simp
    refine hK.out _ _ (fun _ => HB3.out.grown HG4.out (by simp)) ?_; clear hS; intro hS hKept; replace hS := hS (by decide); (try simp only [List.getElem?_toArray, List.getElem?_cons_succ, List.getElem?_cons_zero, List.getElem_toArray, List.getElem_cons_succ, List.getElem_cons_zero, Act.put, List.setIfInBounds_toArray, List.set_cons_zero, List.set_cons_succ])
    refine till_take (i := 4) (oi := _) (v := ?_) rfl (by kernel_rfl) (by kernel_rfl) (by kernel_rfl) (by kernel_rfl) (fun _ _ _ h => h) hKept hS (Or.inl ⟨by rfl, ?_⟩) ?_; rotate_left; (intro wS hSw; have hSc := hSw.cell; go_simp; try with_reducible rfl); intro hKept; (try simp only [List.getElem?_toArray, List.getElem?_cons_succ, List.getElem?_cons_zero, List.getElem_toArray, List.getElem_cons_succ, List.getElem_cons_zero, Act.put, List.setIfInBounds_toArray, List.set_cons_zero, List.set_cons_succ])
    refine till_done (by kernel_rfl) ?_ _
    go_wp2
    refine bodyPost_ret (results_cell_tmp Try.results42 _ _ (w.heap.size + 1) 42 #[.int .i64 ({ s with U := u } : EscV).Mode, .int .i64 ({ s with U := u } : EscV).U.Need, .int .i64 ({ s with U := u } : EscV).U.Min, .int .i64 ({ s with U := u } : EscV).U.Got, .slice ap s.Par.length cp, .int .i64 ({ s with U := u } : EscV).Num, .bool ({ s with U := u } : EscV).Priv, .bool ({ s with U := u } : EscV).Skip] (0, 0) _ rfl HB4.out Try.underlying42 rfl size42) rfl ?_
    have hx : Ext w w4 := (HX2.out.trans HX23.out).of_grown HG4.out (by intro k hk; cases hk; omega)
    exact EscRes.of { s with U := u } (printsR l) _ _ _ _ (HP.out.ext hx) ((acts_own ha.out (fun a h => printsR_mem h)).grown HG4.out HZ3.out (by decide) (by decide)) hx
  · have hul := Aside.mk (endR_length s.U)
    have HX0 := HW
    by_cases c2 : b = 27
    · subst c2
      rw [show groundR s 27 = ({ s with U := ⟨0, 0, 0⟩, Mode := 1 }, printsR (endR s.U)) from by unfold groundR; rw [if_neg (by omega), if_pos rfl]]
      clear c1
      go_enter Try.func42, Try.ntmps42
      go_wp2_with (first
        | (go_at_call 78; refine (End_any s.U _).mono ?_; rintro e w1 ⟨a1, c1, rfl, hr, he⟩) | (go_at_call 77; refine (prints_any (endR s.U) _ _ _ hr.out (by have := hul.out; omega)).mono ?_; rintro e w2 ⟨al, cl, rfl, ha, he2⟩; have he1s : Aside (w.heap.size + 2 ≤ w1.heap.size) := ⟨by have := he.out.size; simp at this; omega⟩; have HX2 := Aside.mk (HW.out.trans (he.out.trans he2.out)); have HB2 := Aside.mk (HB.out.ext (he.out.trans he2.out)); have HZ2 := Aside.mk (HZ.out.ext (he.out.trans he2.out)); have hcf := HB2.out.rules; obtain ⟨hcB, hfB⟩ := hcf; have hlB := HB2.out.lt; have hlZ := HZ2.out.lt; have HS := Aside.mk (HB2.out.set3 1 2 3 (.int .i64 0) (.int .i64 0) (.int .i64 0)); have hb3 := HS.out.1; simp only [List.setIfInBounds_toArray, List.set_cons_zero, List.set_cons_succ] at hb3; have HB3 := Aside.mk hb3; clear hb3; have HS4 := Aside.mk (HB3.out.set 0 (.int .i64 1)); have HZ3 := Aside.mk (HZ2.out.grown HS.out.2 (by simp)); have HZ4 := Aside.mk (HZ3.out.grown HS4.out.2 (by simp)); have HX3 : Aside (Ext w _) := ⟨HX2.out.of_grown HS.out.2 (by intro k hk; cases hk; omega)⟩; have HX4 : Aside (Ext w _) := ⟨HX3.out.of_grown HS4.out.2 (by intro k hk; cases hk; omega)⟩; have HA2 := Aside.mk (acts_own ha.out (fun a h => printsR_mem h)); have HA3 := Aside.mk (HA2.out.grown HS.out.2 HB2.out (by decide) (by decide)); have HA4 := Aside.mk (HA3.out.grown HS4.out.2 HB3.out (by decide) (by decide)))
        | (refine atStore 42 (.tmp 4) (.tmp 36) rfl ?_; refine wpList_store_box _ rfl 42 (.tmp 4) (.tmp 36) rfl (w.heap.size + 1) _ rfl rfl 42 _ HZ4.out size42 rfl rfl ?_; intro w5 hbz hgz; have HZ5 := Aside.mk hbz; have HG5 := Aside.mk hgz; clear hgz hbz))
      refine bodyPost_ret (results_cell_tmp Try.results42 _ _ (w.heap.size + 1) 42 #[.int .i64 ({ s with U := ⟨0, 0, 0⟩, Mode := 1 } : EscV).Mode, .int .i64 ({ s with U := ⟨0, 0, 0⟩, Mode := 1 } : EscV).U.Need, .int .i64 ({ s with U := ⟨0, 0, 0⟩, Mode := 1 } : EscV).U.Min, .int .i64 ({ s with U := ⟨0, 0, 0⟩, Mode := 1 } : EscV).U.Got, .slice ap s.Par.length cp, .int .i64 ({ s with U := ⟨0, 0, 0⟩, Mode := 1 } : EscV).Num, .bool ({ s with U := ⟨0, 0, 0⟩, Mode := 1 } : EscV).Priv, .bool ({ s with U := ⟨0, 0, 0⟩, Mode := 1 } : EscV).Skip] (0, 0) _ rfl HZ5.out Try.underlying42 rfl size42) rfl ?_
      have hx : Ext w _ := HX4.out.of_grown HG5.out (by intro k hk; cases hk; omega)
      exact EscRes.of { s with U := ⟨0, 0, 0⟩, Mode := 1 } (printsR (endR s.U)) _ _ _ _ (HP.out.ext hx) ((HA4.out.grown HG5.out HZ4.out (by decide) (by decide))) hx
    · rw [show groundR s b = ({ s with U := ⟨0, 0, 0⟩ }, printsR (endR s.U) ++ controlR b) from by unfold groundR; rw [if_neg c1, if_neg c2]]
      have d2 : (b == 27) = false := by simpa using c2
      have hcase : (b ≤ 31) ∨ (31 < b ∧ b = 127) := by omega
      obtain ⟨i0, hi, hz0, hz1, hz2⟩ := info_parts info35
      have hi' := Aside.mk hi
      clear hi c1 c2
      go_enter Try.func42, Try.ntmps42
      rcases hcase with k1 | ⟨k1, k2⟩
      all_goals
        first
          | (have d3 : (b != 127) = false := by simp [k2])
          | (have d1 : decide (31 < b) = false := by simp; omega)
        try clear k2
        go_wp2_with (first
          | (go_at_call 78; refine (End_any s.U _).mono ?_; rintro e w1 ⟨a1, c1, rfl, hr, he⟩) | (go_at_call 77; refine (prints_any (endR s.U) _ _ _ hr.out (by have := hul.out; omega)).mono ?_; rintro e w2 ⟨al, cl, rfl, ha, he2⟩; have he1s : Aside (w.heap.size + 2 ≤ w1.heap.size) := ⟨by have := he.out.size; simp at this; omega⟩; have HX2 := Aside.mk (HW.out.trans (he.out.trans he2.out)); have HB2 := Aside.mk (HB.out.ext (he.out.trans he2.out)); have HZ2 := Aside.mk (HZ.out.ext (he.out.trans he2.out)); have hcf := HB2.out.rules; obtain ⟨hcB, hfB⟩ := hcf; have hlB := HB2.out.lt; have hlZ := HZ2.out.lt; have HS := Aside.mk (HB2.out.set3 1 2 3 (.int .i64 0) (.int .i64 0) (.int .i64 0)); have hb3 := HS.out.1; simp only [List.setIfInBounds_toArray, List.set_cons_zero, List.set_cons_succ] at hb3; have HB3 := Aside.mk hb3; clear hb3; have HS4 := Aside.mk (HB3.out.set 0 (.int .i64 1)); have HZ3 := Aside.mk (HZ2.out.grown HS.out.2 (by simp)); have HZ4 := Aside.mk (HZ3.out.grown HS4.out.2 (by simp)); have HX3 : Aside (Ext w _) := ⟨HX2.out.of_grown HS.out.2 (by intro k hk; cases hk; omega)⟩; have HX4 : Aside (Ext w _) := ⟨HX3.out.of_grown HS4.out.2 (by intro k hk; cases hk; omega)⟩; have HA2 := Aside.mk (acts_own ha.out (fun a h => printsR_mem h)); have HA3 := Aside.mk (HA2.out.grown HS.out.2 HB2.out (by decide) (by decide)); have HA4 := Aside.mk (HA3.out.grown HS4.out.2 HB3.out (by decide) (by decide))))
        have HO2 := Aside.mk (own_box ha.out HB2.out (by decide) HS.out.2)
        clear hcB hfB hlB hlZ ha hr he he2
        refine wp_region_till 100 (fun w' => Box w' w.heap.size 42 #[.int .i64 ({ s with U := ⟨0, 0, 0⟩ } : EscV).Mode, .int .i64 ({ s with U := ⟨0, 0, 0⟩ } : EscV).U.Need, .int .i64 ({ s with U := ⟨0, 0, 0⟩ } : EscV).U.Min, .int .i64 ({ s with U := ⟨0, 0, 0⟩ } : EscV).U.Got, .slice ap s.Par.length cp, .int .i64 ({ s with U := ⟨0, 0, 0⟩ } : EscV).Num, .bool ({ s with U := ⟨0, 0, 0⟩ } : EscV).Priv, .bool ({ s with U := ⟨0, 0, 0⟩ } : EscV).Skip]) (by rfl) (HB3.out.drew) ?_
        intro hS
        refine ⟨kept_none _ rfl, fun hKept => ?_⟩
        refine till_take (i := 0) (oi := _) (v := ?_) rfl (by kernel_rfl) (by kernel_rfl) (by kernel_rfl) (by kernel_rfl) (fun _ _ _ h => h) hKept hS (Or.inl ⟨by rfl, ?_⟩) ?_; rotate_left; (intro wS hSw; have hSc := hSw.cell; go_simp; try with_reducible rfl); intro hKept; (try simp only [List.getElem?_toArray, List.getElem?_cons_succ, List.getElem?_cons_zero, List.getElem_toArray, List.getElem_cons_succ, List.getElem_cons_zero, Act.put, List.setIfInBounds_toArray, List.set_cons_zero, List.set_cons_succ])
        refine till_take (i := 1) (oi := _) (v := ?_) rfl (by kernel_rfl) (by kernel_rfl) (by kernel_rfl) (by kernel_rfl) (fun _ _ _ h => h) hKept hS (Or.inl ⟨by rfl, ?_⟩) ?_; rotate_left; (intro wS hSw; have hSc := hSw.cell; go_simp; try with_reducible rfl); intro hKept; (try simp only [List.getElem?_toArray, List.getElem?_cons_succ, List.getElem?_cons_zero, List.getElem_toArray, List.getElem_cons_succ, List.getElem_cons_zero, Act.put, List.setIfInBounds_toArray, List.set_cons_zero, List.set_cons_succ])
        refine till_take (i := 2) (oi := _) (v := ?_) rfl (by kernel_rfl) (by kernel_rfl) (by kernel_rfl) (by kernel_rfl) (fun _ _ _ h => h) hKept hS (Or.inl ⟨by rfl, ?_⟩) ?_; rotate_left; (intro wS hSw; have hSc := hSw.cell; go_simp; try with_reducible rfl); intro hKept; (try simp only [List.getElem?_toArray, List.getElem?_cons_succ, List.getElem?_cons_zero, List.getElem_toArray, List.getElem_cons_succ, List.getElem_cons_zero, Act.put, List.setIfInBounds_toArray, List.set_cons_zero, List.set_cons_succ])
        refine till_one (i := 3) (by simp only [List.getElem?_toArray, List.getElem?_cons_succ, List.getElem?_cons_zero]; rfl) (by kernel_rfl) hKept ?_; intro K hK; rw [if_pos (by rfl)]
        go_simp
        refine (qcontrol_any b _ h0 h1).mono ?_
        rintro e w5 ⟨al5, cl5, rfl, ha5, he5⟩
        have HX5 := Aside.mk (((Ext.refl _).drew).trans he5.out)
        have HB5 := Aside.mk (HB3.out.ext HX5.out)
        have HZ5 := Aside.mk (HZ3.out.ext HX5.out)
        obtain ⟨us, hu1, hu2⟩ := ha5.out.ex
        have HU1 := Aside.mk hu1
        have HU2 := Aside.mk hu2
        clear hu1 hu2
        go_simp
        refine hK.out _ _ (fun _ => HB5.out) ?_; clear hS; intro hS hKept; replace hS := hS (by decide); (try simp only [List.getElem?_toArray, List.getElem?_cons_succ, List.getElem?_cons_zero, List.getElem_toArray, List.getElem_cons_succ, List.getElem_cons_zero, Act.put, List.setIfInBounds_toArray, List.set_cons_zero, List.set_cons_succ])
        refine till_one (i := 4) (by simp only [List.getElem?_toArray, List.getElem?_cons_succ, List.getElem?_cons_zero]; rfl) (by kernel_rfl) hKept ?_; intro K hK
        have hl1 : Aside ((printsR (endR s.U)).length ≤ 1) := ⟨Nat.le_trans (printsR_length _) hul.out⟩
        have hl2 := Aside.mk (controlR_length b)
        refine step_append_holds _ (by rfl) (.tmp 39) (.tmp 41) 59 (by rfl) (w.heap.size + 2) 35 i0 (.agg #[.int .i64 0, .int .i32 0, .slice none 0 0]) 3 40 Try.underlying59 hi'.out hz0 hz1 hz2 rfl (by decide) (.slice al (printsR (endR s.U)).length cl) (printsR (endR s.U)).length (flatA (printsR (endR s.U)) (nilsOf (printsR (endR s.U)))) (by rfl) ?d1 _ (controlR b).length (flatA (controlR b) us) (by rfl) ?d2 ?d3 ?d4 ?d5 ?_
        case d1 => exact own_mono (own_ext HO2.out HX5.out) (by have := he1s.out; omega)
        case d2 => exact HU1.out.at_
        case d3 => have := hl1.out; have := hl2.out; unfold maxLen; omega
        case d4 => have := hl1.out; have := hl2.out; omega
        case d5 => have := HX3.out.size; have := HX5.out.size; have := HZ5.out.lt; omega
        intro v6 w6 hown hg6 hwh
        obtain ⟨a6, k6, rfl⟩ := own_slice hown
        have HO6 := Aside.mk hown
        have hne6 : ∀ k, (Value.slice al (printsR (endR s.U)).length cl).ownBlock = some k → w.heap.size + 2 ≤ k := fun k hk => by have := own_base HO2.out k hk; have := he1s.out; omega
        have HX6 : Aside (Ext w w6) := ⟨(HX3.out.trans HX5.out).of_grown hg6 (fun k hk => by have := hne6 k hk; omega)⟩
        have HB6 := Aside.mk (HB5.out.grown hg6 (fun e => by have := hne6 _ e.symm; omega))
        have HZ6 := Aside.mk (HZ5.out.grown hg6 (fun e => by have := hne6 _ e.symm; omega))
        have HU6 : Aside (All2 (fun v (a : ActV) => IntsT w6 v a.P) us (controlR b)) := ⟨HU2.out.imp fun v a h => HoldsT.grownO h hg6 (own_ext HO2.out HX5.out) (by decide)⟩
        clear hown hg6 hwh hne6
        go_simp
        refine hK.out _ _ (fun _ => HB6.out) ?_; clear hS; intro hS hKept; replace hS := hS (by decide); (try simp only [List.getElem?_toArray, List.getElem?_cons_succ, List.getElem?_cons_zero, List.getElem_toArray, List.getElem_cons_succ, List.getElem_cons_zero, Act.put, List.setIfInBounds_toArray, List.set_cons_zero, List.set_cons_succ])
        refine till_one (i := 5) (by simp only [List.getElem?_toArray, List.getElem?_cons_succ, List.getElem?_cons_zero]; rfl) (by kernel_rfl) hKept ?_; intro K hK
        refine step_store_box _ rfl 42 (.tmp 4) (.tmp 38) rfl (w.heap.size + 1) #[.int .i64 ({ s with U := ⟨0, 0, 0⟩ } : EscV).Mode, .int .i64 ({ s with U := ⟨0, 0, 0⟩ } : EscV).U.Need, .int .i64 ({ s with U := ⟨0, 0, 0⟩ } : EscV).U.Min, .int .i64 ({ s with U := ⟨0, 0, 0⟩ } : EscV).U.Got, .slice ap s.Par.length cp, .int .i64 ({ s with U := ⟨0, 0, 0⟩ } : EscV).Num, .bool ({ s with U := ⟨0, 0, 0⟩ } : EscV).Priv, .bool ({ s with U := ⟨0, 0, 0⟩ } : EscV).Skip] (by rfl) (by rfl) 42 _ HZ6.out size42 rfl rfl ?_
        intro w7 hb7 hg7
        have HB7 := Aside.mk hb7
        have HG7 := Aside.mk hg7
        clear hb7 hg7
        go_simp
        refine hK.out _ _ (fun _ => HB6.out.grown HG7.out (by simp)) ?_; clear hS; intro hS hKept; replace hS := hS (by decide); (try simp only [List.getElem?_toArray, List.getElem?_cons_succ, List.getElem?_cons_zero, List.getElem_toArray, List.getElem_cons_succ, List.getElem_cons_zero, Act.put, List.setIfInBounds_toArray, List.set_cons_zero, List.set_cons_succ])
        refine till_take (i := 6) (oi := _) (v := ?_) rfl (by kernel_rfl) (by kernel_rfl) (by kernel_rfl) (by kernel_rfl) (fun _ _ _ h => h) hKept hS (Or.inl ⟨by rfl, ?_⟩) ?_; rotate_left; (intro wS hSw; have hSc := hSw.cell; go_simp; try with_reducible rfl); intro hKept; (try simp only [List.getElem?_toArray, List.getElem?_cons_succ, List.getElem?_cons_zero, List.getElem_toArray, List.getElem_cons_succ, List.getElem_cons_zero, Act.put, List.setIfInBounds_toArray, List.set_cons_zero, List.set_cons_succ])
        refine till_done (by kernel_rfl) ?_ _
        go_wp2
        refine bodyPost_ret (results_cell_tmp Try.results42 _ _ (w.heap.size + 1) 42 #[.int .i64 ({ s with U := ⟨0, 0, 0⟩ } : EscV).Mode, .int .i64 ({ s with U := ⟨0, 0, 0⟩ } : EscV).U.Need, .int .i64 ({ s with U := ⟨0, 0, 0⟩ } : EscV).U.Min, .int .i64 ({ s with U := ⟨0, 0, 0⟩ } : EscV).U.Got, .slice ap s.Par.length cp, .int .i64 ({ s with U := ⟨0, 0, 0⟩ } : EscV).Num, .bool ({ s with U := ⟨0, 0, 0⟩ } : EscV).Priv, .bool ({ s with U := ⟨0, 0, 0⟩ } : EscV).Skip] (0, 0) _ rfl HB7.out Try.underlying42 rfl size42) rfl ?_
        have hx : Ext w w7 := HX6.out.of_grown HG7.out (by intro k hk; cases hk; omega)
        have hA : ActsAt w6 (.slice a6 (printsR (endR s.U) ++ controlR b).length k6) (printsR (endR s.U) ++ controlR b) := by
          refine ⟨nilsOf (printsR (endR s.U)) ++ us, ?_, (nilsOf_all w6 _ (fun a h => printsR_mem h)).append HU6.out⟩
          rw [flatA_append _ _ _ _ (by simp [nilsOf]), List.length_append]
          refine HoldsT.own HO6.out (fun u hu => ?_)
          rcases List.mem_append.1 hu with hu | hu
          · exact flatA_one _ _ (fun v hv => by obtain ⟨_, _, rfl⟩ := List.mem_map.1 hv; rfl) u hu
          · exact HU1.out.at_.one u hu
        refine ⟨ap, cp, a6, k6, by simp only [List.length_append]; rfl, ⟨HP.out.ext hx⟩, ⟨hA.grown HG7.out HZ6.out (by decide) (by decide)⟩, ⟨hx⟩⟩
end Go.Proofs.Ytmehkikkjebnnaa
