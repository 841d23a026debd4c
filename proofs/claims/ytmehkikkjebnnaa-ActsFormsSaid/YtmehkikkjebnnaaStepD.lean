/-
  Walks: polyptychref1.Utf.
-/
import Derived.Test.YtmehkikkjebnnaaStepC
set_option linter.unusedVariables false
set_option linter.unusedSimpArgs false
namespace Go.Proofs.Ytmehkikkjebnnaa
open Go.RowKit
attribute [local go_sem] max2_i min2_i max_two min_two
attribute [local go_sem ↓] Go.wp_at_zero Go.wp_at_succ

theorem info21 : (Try.prog.info? 21).map (fun i => (i.zero, i.size, i.bytes)) = some (some (.int .i32 0), 1, 4) := by kernel_rfl
theorem own_lit (w : World) (base : Nat) (e : TypeId) (sz n : Nat) (cs : List Value) (hb : base ≤ w.heap.size) (hl : cs.length = n * sz) (hn : n ≤ 1000000) : (w.alloc (.cells cs.toArray e)).ownsRow base e sz (.slice (some ⟨w.heap.size, 0, none⟩) n n) n cs :=
  ⟨hl, .inr ⟨w.heap.size, n, cs.toArray, rfl, hb, heap_alloc_new w _, Nat.le_refl _, by unfold maxLen; omega, by simpa using hl, by simp; rw [← hl]; exact List.take_length⟩⟩

set_option maxRecDepth 100000 in
set_option maxHeartbeats 4000000 in
theorem Utf_any (s : UtfV) (b : Int) (w : World) (h0 : 0 ≤ b) (h1 : b ≤ 255) (hs : UtfOk s) : Calls Try.prog 76 #[.agg #[.int .i64 s.Need, .int .i64 s.Min, .int .i64 s.Got], .int .u8 b] w (UtfRes w (utfR s b)) := by
  have HZ := Aside.mk (Box.newAt (w.alloc (.cells #[.int .i64 s.Need, .int .i64 s.Min, .int .i64 s.Got] 40)) 40 #[.int .i64 0, .int .i64 0, .int .i64 0] (w.heap.size + 1) (by simp))
  have HW := Aside.mk ((Ext.alloc1 w (.cells #[.int .i64 s.Need, .int .i64 s.Min, .int .i64 s.Got] 40)).alloc (.cells #[.int .i64 0, .int .i64 0, .int .i64 0] 40))
  by_cases c1 : s.Need ≤ 0
  · rw [show utfR s b = firstR b from by unfold utfR; rw [if_pos c1]]
    go_enter Try.func76, Try.ntmps76
    go_wp2_with (first
      | (go_at_call 118; refine (first_any b _ h0 h1).mono ?_; rintro e w1 ⟨a1, k1, rfl, hr, he⟩; have HZ1 := Aside.mk (HZ.out.ext he.out))
      | (refine atStore 40 (.tmp 4) (.tmp 14) rfl ?_; refine wpList_store_box _ rfl 40 (.tmp 4) (.tmp 14) rfl (w.heap.size + 1) _ rfl rfl 40 _ HZ1.out size40 rfl rfl ?_; intro w2 hbz hgz; have HZ2 := Aside.mk hbz; have HG2 := Aside.mk hgz; clear hgz hbz))
    refine bodyPost_ret (results_cell_tmp Try.results76 _ _ (w.heap.size + 1) 40 #[.int .i64 (firstR b).1.Need, .int .i64 (firstR b).1.Min, .int .i64 (firstR b).1.Got] (0, 0) _ rfl HZ2.out Try.underlying40 rfl size40) rfl ?_
    exact ⟨a1, k1, rfl, ⟨HoldsT.grown hr.out HG2.out HZ1.out (by decide)⟩, ⟨(HW.out.trans he.out).of_grown HG2.out (by intro k hk; cases hk; omega)⟩⟩
  have e1 : decide (s.Need ≤ 0) = false := by simpa using c1
  by_cases c2 : b < 128 ∨ b > 191
  · rw [show utfR s b = ((firstR b).1, 65533 :: (firstR b).2) from by unfold utfR; rw [if_neg c1, if_pos c2]]
    obtain ⟨i0, hi, hz0, hz1, hz2⟩ := info_parts info21
    have hi' := Aside.mk hi
    have hfl := Aside.mk (firstR_length b)
    clear hi
    have hb2 : Aside ((b < 128) ∨ (128 ≤ b ∧ 191 < b)) := ⟨by omega⟩
    clear c1 c2
    have hcase := hb2.out
    go_enter Try.func76, Try.ntmps76
    rcases hcase with k1 | ⟨k1, k2⟩
    all_goals
      try have d1 : decide (b < 128) = false := by simp; omega
      go_wp2_with (first
        | (go_at_call 118; refine (first_any b _ h0 h1).mono ?_; rintro e w1 ⟨a1, k1, rfl, hr, he⟩; have HZ1 := Aside.mk (HZ.out.ext he.out)))
      have HX1 := Aside.mk (HW.out.trans he.out)
      refine wp_region_till 100 (fun w' => Box w' w1.heap.size 40 #[.int .i64 (firstR b).1.Need, .int .i64 (firstR b).1.Min, .int .i64 (firstR b).1.Got]) (by rfl) ((Box.new w1 40 #[.int .i64 (firstR b).1.Need, .int .i64 (firstR b).1.Min, .int .i64 (firstR b).1.Got]).drew) ?_
      intro hS
      refine ⟨kept_none _ rfl, fun hKept => ?_⟩
      refine till_take (i := 0) (oi := _) (v := ?_) rfl (by kernel_rfl) (by kernel_rfl) (by kernel_rfl) (by kernel_rfl) (fun _ _ _ h => h) hKept hS (Or.inl ⟨by rfl, ?_⟩) ?_; rotate_left; (intro wS hSw; have hSc := hSw.cell; go_simp; try with_reducible rfl); intro hKept; (try simp only [List.getElem?_toArray, List.getElem?_cons_succ, List.getElem?_cons_zero, List.getElem_toArray, List.getElem_cons_succ, List.getElem_cons_zero, Act.put, List.setIfInBounds_toArray, List.set_cons_zero, List.set_cons_succ])
      refine till_take (i := 2) (oi := _) (v := ?_) rfl (by kernel_rfl) (by kernel_rfl) (by kernel_rfl) (by kernel_rfl) (fun _ _ _ h => h) hKept hS (Or.inl ⟨by rfl, ?_⟩) ?_; rotate_left; (intro wS hSw; have hSc := hSw.cell; go_simp; try with_reducible rfl); intro hKept; (try simp only [List.getElem?_toArray, List.getElem?_cons_succ, List.getElem?_cons_zero, List.getElem_toArray, List.getElem_cons_succ, List.getElem_cons_zero, Act.put, List.setIfInBounds_toArray, List.set_cons_zero, List.set_cons_succ])
      refine till_one (i := 1) (by simp only [List.getElem?_toArray, List.getElem?_cons_succ, List.getElem?_cons_zero]; rfl) (by kernel_rfl) hKept ?_; intro K hK; rw [if_pos (by rfl)]
      go_simp
      refine hK.out _ _ (fun _ => ((Box.new w1 40 #[.int .i64 (firstR b).1.Need, .int .i64 (firstR b).1.Min, .int .i64 (firstR b).1.Got]).alloc _).drew) ?_; clear hS; intro hS hKept; replace hS := hS (by decide); (try simp only [List.getElem?_toArray, List.getElem?_cons_succ, List.getElem?_cons_zero, List.getElem_toArray, List.getElem_cons_succ, List.getElem_cons_zero, Act.put, List.setIfInBounds_toArray, List.set_cons_zero, List.set_cons_succ])
      refine till_one (i := 3) (by simp only [List.getElem?_toArray, List.getElem?_cons_succ, List.getElem?_cons_zero]; rfl) (by kernel_rfl) hKept ?_; intro K hK
      refine step_append_holds _ (by rfl) (.tmp 29) (.tmp 30) 75 (by rfl) (w.heap.size + 2) 21 i0 (.int .i32 0) 1 4 Try.underlying75 hi'.out hz0 hz1 hz2 rfl (by decide) (.slice (some ⟨w1.heap.size + 1, 0, none⟩) 1 1) 1 [.int .i32 65533] (by rfl) ?d1 _ (firstR b).2.length ((firstR b).2.map (Value.int .i32)) (by rfl) ?d2 ?d3 ?d4 ?d5 ?_
      case d1 => exact (show ((w1.alloc (.cells #[.int .i64 (firstR b).1.Need, .int .i64 (firstR b).1.Min, .int .i64 (firstR b).1.Got] 40)).alloc (.cells #[.int .i32 65533] 21)).ownsRow (w.heap.size + 2) 21 1 (.slice (some ⟨w1.heap.size + 1, 0, none⟩) 1 1) 1 [.int .i32 65533] from by have := own_lit (w1.alloc (.cells #[.int .i64 (firstR b).1.Need, .int .i64 (firstR b).1.Min, .int .i64 (firstR b).1.Got] 40)) (w.heap.size + 2) 21 1 1 [.int .i32 65533] (by have := he.out.size; simp at this; simp; omega) rfl (by omega); simpa using this)
      case d2 => exact (HoldsT.at_ hr.out).ext ((((Ext.alloc1 _ _).alloc _).drew))
      case d3 => have := hfl.out; unfold maxLen; omega
      case d4 => have := hfl.out; omega
      case d5 => have := he.out.size; simp at this; simp; omega
      intro v3 w3 hown hg3 hwh
      obtain ⟨a3, k3, rfl⟩ := own_slice hown
      have HO3 := Aside.mk hown
      have HX3 : Aside (Ext w w3) := ⟨((HX1.out.alloc _).alloc _).drew.of_grown hg3 (fun k hk => by simp [Value.ownBlock] at hk; subst hk; have := HX1.out.size; omega)⟩
      have HZ3 := Aside.mk ((((HZ1.out.alloc (.cells #[.int .i64 (firstR b).1.Need, .int .i64 (firstR b).1.Min, .int .i64 (firstR b).1.Got] 40)).alloc (.cells #[.int .i32 65533] 21)).drew).grown hg3 (by have := HZ1.out.lt; simp [Value.ownBlock]; omega))
      have HB3 := Aside.mk ((((Box.new w1 40 #[.int .i64 (firstR b).1.Need, .int .i64 (firstR b).1.Min, .int .i64 (firstR b).1.Got]).alloc (.cells #[.int .i32 65533] 21)).drew).grown hg3 (by simp [Value.ownBlock]))
      clear hown hg3 hwh
      go_simp
      refine hK.out _ _ (fun _ => HB3.out) ?_; clear hS; intro hS hKept; replace hS := hS (by decide); (try simp only [List.getElem?_toArray, List.getElem?_cons_succ, List.getElem?_cons_zero, List.getElem_toArray, List.getElem_cons_succ, List.getElem_cons_zero, Act.put, List.setIfInBounds_toArray, List.set_cons_zero, List.set_cons_succ])
      refine till_one (i := 4) (by simp only [List.getElem?_toArray, List.getElem?_cons_succ, List.getElem?_cons_zero]; rfl) (by kernel_rfl) hKept ?_; intro K hK
      refine step_store_box _ rfl 40 (.tmp 4) (.tmp 28) rfl (w.heap.size + 1) #[.int .i64 (firstR b).1.Need, .int .i64 (firstR b).1.Min, .int .i64 (firstR b).1.Got] (by rfl) (by rfl) 40 _ HZ3.out size40 rfl rfl ?_
      intro w4 hb4 hg4
      have HB4 := Aside.mk hb4
      have HG4 := Aside.mk hg4
      clear hb4 hg4
      go_simp
      refine hK.out _ _ (fun _ => HB3.out.grown HG4.out (by have := HZ1.out.lt; simp; omega)) ?_; clear hS; intro hS hKept; replace hS := hS (by decide); (try simp only [List.getElem?_toArray, List.getElem?_cons_succ, List.getElem?_cons_zero, List.getElem_toArray, List.getElem_cons_succ, List.getElem_cons_zero, Act.put, List.setIfInBounds_toArray, List.set_cons_zero, List.set_cons_succ])
      refine till_take (i := 5) (oi := _) (v := ?_) rfl (by kernel_rfl) (by kernel_rfl) (by kernel_rfl) (by kernel_rfl) (fun _ _ _ h => h) hKept hS (Or.inl ⟨by rfl, ?_⟩) ?_; rotate_left; (intro wS hSw; have hSc := hSw.cell; go_simp; try with_reducible rfl); intro hKept; (try simp only [List.getElem?_toArray, List.getElem?_cons_succ, List.getElem?_cons_zero, List.getElem_toArray, List.getElem_cons_succ, List.getElem_cons_zero, Act.put, List.setIfInBounds_toArray, List.set_cons_zero, List.set_cons_succ])
      refine till_done (by kernel_rfl) ?_ _
      go_wp2
      refine bodyPost_ret (results_cell_tmp Try.results76 _ _ (w.heap.size + 1) 40 #[.int .i64 (firstR b).1.Need, .int .i64 (firstR b).1.Min, .int .i64 (firstR b).1.Got] (0, 0) _ rfl HB4.out Try.underlying40 rfl size40) rfl ?_
      refine ⟨a3, k3, by simp only [List.length_cons, Nat.add_comm]; rfl, ⟨?_⟩, ⟨HX3.out.of_grown HG4.out (by intro k hk; cases hk; omega)⟩⟩
      have h5 := (HoldsT.own HO3.out (by intro u hu; simp at hu; rcases hu with rfl | ⟨x, _, rfl⟩ <;> rfl)).grown HG4.out HZ3.out (by decide)
      unfold RunesAt
      rw [List.length_cons, Nat.add_comm, List.map_cons]
      exact h5
  · have e2 : decide (b < 128) = false := by simp; omega
    have e3 : decide (191 < b) = false := by simp; omega
    obtain ⟨m, hm⟩ : ∃ m, b % 64 = m := ⟨_, rfl⟩
    have hm2 : 0 ≤ m ∧ m ≤ 63 := by omega
    obtain ⟨hm0, hm1⟩ := hm2
    have a63 : bits BinOp.and IntKind.u8 b 63 = m := by rw [and63u b h0 h1, hm]
    have em : IntKind.i64.wrap m = m := IntWalk.i64_in _ (by omega)
    obtain ⟨n0, n3, hg0, g1, g2, g3, m0, m1⟩ := hs
    have hgm : s.Got ≤ 32767 := by omega
    have hn3 := n3
    clear g1 g2 g3
    by_cases c3 : s.Need - 1 > 0
    · rw [show utfR s b = (⟨s.Need - 1, s.Min, 64 * s.Got + m⟩, []) from by unfold utfR; rw [if_neg c1, if_neg c2, if_pos c3, hm]]
      have k3 : 1 < s.Need := by omega
      have k4 : 0 < s.Need - 1 := by omega
      clear c1 c2 c3 hm
      go_enter Try.func76, Try.ntmps76
      go_wp2
      refine bodyPost_ret (results_cell_tmp Try.results76 _ _ (w.heap.size + 1) 40 #[.int .i64 (⟨s.Need - 1, s.Min, 64 * s.Got + m⟩ : UtfV).Need, .int .i64 (⟨s.Need - 1, s.Min, 64 * s.Got + m⟩ : UtfV).Min, .int .i64 (⟨s.Need - 1, s.Min, 64 * s.Got + m⟩ : UtfV).Got] (0, 0) _ rfl (Box.newAt _ _ _ _ (by simp)) Try.underlying40 rfl size40) rfl ?_
      exact UtfRes.of ⟨s.Need - 1, s.Min, 64 * s.Got + m⟩ [] _ _ (RunesAt.nil _) ((Ext.alloc1 _ _).alloc _)
    · rw [show utfR s b = (⟨0, 0, 0⟩, [rune1R (64 * s.Got + m) s.Min]) from by unfold utfR; rw [if_neg c1, if_neg c2, if_neg c3, hm]]
      have k3 : decide (1 < s.Need) = false := by simp; omega
      have k4 : decide (0 < s.Need - 1) = false := by simp; omega
      have k5 : 0 < s.Need := by omega
      clear c1 c2 c3 hm
      go_enter Try.func76, Try.ntmps76
      go_wp2_with (go_at_call 119; refine (rune1_any (64 * s.Got + m) _ _ (by omega)).mono ?_; rintro e w1 ⟨rfl, rfl⟩)
      refine bodyPost_ret (results_cell_tmp Try.results76 _ _ (w.heap.size + 1) 40 #[.int .i64 (⟨0, 0, 0⟩ : UtfV).Need, .int .i64 (⟨0, 0, 0⟩ : UtfV).Min, .int .i64 (⟨0, 0, 0⟩ : UtfV).Got] (0, 0) _ rfl ((Box.newAt _ _ _ _ (by simp)).alloc _) Try.underlying40 rfl size40) rfl ?_
      exact UtfRes.of ⟨0, 0, 0⟩ [rune1R (64 * s.Got + m) s.Min] _ _ (RunesAt.one (Box.newAt _ _ _ _ (by simp))) (((Ext.alloc1 _ _).alloc _).alloc _)
end Go.Proofs.Ytmehkikkjebnnaa
