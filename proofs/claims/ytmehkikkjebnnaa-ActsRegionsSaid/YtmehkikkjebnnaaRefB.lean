/-
  Walks: polyptychref4.New.
-/
import Derived.Test.YtmehkikkjebnnaaRefA
set_option linter.unusedVariables false
set_option linter.unusedSimpArgs false
namespace Go.Proofs.Ytmehkikkjebnnaa
open Go.RowKit
attribute [local go_sem] max2_i min2_i max_two min_two
attribute [local go_sem ↓] Go.wp_at_zero Go.wp_at_succ

set_option maxRecDepth 100000 in
set_option maxHeartbeats 1000000 in
theorem sNew_any (x y : Int) (w : World) : Calls Try.prog 15 #[.int .i64 x, .int .i64 y] w (PassG w.heap.size w (newG x y)) := by
  obtain ⟨W, hW⟩ : ∃ W, W = min (max x 1) 1000 := ⟨_, rfl⟩
  obtain ⟨H, hH⟩ : ∃ H, H = min (max y 1) 1000 := ⟨_, rfl⟩
  have hWb : 1 ≤ W ∧ W ≤ 1000 := by omega
  have hHb : 1 ≤ H ∧ H ≤ 1000 := by omega
  have HW' := Aside.mk hW
  have HH' := Aside.mk hH
  have hng : newG x y = ⟨W, H, 0, 0, false, 0, 0, H - 1, 0, 0, 0, false, false, blankRows W H, []⟩ := by rw [hW, hH]; rfl
  have HNG := Aside.mk hng
  clear hW hH hng
  have e1 : IntKind.i64.wrap (H - 1) = H - 1 := IntWalk.i64_in _ (by omega)
  go_enter Try.func15, Try.ntmps15
  go_wp2_with (first
    | (go_at_call_of 31 (Value.int IntKind.i64 x); refine (sheld_eq x 1 1000 W _ HW'.out).mono ?_; rintro e w1 ⟨rfl, rfl⟩)
    | (go_at_call_of 31 (Value.int IntKind.i64 y); refine (sheld_eq y 1 1000 H _ HH'.out).mono ?_; rintro e w1 ⟨rfl, rfl⟩))
  go_loopw [6] (fun i wr => ∃ (k : Nat) (ao : Option Addr) (co : Nat), (k : Int) ≤ H ∧ i = .int .i64 k ∧ Aside (OwnR wr (w.heap.size + 2) (.slice ao k co) (List.replicate k (blankRow W))) ∧ Aside (Box wr (w.heap.size + 1) 31 #[.int .i64 (⟨W, H, 0, 0, false, 0, 0, H - 1, 0, 0, 0, false, false, [], []⟩ : Grid).W, .int .i64 (⟨W, H, 0, 0, false, 0, 0, H - 1, 0, 0, 0, false, false, [], []⟩ : Grid).H, .int .i64 (⟨W, H, 0, 0, false, 0, 0, H - 1, 0, 0, 0, false, false, [], []⟩ : Grid).X, .int .i64 (⟨W, H, 0, 0, false, 0, 0, H - 1, 0, 0, 0, false, false, [], []⟩ : Grid).Y, .bool (⟨W, H, 0, 0, false, 0, 0, H - 1, 0, 0, 0, false, false, [], []⟩ : Grid).Wrap, .int .i64 (⟨W, H, 0, 0, false, 0, 0, H - 1, 0, 0, 0, false, false, [], []⟩ : Grid).A, .int .i64 (⟨W, H, 0, 0, false, 0, 0, H - 1, 0, 0, 0, false, false, [], []⟩ : Grid).Top, .int .i64 (⟨W, H, 0, 0, false, 0, 0, H - 1, 0, 0, 0, false, false, [], []⟩ : Grid).Bottom, .int .i64 (⟨W, H, 0, 0, false, 0, 0, H - 1, 0, 0, 0, false, false, [], []⟩ : Grid).SX, .int .i64 (⟨W, H, 0, 0, false, 0, 0, H - 1, 0, 0, 0, false, false, [], []⟩ : Grid).SY, .int .i64 (⟨W, H, 0, 0, false, 0, 0, H - 1, 0, 0, 0, false, false, [], []⟩ : Grid).SA, .bool (⟨W, H, 0, 0, false, 0, 0, H - 1, 0, 0, 0, false, false, [], []⟩ : Grid).NoWrap, .bool (⟨W, H, 0, 0, false, 0, 0, H - 1, 0, 0, 0, false, false, [], []⟩ : Grid).Hidden, .slice ao k co, .slice none 0 0]) ∧ Aside (Box wr w.heap.size 31 #[.int .i64 0, .int .i64 0, .int .i64 0, .int .i64 0, .bool false, .int .i64 0, .int .i64 0, .int .i64 0, .int .i64 0, .int .i64 0, .int .i64 0, .bool false, .bool false, .slice none 0 0, .slice none 0 0]) ∧ Aside (Ext w wr)) (fun i _ => (H - intOf i).toNat)
  case atStart =>
    refine ⟨0, none, 0, by omega, rfl, ⟨OwnR.nil _ _⟩, ⟨?_⟩, ⟨?_⟩, ⟨?_⟩⟩
    · exact Box.newAt _ _ _ _ (by simp)
    · exact (Box.new _ _ _).alloc _
    · exact (Ext.alloc1 _ _).alloc _
  case round =>
    obtain ⟨k, ao, co, hk, rfl, HO, HA, HZ, HE⟩ := hrel
    obtain ⟨hc1, hf1⟩ := HA.out.rules
    by_cases hlt : (k : Int) < H
    · obtain ⟨vs, hv1, hv2⟩ := HO.out.ex
      rw [List.length_replicate] at hv1
      have HV1 := Aside.mk hv1
      have HV2 := Aside.mk hv2
      clear hv1 hv2
      obtain ⟨i0, hi, hz0, hz1, hz2⟩ := info_parts info51
      have hi' := Aside.mk hi
      clear hi
      go_wp2
      refine wp_region_till 8 (fun w' => Box w' (w.heap.size + 1) 31 #[.int .i64 (⟨W, H, 0, 0, false, 0, 0, H - 1, 0, 0, 0, false, false, [], []⟩ : Grid).W, .int .i64 (⟨W, H, 0, 0, false, 0, 0, H - 1, 0, 0, 0, false, false, [], []⟩ : Grid).H, .int .i64 (⟨W, H, 0, 0, false, 0, 0, H - 1, 0, 0, 0, false, false, [], []⟩ : Grid).X, .int .i64 (⟨W, H, 0, 0, false, 0, 0, H - 1, 0, 0, 0, false, false, [], []⟩ : Grid).Y, .bool (⟨W, H, 0, 0, false, 0, 0, H - 1, 0, 0, 0, false, false, [], []⟩ : Grid).Wrap, .int .i64 (⟨W, H, 0, 0, false, 0, 0, H - 1, 0, 0, 0, false, false, [], []⟩ : Grid).A, .int .i64 (⟨W, H, 0, 0, false, 0, 0, H - 1, 0, 0, 0, false, false, [], []⟩ : Grid).Top, .int .i64 (⟨W, H, 0, 0, false, 0, 0, H - 1, 0, 0, 0, false, false, [], []⟩ : Grid).Bottom, .int .i64 (⟨W, H, 0, 0, false, 0, 0, H - 1, 0, 0, 0, false, false, [], []⟩ : Grid).SX, .int .i64 (⟨W, H, 0, 0, false, 0, 0, H - 1, 0, 0, 0, false, false, [], []⟩ : Grid).SY, .int .i64 (⟨W, H, 0, 0, false, 0, 0, H - 1, 0, 0, 0, false, false, [], []⟩ : Grid).SA, .bool (⟨W, H, 0, 0, false, 0, 0, H - 1, 0, 0, 0, false, false, [], []⟩ : Grid).NoWrap, .bool (⟨W, H, 0, 0, false, 0, 0, H - 1, 0, 0, 0, false, false, [], []⟩ : Grid).Hidden, .slice ao k co, .slice none 0 0]) (by rfl) HA.out.drew ?_
      intro hS
      refine ⟨kept_none _ rfl, fun hKept => ?_⟩
      refine till_take (i := 0) (oi := _) (v := ?_) rfl (by kernel_rfl) (by kernel_rfl) (by kernel_rfl) (by kernel_rfl) (fun _ _ _ h => h) hKept hS (Or.inl ⟨by rfl, ?_⟩) ?_; rotate_left; (intro wS hSw; have hSc := hSw.cell; go_simp; try with_reducible rfl); intro hKept; (try simp only [List.getElem?_toArray, List.getElem?_cons_succ, List.getElem?_cons_zero, List.getElem_toArray, List.getElem_cons_succ, List.getElem_cons_zero, Act.put, List.setIfInBounds_toArray, List.set_cons_zero, List.set_cons_succ])
      refine till_take (i := 1) (oi := _) (v := ?_) rfl (by kernel_rfl) (by kernel_rfl) (by kernel_rfl) (by kernel_rfl) (fun _ _ _ h => h) hKept hS (Or.inl ⟨by rfl, ?_⟩) ?_; rotate_left; (intro wS hSw; have hSc := hSw.cell; go_simp; try with_reducible rfl); intro hKept; (try simp only [List.getElem?_toArray, List.getElem?_cons_succ, List.getElem?_cons_zero, List.getElem_toArray, List.getElem_cons_succ, List.getElem_cons_zero, Act.put, List.setIfInBounds_toArray, List.set_cons_zero, List.set_cons_succ])
      refine till_take (i := 2) (oi := _) (v := ?_) rfl (by kernel_rfl) (by kernel_rfl) (by kernel_rfl) (by kernel_rfl) (fun _ _ _ h => h) hKept hS (Or.inl ⟨by rfl, ?_⟩) ?_; rotate_left; (intro wS hSw; have hSc := hSw.cell; go_simp; try with_reducible rfl); intro hKept; (try simp only [List.getElem?_toArray, List.getElem?_cons_succ, List.getElem?_cons_zero, List.getElem_toArray, List.getElem_cons_succ, List.getElem_cons_zero, Act.put, List.setIfInBounds_toArray, List.set_cons_zero, List.set_cons_succ])
      refine till_take (i := 3) (oi := _) (v := ?_) rfl (by kernel_rfl) (by kernel_rfl) (by kernel_rfl) (by kernel_rfl) (fun _ _ _ h => h) hKept hS (Or.inl ⟨by rfl, ?_⟩) ?_; rotate_left; (intro wS hSw; have hSc := hSw.cell; go_simp; try with_reducible rfl); intro hKept; (try simp only [List.getElem?_toArray, List.getElem?_cons_succ, List.getElem?_cons_zero, List.getElem_toArray, List.getElem_cons_succ, List.getElem_cons_zero, Act.put, List.setIfInBounds_toArray, List.set_cons_zero, List.set_cons_succ])
      refine till_one (i := 4) (by simp only [List.getElem?_toArray, List.getElem?_cons_succ, List.getElem?_cons_zero]; rfl) (by kernel_rfl) hKept ?_; intro K hK; rw [if_pos (by rfl)]
      go_simp
      refine (sBlank_any W _).mono ?_
      rintro e w2 ⟨a2, c2, rfl, ho2, he2⟩
      have HO2 := Aside.mk ho2
      have HX2 := Aside.mk (((Ext.refl wr).drew).trans he2)
      have HA2 := Aside.mk (HA.out.ext HX2.out)
      clear ho2 he2
      refine hK.out _ _ (fun _ => HA2.out) ?_; clear hS; intro hS hKept; replace hS := hS (by decide); (try simp only [List.getElem?_toArray, List.getElem?_cons_succ, List.getElem?_cons_zero, List.getElem_toArray, List.getElem_cons_succ, List.getElem_cons_zero, Act.put, List.setIfInBounds_toArray, List.set_cons_zero, List.set_cons_succ])
      refine till_one (i := 5) (by simp only [List.getElem?_toArray, List.getElem?_cons_succ, List.getElem?_cons_zero]; rfl) (by kernel_rfl) hKept ?_; intro K hK; rw [if_pos (by rfl)]
      go_simp
      refine hK.out _ _ (fun _ => HA2.out.alloc _) ?_; clear hS; intro hS hKept; replace hS := hS (by decide); (try simp only [List.getElem?_toArray, List.getElem?_cons_succ, List.getElem?_cons_zero, List.getElem_toArray, List.getElem_cons_succ, List.getElem_cons_zero, Act.put, List.setIfInBounds_toArray, List.set_cons_zero, List.set_cons_succ])
      refine till_one (i := 6) (by simp only [List.getElem?_toArray, List.getElem?_cons_succ, List.getElem?_cons_zero]; rfl) (by kernel_rfl) hKept ?_; intro K hK
      refine step_append_holds _ (by rfl) _ _ 29 (by rfl) (w.heap.size + 2) 51 i0 (.slice none 0 0) 1 24 Try.underlying29 hi'.out hz0 hz1 hz2 rfl (by decide) _ k vs (by rfl) (own_ext HV1.out (HX2.out.alloc _)) _ 1 [.slice a2 (blankRow W).length c2] (by rfl) (Holds.new1 _ _ (.slice a2 (blankRow W).length c2) rfl) (by unfold maxLen; omega) (by omega) (by have := HA2.out.lt; simp; omega) ?_
      intro v' w4 hown hg hwh
      obtain ⟨av, cv, rfl⟩ := own_slice hown
      have HO4 := Aside.mk hown
      have HG4 := Aside.mk hg
      clear hown hg hwh
      go_simp
      have hne : some (w.heap.size + 1) ≠ (Value.slice ao k co).ownBlock := fun e => by have h1 := own_base HV1.out _ e.symm; omega
      have hne0 : some w.heap.size ≠ (Value.slice ao k co).ownBlock := fun e => by have h1 := own_base HV1.out _ e.symm; omega
      have HA4 := Aside.mk ((HA2.out.alloc _).grown HG4.out hne)
      have HZ4 := Aside.mk (((HZ.out.ext HX2.out).alloc _).grown HG4.out hne0)
      obtain ⟨hc4, hf4⟩ := HA4.out.rules
      refine hK.out _ _ (fun _ => HA4.out) ?_; clear hS; intro hS hKept; replace hS := hS (by decide); (try simp only [List.getElem?_toArray, List.getElem?_cons_succ, List.getElem?_cons_zero, List.getElem_toArray, List.getElem_cons_succ, List.getElem_cons_zero, Act.put, List.setIfInBounds_toArray, List.set_cons_zero, List.set_cons_succ])
      refine till_take (i := 7) (oi := _) (v := ?_) rfl (by kernel_rfl) (by kernel_rfl) (by kernel_rfl) (by kernel_rfl) (fun _ _ _ h => h) hKept hS (Or.inl ⟨by rfl, ?_⟩) ?_; rotate_left; (intro wS hSw; have hSc := hSw.cell; go_simp; try with_reducible rfl); intro hKept; (try simp only [List.getElem?_toArray, List.getElem?_cons_succ, List.getElem?_cons_zero, List.getElem_toArray, List.getElem_cons_succ, List.getElem_cons_zero, Act.put, List.setIfInBounds_toArray, List.set_cons_zero, List.set_cons_succ])
      refine till_one (i := 8) (by simp only [List.getElem?_toArray, List.getElem?_cons_succ, List.getElem?_cons_zero]; rfl) (by kernel_rfl) hKept ?_; intro K hK; rw [if_pos (by rfl)]
      go_simp
      refine hK.out _ _ (fun h => absurd rfl h) ?_
      intro _ _
      refine till_done (by kernel_rfl) ?_ _
      have HS := Aside.mk (HA4.out.set 13 (.slice av (k + 1) cv))
      go_wp2
      go_roundw
      case rel =>
        refine ⟨k + 1, av, cv, by omega, by go_num, ⟨?_⟩, ⟨HS.out.1⟩, ⟨HZ4.out.grown HS.out.2 (by simp)⟩, ⟨?_⟩⟩
        · refine OwnR.keep (base := w.heap.size + 2) ⟨vs ++ [.slice a2 (blankRow W).length c2], ?_, ?_⟩ HS.out.2 (by intro j hj hk; omega)
          · rw [List.length_replicate]; exact HO4.out
          · rw [List.replicate_succ']
            have e2 : Ext wr (w2.alloc (.cells #[.slice a2 (blankRow W).length c2] 51)) := HX2.out.alloc _
            exact (HV2.out.imp fun a b hab => (hab.ext e2).grown (own_ext HV1.out e2) HG4.out).snoc (((HO2.out.ext (Ext.alloc1 _ _)).grown (own_ext HV1.out e2) HG4.out).mono (by have := HA.out.lt; simp; omega))
        · exact ((HE.out.trans (HX2.out.alloc _)).of_grown HG4.out (fun j hj => by have := own_base HV1.out j hj; omega)).of_grown HS.out.2 (by intro k hk; cases hk; omega)
      case measure => simp [intOf]; omega
    · go_wp2_with (first
        | (refine atLoad 31 (.tmp 5) rfl ?_; refine wpList_load_row rfl 31 (.tmp 5) rfl (w.heap.size + 1) rfl 31 _ (0, 0) _ HA.out Try.underlying31 rfl size31 ?_)
        | (refine atStore 31 (.tmp 4) (.tmp 30) rfl ?_; refine wpList_store_box _ rfl 31 (.tmp 4) (.tmp 30) rfl w.heap.size _ rfl rfl 31 _ HZ.out size31 rfl rfl ?_; intro w9 hbz hgz; have HZ9 := Aside.mk hbz; have HG9 := Aside.mk hgz; clear hgz hbz))
      refine bodyPost_ret (results_cell_row Try.results15 _ _ w.heap.size 31 _ (0, 0) _ rfl HZ9.out Try.underlying31 rfl size31) rfl ?_
      have hkH : k = H.toNat := by omega
      rw [HNG.out]
      have hr := HO.out.box HZ.out HG9.out
      have hlb : (blankRows W H).length = k := by unfold blankRows; rw [List.length_replicate, hkH]
      have hrr : OwnR w9 w.heap.size (.slice ao (blankRows W H).length co) (blankRows W H) := by
        rw [hlb]
        unfold blankRows
        rw [← hkH]
        exact hr.mono (by omega)
      refine ⟨_, ao, co, none, 0, by simp only [hlb]; rfl, ⟨rfl⟩, ⟨hrr⟩, ⟨OwnR.nil _ _⟩, ⟨by intro k _ h; cases h⟩, ⟨HE.out.of_grown HG9.out (by intro k hk; cases hk; omega)⟩⟩
end Go.Proofs.Ytmehkikkjebnnaa
