/-
  Walks: the document's own answer for rows and screens (polyptychref4): held.
-/
import Derived.Test.YtmehkikkjebnnaaPureH
set_option linter.unusedVariables false
set_option linter.unusedSimpArgs false
namespace Go.Proofs.Ytmehkikkjebnnaa
open Go.RowKit
attribute [local go_sem] max2_i min2_i max_two min_two
attribute [local go_sem ↓] Go.wp_at_zero Go.wp_at_succ

theorem sheld_any (n lo hi : Int) (w : World) : Calls Try.prog 31 #[.int .i64 n, .int .i64 lo, .int .i64 hi] w fun e w' => e = .returned (.int .i64 (min (max n lo) hi)) ∧ w = w' := by
  go_enter Try.func31, Try.ntmps31
  go_wp2
  go_ret
  exact ⟨rfl, rfl⟩

theorem sheld_eq (n lo hi N : Int) (w : World) (hN : N = min (max n lo) hi) : Calls Try.prog 31 #[.int .i64 n, .int .i64 lo, .int .i64 hi] w fun e w' => e = .returned (.int .i64 N) ∧ w = w' := hN ▸ sheld_any n lo hi w
set_option maxRecDepth 100000 in
set_option maxHeartbeats 1000000 in
theorem sBlank_any (x : Int) (w : World) : Calls Try.prog 32 #[.int .i64 x] w (MadeC w (blankRow x)) := by
  obtain ⟨i0, hi, hz0, hz1, hz2⟩ := info_parts info53
  have hi' := Aside.mk hi
  clear hi
  obtain ⟨n, hn⟩ := Int.eq_ofNat_of_zero_le (show 0 ≤ min (max x 0) 1000 from by omega)
  have hn1 : n ≤ 1000 := by omega
  have hb : blankRow x = List.replicate n blankC := by unfold blankRow; rw [hn, Int.toNat_natCast]
  rw [hb]
  have HN := Aside.mk hn
  clear hn hb
  go_enter Try.func32, Try.ntmps32
  go_wp2_with (first
    | (go_at_call 31; refine (sheld_eq x 0 1000 n _ HN.out.symm).mono ?_; rintro e w1 ⟨rfl, rfl⟩)
    | (at_make; refine wpList_make_full _ rfl _ _ 51 rfl w.heap.size 53 i0 (.agg #[.int .i32 0, .int .i64 0]) 2 Try.underlying51 hi'.out hz0 hz1 _ _ _ _ n rfl rfl rfl rfl (by rw [hz2]; omega) (by unfold maxLen; omega) (Nat.le_refl _) ?_; intro w2 ho hg; rw [made_cells] at ho; have HO := Aside.mk ho; have HG := Aside.mk hg; clear ho hg))
  go_loopw [4] (fun i wr => ∃ k : Nat, k ≤ n ∧ i = .int .i64 k ∧ Aside (OwnC wr w.heap.size (.slice (some ⟨w.heap.size, 0, none⟩) n n) (clearC (List.replicate n zeroC) 0 k)) ∧ Aside (Ext w wr)) (fun i _ => n - (intOf i).toNat)
  case atStart => exact ⟨0, by omega, rfl, ⟨by rw [clearC_nil _ _ _ (by omega)]; unfold OwnC; rw [List.length_replicate]; exact HO.out⟩, ⟨(Ext.refl w).of_grown HG.out (by intro k hk; cases hk)⟩⟩
  case round =>
    obtain ⟨k, hk, rfl, HO2, HE2⟩ := hrel
    have hlen : (clearC (List.replicate n zeroC) 0 k).length = n := by rw [clearC_length, List.length_replicate]
    by_cases hlt : k < n
    · obtain ⟨k1, k2, k3, k4⟩ := HO2.out.cells hlen.symm k (by rw [hlen]; exact hlt)
      go_wp2
      go_roundw
      case rel =>
        refine ⟨k + 1, by omega, by go_num, ⟨?_⟩, ⟨(HE2.out.setCell (Nat.le_refl _) _).setCell (Nat.le_refl _) _⟩⟩
        have := HO2.out.set hlen.symm k blankC
        rw [show ((k + 1 : Nat) : Int) = (k : Int) + 1 from by omega, ← clearC_step _ _ _ (by omega) (by omega), Int.toNat_natCast]
        exact this
      case measure => simp [intOf]; omega
    · go_wp2
      go_ret
      have hkn : k = n := by omega
      subst hkn
      have e1 : clearC (List.replicate k zeroC) 0 k = List.replicate k blankC := by
        unfold clearC
        apply List.ext_getElem?
        intro i
        rw [List.getElem?_mapIdx, List.getElem?_replicate, List.getElem?_replicate]
        by_cases hi : i < k
        · rw [if_pos hi, if_pos hi, Option.map_some, if_pos (by omega)]
        · rw [if_neg hi, if_neg hi]; rfl
      refine ⟨some ⟨w.heap.size, 0, none⟩, k, by rw [List.length_replicate]; rfl, ?_, HE2.out⟩
      rw [List.length_replicate]
      have := HO2.out
      rw [e1] at this
      exact this
end Go.Proofs.Ytmehkikkjebnnaa
