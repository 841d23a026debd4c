/-
  Walks: math/bits.Mul at small numbers, slices.Repeat over one cell, rows.Blank.
-/
import Derived.Test.YtmehkikkjebnnaaRowsA
import Derived.Test.YtmehkikkjebnnaaMem2
import Derived.Laws.MathBits
set_option linter.unusedVariables false
set_option linter.unusedSimpArgs false
namespace Go.Proofs.Ytmehkikkjebnnaa
open Go.RowKit

theorem and_small (k : Nat) (hk : k ≤ 1000) : bits BinOp.and .u64 (k : Int) 4294967295 = (k : Int) := by
  rw [and_low32 _ (by omega) (by omega)]; omega
theorem and_one_low : bits BinOp.and .u64 1 4294967295 = 1 := by rw [and_low32 _ (by omega) (by omega)]; rfl

set_option maxRecDepth 100000 in
theorem mul64_one (k : Nat) (hk : k ≤ 1000) (w : World) :
    Calls Try.prog 147 #[.int .u64 1, .int .u64 (k : Int)] w fun e w' => e = .returned (.tuple #[.int .u64 0, .int .u64 (k : Int)]) ∧ w = w' := by
  have e1 := and_small k hk
  have e2 := and_one_low
  have e3 : bits BinOp.and .u64 0 4294967295 = 0 := and_small 0 (by omega)
  have e4 : (k : Int) / 4294967296 = 0 := by omega
  go_enter Try.func147, Try.ntmps147
  go_wp2
  go_ret2
  exact ⟨rfl, rfl⟩
theorem mul_one (k : Nat) (hk : k ≤ 1000) (w : World) :
    Calls Try.prog 143 #[.int .u64 1, .int .u64 (k : Int)] w fun e w' => e = .returned (.tuple #[.int .u64 0, .int .u64 (k : Int)]) ∧ w = w' := by
  go_enter Try.func143, Try.ntmps143
  go_wp2_with (go_at_call 147; refine (mul64_one k hk _).mono ?_; rintro e w' ⟨rfl, rfl⟩)
  go_ret2
  exact ⟨rfl, rfl⟩

theorem flatC_replicate (c : Cell) : ∀ n, flatC (List.replicate n c) = (List.replicate n (cellV c)).flatten
  | 0 => rfl
  | n + 1 => by rw [List.replicate_succ, List.replicate_succ, List.flatten_cons, ← flatC_replicate c n]; rfl

def zeroC : Cell := ⟨0, 0⟩
theorem made_cells (n : Nat) : (madeCells (Value.agg #[.int .i32 0, .int .i64 0]).cells (n * 2)).toList = flatC (List.replicate n zeroC) := by
  apply List.ext_getElem?
  intro j
  simp only [madeCells, Array.toList_map, Array.toList_range, List.getElem?_map]
  by_cases hj : j < n * 2
  · rw [List.getElem?_range hj, Option.map_some]
    have hi : j / 2 < (List.replicate n zeroC).length := by rw [List.length_replicate]; omega
    have hd : (List.replicate n zeroC).getD (j / 2) default = zeroC := by
      rw [List.getD_eq_getElem?_getD, List.getElem?_replicate, if_pos (by omega)]; rfl
    have hg := flatC_get (List.replicate n zeroC) (j / 2) hi
    rw [hd] at hg
    rcases Nat.mod_two_eq_zero_or_one j with h0 | h1
    · rw [show 2 * (j / 2) = j from by omega] at hg
      rw [hg.1]
      simp [Value.cells, h0]
      rfl
    · rw [show 2 * (j / 2) + 1 = j from by omega] at hg
      rw [hg.2]
      simp [Value.cells, h1]
      rfl
  · rw [List.getElem?_eq_none (by simp; omega), List.getElem?_eq_none (by rw [flatC_length, List.length_replicate]; omega)]
    rfl

set_option maxRecDepth 100000 in
theorem repeat_cells (v : Value) (c : Cell) (k : Nat) (w : World) (h : CellsAt w v [c]) (hk : k ≤ 1000) :
    Calls Try.prog 132 #[v, .int .i64 (k : Int)] w (MadeC w (List.replicate k c)) := by
  obtain ⟨a, cp, hv, hc, hm⟩ := h.slice
  have H := Aside.mk h
  clear h
  subst hv
  obtain ⟨i0, hi, hz0, hz1, hz2⟩ := info_parts info53
  have hi' := Aside.mk hi
  clear hi
  go_enter Try.func132, Try.ntmps132
  go_wp2_with (first
    | (go_at_call 143; refine (mul_one k hk _).mono ?_; rintro e w' ⟨rfl, rfl⟩)
    | (at_make; refine wpList_make_full _ rfl _ _ 51 rfl w.heap.size 53 i0 (.agg #[.int .i32 0, .int .i64 0]) 2 Try.underlying51 hi'.out hz0 hz1 _ _ _ _ k rfl rfl rfl rfl (by rw [hz2]; omega) (by unfold maxLen; omega) (Nat.le_refl _) ?_; intro w1 hown1 hg1; rw [made_cells] at hown1; have HO := Aside.mk hown1; have HG := Aside.mk hg1; clear hown1 hg1; have HE1 := Aside.mk ((Ext.refl w).of_grown HG.out (by intro k hk; cases hk)))
    | (refine wpList_copy_holds _ rfl (.tmp 31) (.tmp 32) 51 51 rfl 53 i0 2 Try.underlying51 hi'.out hz1 w.heap.size w.heap.size k k _ 53 HO.out _ _ _ 0 rfl (fun _ => rfl) (by omega) _ 1 _ rfl (H.out.ext HE1.out) (min 1 k) rfl ?_; intro w2 hown2 hg2; have HO2 := Aside.mk hown2; have HG2 := Aside.mk hg2; clear hown2 hg2 HO))
  go_loopw [8] (fun nn wr => ∃ m : Nat, m ≤ k ∧ (0 < k → 0 < m) ∧ nn = .int .i64 m ∧ Aside (wr.ownsRow w.heap.size 53 2 (.slice (some ⟨w.heap.size, 0, none⟩) k k) k (flatC (List.replicate m c ++ List.replicate (k - m) zeroC))) ∧ Aside (Ext w wr)) (fun nn _ => k - (intOf nn).toNat)
  case atStart =>
    refine ⟨min 1 k, by omega, by omega, ?_, ⟨?_⟩, ⟨HE1.out.of_grown HG2.out (by intro j hj; cases hj; exact Nat.le_refl _)⟩⟩
    · simp [goInt]
    · have := HO2.out
      rcases Nat.eq_zero_or_pos k with h0 | h0
      · subst h0; exact this
      · rw [show min 1 k = 1 from by omega] at this ⊢
        obtain ⟨k', rfl⟩ : ∃ k', k = k' + 1 := ⟨k - 1, by omega⟩
        exact this
  case round =>
    obtain ⟨m, hmk, hm0, rfl, HO3, HE3⟩ := hrel
    by_cases hlt : m < k
    · have hne : ¬ (k = m) := by omega
      have hmp := hm0 (by omega)
      have hsrc := Holds.pre (Holds.of_own HO3.out (flatC_one _)) m (by omega)
      have HS := Aside.mk hsrc
      clear hsrc
      obtain ⟨q, hq⟩ : ∃ q, Nat.min m (k - m) = q := ⟨_, rfl⟩
      have hq1 : q ≤ k - m := by have : min m (k - m) = q := hq; omega
      have hq2 : q ≤ m := by have : min m (k - m) = q := hq; omega
      have hq3 : 0 < q := by have : min m (k - m) = q := hq; omega
      have HQ := Aside.mk hq
      clear hq
      go_wp2
      have hw : IntKind.i64.wrap ((m : Int) + (q : Int)) = (m : Int) + (q : Int) := IntWalk.i64_in _ (by omega)
      go_region_held3 (fun _ => True) (trivial) ((refine step_copy_holds _ (by rfl) (.tmp 41) (.tmp 44) 51 51 (by rfl) 53 i0 2 Try.underlying51 hi'.out hz1 w.heap.size w.heap.size k k _ 53 (own_ext HO3.out (Ext.refl _).drew) _ _ _ m (by rfl) (fun _ => rfl) (by omega) _ m _ (by rfl) (HS.out.ext (Ext.refl _).drew) q HQ.out ?_; intro w4 hown4 hg4; have HO4 := Aside.mk hown4; have HG4 := Aside.mk hg4; clear hown4 hg4))
      go_wp2
      go_roundw
      case rel =>
        refine ⟨m + q, by omega, by omega, by go_num, ⟨?_⟩, ⟨(HE3.out.drew).of_grown HG4.out (by intro j hj; cases hj; exact Nat.le_refl _)⟩⟩
        have := HO4.out
        have e1 : laid (flatC (List.replicate m c ++ List.replicate (k - m) zeroC)) (m * 2) (List.take (q * 2) (List.take (m * 2) (flatC (List.replicate m c ++ List.replicate (k - m) zeroC)))) = flatC (List.replicate (m + q) c ++ List.replicate (k - (m + q)) zeroC) := by
          have hl : (flatC (List.replicate m c)).length = m * 2 := by rw [flatC_length, List.length_replicate]
          have hql : (List.take (q * 2) (flatC (List.replicate m c))) = flatC (List.replicate q c) := by
            rw [Nat.mul_comm, ← flatC_take, List.take_replicate, Nat.min_eq_left hq2]
          have hzl : (flatC (List.replicate (k - m) zeroC)).drop (q * 2) = flatC (List.replicate (k - (m + q)) zeroC) := by
            rw [Nat.mul_comm, ← flatC_drop, List.drop_replicate]; congr 2; omega
          unfold laid
          rw [flatC_append, List.take_left' hl, hql, flatC_length, List.length_replicate, List.drop_append, hl, List.drop_eq_nil_of_le (by rw [hl]; omega), List.nil_append, show m * 2 + q * 2 - m * 2 = q * 2 from by omega, hzl]
          rw [← flatC_append, ← flatC_append, ← List.append_assoc, List.replicate_append_replicate]
        rw [e1] at this
        exact this
      case measure => simp [intOf]; omega
    · go_wp2
      go_ret
      have hmk' : m = k := by omega
      have := HO3.out
      rw [hmk', Nat.sub_self, List.replicate_zero, List.append_nil] at this
      refine ⟨some ⟨w.heap.size, 0, none⟩, k, ?_, ?_, HE3.out⟩
      · rw [List.length_replicate]; rfl
      · unfold OwnC
        rw [List.length_replicate]
        exact this
theorem repeat_int (v : Value) (c : Cell) (n : Int) (w : World) (h : CellsAt w v [c]) (h0 : 0 ≤ n) (h1 : n ≤ 1000) :
    Calls Try.prog 132 #[v, .int .i64 n] w (MadeC w (List.replicate n.toNat c)) := by
  obtain ⟨k, rfl⟩ := Int.eq_ofNat_of_zero_le h0
  exact repeat_cells v c k w h (by omega)
end Go.Proofs.Ytmehkikkjebnnaa
