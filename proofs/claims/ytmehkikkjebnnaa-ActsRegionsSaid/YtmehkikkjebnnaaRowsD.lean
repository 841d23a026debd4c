/-
  Walks: rows.Insert, rows.Delete.
-/
import Derived.Test.YtmehkikkjebnnaaRowsC
set_option linter.unusedVariables false
set_option linter.unusedSimpArgs false
namespace Go.Proofs.Ytmehkikkjebnnaa
open Go.RowKit
attribute [local go_sem] max2_i min2_i max_two min_two

theorem OwnC.cap {w : World} {base n c : Nat} {a : Option Addr} {l : List Cell} (h : OwnC w base (.slice a n c) l) : l.length ≤ c := by
  rcases h.2 with ⟨h1, h2⟩ | ⟨g, cap, cur, h1, hb, hg, hc, _⟩
  · omega
  · injection h1 with _ _ e3
    omega
theorem CellsAt.addr {w : World} {a : Option Addr} {n c : Nat} {l : List Cell} (h : CellsAt w (.slice a n c) l) (hp : 0 < l.length) : ∃ b o, a = some ⟨b, o, none⟩ := by
  obtain ⟨b, o, e, _⟩ := h.at_ 0 hp
  exact ⟨b, o, e⟩

theorem laid_flat (l m : List Cell) (i k : Nat) (hi : i + k ≤ l.length) (hk : k ≤ m.length) : laid (flatC l) (i * 2) ((flatC m).take (k * 2)) = flatC (l.take i ++ (m.take k ++ l.drop (i + k))) := by
  unfold laid
  rw [flatC_append, flatC_append, flatC_take, flatC_take, flatC_drop, List.length_take, flatC_length, Nat.mul_comm 2 i, Nat.mul_comm 2 k]
  congr 3
  omega

theorem insert_plain (l : List Cell) (X N : Nat) (h : X + N ≤ l.length) :
    clearC (l.take (X + N) ++ ((l.drop X).take (l.length - X - N) ++ l.drop (X + N + (l.length - X - N)))) X ((X : Int) + N) = l.take X ++ (List.replicate N blankC ++ (l.drop X).take (l.length - X - N)) := by
  rw [List.drop_eq_nil_of_le (show l.length ≤ X + N + (l.length - X - N) from by omega), List.append_nil]
  unfold clearC
  apply List.ext_getElem?
  intro i
  rw [List.getElem?_mapIdx]
  have e1 : min (X + N) l.length = X + N := by omega
  have e2 : min X l.length = X := by omega
  simp only [List.getElem?_append, List.getElem?_take, List.getElem?_drop, List.length_take, List.length_replicate, List.getElem?_replicate, e1, e2]
  by_cases h1 : i < X
  · rw [if_pos (by omega), if_pos (by omega), if_pos (by omega), if_pos (by omega), List.getElem?_eq_getElem (by omega), Option.map_some, if_neg (by omega)]
  · by_cases h2 : i < X + N
    · rw [if_pos (by omega), if_pos (by omega), if_neg (by omega), if_pos (by omega), if_pos (by omega), List.getElem?_eq_getElem (by omega), Option.map_some, if_pos (by omega)]
    · rw [if_neg (show ¬ i < X + N from h2), if_neg h1, if_neg (show ¬ i - X < N from by omega), show i - (X + N) = i - X - N from by omega]
      by_cases h3 : i - X - N < l.length - X - N
      · rw [if_pos h3, List.getElem?_eq_getElem (by omega), Option.map_some, if_neg (by omega)]
      · rw [if_neg h3]; rfl

set_option maxRecDepth 100000 in
theorem Insert_any (v : Value) (l : List Cell) (x n : Int) (w : World) (h : CellsAt w v l) (hl : l.length ≤ 1000000) :
    Calls Try.prog 66 #[v, .int .i64 x, .int .i64 n] w (MadeC w (insertC l x n)) := by
  obtain ⟨a, cp, hv, hc, hm⟩ := h.slice
  have H := Aside.mk h
  clear h
  subst hv
  obtain ⟨i0, hi, hz0, hz1, hz2⟩ := info_parts info53
  have hi' := Aside.mk hi
  clear hi
  by_cases hx : 0 ≤ x ∧ x < l.length
  · have hb : (decide (0 ≤ x) && decide (x < (l.length : Int))) = true := by simpa using hx
    obtain ⟨hx0, hx1⟩ := hx
    obtain ⟨X, rfl⟩ := Int.eq_ofNat_of_zero_le hx0
    obtain ⟨N, hN⟩ := Int.eq_ofNat_of_zero_le (show 0 ≤ min (max n 0) ((l.length : Int) - (X : Int)) from by omega)
    have hXN : X + N ≤ l.length := by omega
    have hXl : X < l.length := by omega
    obtain ⟨b, o, rfl⟩ := H.out.addr (by omega)
    have hcX : ¬ (cp = X) := by omega
    have hs := Holds.suf H.out X (by omega)
    rw [show (flatC l).drop (X * 2) = flatC (l.drop X) from by rw [flatC_drop, Nat.mul_comm]] at hs
    have HS := Aside.mk hs
    clear hs
    have hfin : insertC l X n = clearC (l.take (X + N) ++ ((l.drop X).take (l.length - X - N) ++ l.drop (X + N + (l.length - X - N)))) X ((X : Int) + N) := by
      rw [insert_plain l X N hXN]
      unfold insertC
      rw [if_pos ⟨hx0, hx1⟩, hN, Int.toNat_natCast, Int.toNat_natCast]
    have HF := Aside.mk hfin
    clear hfin
    obtain ⟨q, hq⟩ : ∃ q, Nat.min (l.length - X) (l.length - (X + N)) = q := ⟨_, rfl⟩
    have hq1 : q = l.length - X - N := by have : min (l.length - X) (l.length - (X + N)) = q := hq; omega
    have HQ := Aside.mk hq
    have HQ1 := Aside.mk hq1
    have hlaid := laid_flat l (l.drop X) (X + N) (l.length - X - N) (by omega) (by rw [List.length_drop]; omega)
    have HL := Aside.mk hlaid
    clear hq hq1 hlaid
    go_enter Try.func66, Try.ntmps66
    go_wp2_with (first
      | (go_at_call 108; refine (clone_cells _ _ _ H.out hl).mono ?_; rintro e w1 ⟨a1, c1, rfl, ho, he1⟩; have HO := Aside.mk ho; have HE1 := Aside.mk he1; clear ho he1; have hcc := HO.out.cap; obtain ⟨g, hg, hgb, hgs⟩ := HO.out.head (by omega); subst hg)
      | (go_at_call 109; refine (in_any _ _ _ _ _).mono ?_; rintro e w2 ⟨rfl, rfl⟩))
    have hw : IntKind.i64.wrap ((X : Int) + (N : Int)) = (X : Int) + (N : Int) := IntWalk.i64_in _ (by omega)
    have hX0 : (0 : Int) ≤ (X : Int) := by omega
    have hX1 : (X : Int) ≤ (l.length : Int) := by omega
    have hb1 : (0 : Int) ≤ (X : Int) + (N : Int) := by omega
    have hb2 : (X : Int) + (N : Int) ≤ (l.length : Int) := by omega
    have hb3 : ((X : Int) + (N : Int)).toNat = X + N := by omega
    by_cases hc1 : c1 = X + N
    · subst hc1
      go_region_held3 (fun _ => True) (trivial) ((refine step_copy_holds _ (by rfl) (.tmp 26) (.tmp 29) 51 51 (by rfl) 53 i0 2 Try.underlying51 hi'.out hz1 w.heap.size g l.length (X + N) _ 53 (own_ext HO.out (Ext.refl _).drew) _ _ _ (X + N) (by rfl) (fun _ => by omega) (by omega) _ _ _ (by rfl) (HS.out.ext (HE1.out.drew)) q (by have h0 : min (l.length - X) (l.length - (X + N)) = q := HQ.out; show min _ _ = q; omega) ?_; intro w4 hown4 hg4; have HO4 := Aside.mk hown4; have HG4 := Aside.mk hg4; clear hown4 hg4))
      have HC : Aside (OwnC w4 w.heap.size (.slice (some ⟨g, 0, none⟩) l.length (X + N)) (l.take (X + N) ++ ((l.drop X).take (l.length - X - N) ++ l.drop (X + N + (l.length - X - N))))) := by
        have h1 := HO4.out
        replace h1 : w4.ownsRow w.heap.size 53 2 (.slice (some ⟨g, 0, none⟩) l.length (X + N)) l.length (laid (flatC l) ((X + N) * 2) (List.take (q * 2) (flatC (l.drop X)))) := by first | exact h1 | (rw [show q = 0 from by have h0 := HQ1.out; omega] at h1 ⊢; simpa using h1)
        rw [HQ1.out, HL.out] at h1
        refine ⟨?_⟩
        unfold OwnC
        rw [show ((l.take (X + N) ++ ((l.drop X).take (l.length - X - N) ++ l.drop (X + N + (l.length - X - N))))).length = l.length from by simp only [List.length_append, List.length_take, List.length_drop]; omega]
        exact h1
      have HLn : Aside (((l.take (X + N) ++ ((l.drop X).take (l.length - X - N) ++ l.drop (X + N + (l.length - X - N))))).length = l.length) := ⟨by simp only [List.length_append, List.length_take, List.length_drop]; omega⟩
      have HB := Aside.mk (HE1.out.drew.of_grown HG4.out (by intro j hj; cases hj; exact hgb))
      go_wp2_with (go_at_call 70; refine (Clear_any _ ((l.take (X + N) ++ ((l.drop X).take (l.length - X - N) ++ l.drop (X + N + (l.length - X - N))))) _ _ _ HC.out.at_ (by rw [HLn.out]; exact hl)).mono ?_; rintro e w5 ⟨a5, c5, rfl, ho5, he5⟩; have HO5 := Aside.mk ho5; have HE5 := Aside.mk he5; clear ho5 he5)
      go_ret
      refine ⟨a5, c5, ?_, ?_, HB.out.trans HE5.out⟩
      · rw [HF.out]; rfl
      · rw [HF.out]; exact HO5.out.mono HB.out.size
    ·
      go_region_held3 (fun _ => True) (trivial) ((refine step_copy_holds _ (by rfl) (.tmp 26) (.tmp 29) 51 51 (by rfl) 53 i0 2 Try.underlying51 hi'.out hz1 w.heap.size g l.length c1 _ 53 (own_ext HO.out (Ext.refl _).drew) _ _ _ (X + N) (by rfl) (fun _ => rfl) (by omega) _ _ _ (by rfl) (HS.out.ext (HE1.out.drew)) q (by have h0 : min (l.length - X) (l.length - (X + N)) = q := HQ.out; show min _ _ = q; omega) ?_; intro w4 hown4 hg4; have HO4 := Aside.mk hown4; have HG4 := Aside.mk hg4; clear hown4 hg4))
      have HC : Aside (OwnC w4 w.heap.size (.slice (some ⟨g, 0, none⟩) l.length c1) (l.take (X + N) ++ ((l.drop X).take (l.length - X - N) ++ l.drop (X + N + (l.length - X - N))))) := by
        have h1 := HO4.out
        replace h1 : w4.ownsRow w.heap.size 53 2 (.slice (some ⟨g, 0, none⟩) l.length c1) l.length (laid (flatC l) ((X + N) * 2) (List.take (q * 2) (flatC (l.drop X)))) := by first | exact h1 | (rw [show q = 0 from by have h0 := HQ1.out; omega] at h1 ⊢; simpa using h1)
        rw [HQ1.out, HL.out] at h1
        refine ⟨?_⟩
        unfold OwnC
        rw [show ((l.take (X + N) ++ ((l.drop X).take (l.length - X - N) ++ l.drop (X + N + (l.length - X - N))))).length = l.length from by simp only [List.length_append, List.length_take, List.length_drop]; omega]
        exact h1
      have HLn : Aside (((l.take (X + N) ++ ((l.drop X).take (l.length - X - N) ++ l.drop (X + N + (l.length - X - N))))).length = l.length) := ⟨by simp only [List.length_append, List.length_take, List.length_drop]; omega⟩
      have HB := Aside.mk (HE1.out.drew.of_grown HG4.out (by intro j hj; cases hj; exact hgb))
      go_wp2_with (go_at_call 70; refine (Clear_any _ ((l.take (X + N) ++ ((l.drop X).take (l.length - X - N) ++ l.drop (X + N + (l.length - X - N))))) _ _ _ HC.out.at_ (by rw [HLn.out]; exact hl)).mono ?_; rintro e w5 ⟨a5, c5, rfl, ho5, he5⟩; have HO5 := Aside.mk ho5; have HE5 := Aside.mk he5; clear ho5 he5)
      go_ret
      refine ⟨a5, c5, ?_, ?_, HB.out.trans HE5.out⟩
      · rw [HF.out]; rfl
      · rw [HF.out]; exact HO5.out.mono HB.out.size
  · have hb : (decide (0 ≤ x) && decide (x < (l.length : Int))) = false := by simp; omega
    go_enter Try.func66, Try.ntmps66
    go_wp2_with (first
      | (go_at_call 108; refine (clone_cells _ _ _ H.out hl).mono ?_; rintro e w1 ⟨a1, c1, rfl, ho, he1⟩; have HO := Aside.mk ho; have HE1 := Aside.mk he1; clear ho he1)
      | (go_at_call 109; refine (in_any _ _ _ _ _).mono ?_; rintro e w2 ⟨rfl, rfl⟩))
    go_ret
    have hp : insertC l x n = l := by unfold insertC; rw [if_neg hx]
    exact ⟨a1, c1, by rw [hp]; rfl, by rw [hp]; exact HO.out, HE1.out⟩

theorem delete_plain (l : List Cell) (X N : Nat) (h : X + N ≤ l.length) :
    clearC (l.take X ++ ((l.drop (X + N)).take (l.length - X - N) ++ l.drop (X + (l.length - X - N)))) ((l.length : Int) - (N : Int)) (l.length : Int) = l.take X ++ (l.drop (X + N) ++ List.replicate N blankC) := by
  unfold clearC
  apply List.ext_getElem?
  intro i
  rw [List.getElem?_mapIdx]
  have e1 : min X l.length = X := by omega
  have e2 : min (l.length - X - N) (l.length - (X + N)) = l.length - X - N := by omega
  simp only [List.getElem?_append, List.getElem?_take, List.getElem?_drop, List.length_take, List.length_replicate, List.getElem?_replicate, List.length_drop, e1, e2]
  by_cases h1 : i < X
  · simp only [if_pos h1]
    rw [List.getElem?_eq_getElem (by omega), Option.map_some, if_neg (by omega)]
  · rw [if_neg h1, if_neg h1]
    by_cases h2 : i - X < l.length - X - N
    · rw [if_pos h2, if_pos h2, if_pos (by omega), List.getElem?_eq_getElem (by omega), Option.map_some, if_neg (by omega)]
    · rw [if_neg h2, if_neg (by omega)]
      by_cases h3 : i < l.length
      · rw [if_pos (by omega), List.getElem?_eq_getElem (by omega), Option.map_some, if_pos (by omega)]
      · rw [if_neg (by omega), List.getElem?_eq_none (by omega)]; rfl

set_option maxRecDepth 100000 in
theorem Delete_any (v : Value) (l : List Cell) (x n : Int) (w : World) (h : CellsAt w v l) (hl : l.length ≤ 1000000) :
    Calls Try.prog 68 #[v, .int .i64 x, .int .i64 n] w (MadeC w (deleteC l x n)) := by
  obtain ⟨a, cp, hv, hc, hm⟩ := h.slice
  have H := Aside.mk h
  clear h
  subst hv
  obtain ⟨i0, hi, hz0, hz1, hz2⟩ := info_parts info53
  have hi' := Aside.mk hi
  clear hi
  by_cases hx : 0 ≤ x ∧ x < l.length
  · have hb : (decide (0 ≤ x) && decide (x < (l.length : Int))) = true := by simpa using hx
    obtain ⟨hx0, hx1⟩ := hx
    obtain ⟨X, rfl⟩ := Int.eq_ofNat_of_zero_le hx0
    obtain ⟨N, hN⟩ := Int.eq_ofNat_of_zero_le (show 0 ≤ min (max n 0) ((l.length : Int) - (X : Int)) from by omega)
    have hXN : X + N ≤ l.length := by omega
    have hXl : X < l.length := by omega
    obtain ⟨b, o, rfl⟩ := H.out.addr (by omega)
    have hs := Holds.suf H.out (X + N) (by omega)
    rw [show (flatC l).drop ((X + N) * 2) = flatC (l.drop (X + N)) from by rw [flatC_drop, Nat.mul_comm]] at hs
    have HS := Aside.mk hs
    have HZ := Aside.mk (Holds.zero w 2 (some ⟨b, o, none⟩) 0 (by unfold maxLen; omega))
    clear hs
    have hfin : deleteC l X n = clearC (l.take X ++ ((l.drop (X + N)).take (l.length - X - N) ++ l.drop (X + (l.length - X - N)))) ((l.length : Int) - (N : Int)) (l.length : Int) := by
      rw [delete_plain l X N hXN]
      unfold deleteC
      rw [if_pos ⟨hx0, hx1⟩, hN, Int.toNat_natCast, Int.toNat_natCast]
    have HF := Aside.mk hfin
    clear hfin
    obtain ⟨q, hq⟩ : ∃ q, Nat.min (l.length - (X + N)) (l.length - X) = q := ⟨_, rfl⟩
    have hq1 : q = l.length - X - N := by have : min (l.length - (X + N)) (l.length - X) = q := hq; omega
    have HQ := Aside.mk hq
    have HQ1 := Aside.mk hq1
    have hlaid := laid_flat l (l.drop (X + N)) X (l.length - X - N) (by omega) (by rw [List.length_drop]; omega)
    have HL := Aside.mk hlaid
    clear hq hq1 hlaid
    go_enter Try.func68, Try.ntmps68
    go_wp2_with (first
      | (go_at_call 108; refine (clone_cells _ _ _ H.out hl).mono ?_; rintro e w1 ⟨a1, c1, rfl, ho, he1⟩; have HO := Aside.mk ho; have HE1 := Aside.mk he1; clear ho he1; have hcc := HO.out.cap; obtain ⟨g, hg, hgb, hgs⟩ := HO.out.head (by omega); subst hg)
      | (go_at_call 109; refine (in_any _ _ _ _ _).mono ?_; rintro e w2 ⟨rfl, rfl⟩))
    have hw : IntKind.i64.wrap ((X : Int) + (N : Int)) = (X : Int) + (N : Int) := IntWalk.i64_in _ (by omega)
    have hX0 : (0 : Int) ≤ (X : Int) := by omega
    have hX1 : (X : Int) ≤ (l.length : Int) := by omega
    have hb1 : (0 : Int) ≤ (X : Int) + (N : Int) := by omega
    have hb2 : (X : Int) + (N : Int) ≤ (l.length : Int) := by omega
    have hb3 : ((X : Int) + (N : Int)).toNat = X + N := by omega
    have hcX : ¬ (c1 = X) := by omega
    by_cases hc1 : cp = X + N
    · subst hc1
      go_region_held3 (fun _ => True) (trivial) ((refine step_copy_holds _ (by rfl) (.tmp 24) (.tmp 29) 51 51 (by rfl) 53 i0 2 Try.underlying51 hi'.out hz1 w.heap.size g l.length c1 _ 53 (own_ext HO.out (Ext.refl _).drew) _ _ _ X (by rfl) (fun _ => rfl) (by omega) _ _ _ (by rfl) (HZ.out.ext (HE1.out.drew)) q (by have h0 : min (l.length - (X + N)) (l.length - X) = q := HQ.out; show min _ _ = q; omega) ?_; intro w4 hown4 hg4; have HO4 := Aside.mk hown4; have HG4 := Aside.mk hg4; clear hown4 hg4))
      have HC : Aside (OwnC w4 w.heap.size (.slice (some ⟨g, 0, none⟩) l.length c1) (l.take X ++ ((l.drop (X + N)).take (l.length - X - N) ++ l.drop (X + (l.length - X - N))))) := by
        have h1 := HO4.out
        replace h1 : w4.ownsRow w.heap.size 53 2 (.slice (some ⟨g, 0, none⟩) l.length c1) l.length (laid (flatC l) (X * 2) (List.take (q * 2) (flatC (l.drop (X + N))))) := by first | exact h1 | (rw [show q = 0 from by have h0 := HQ1.out; omega] at h1 ⊢; simpa using h1)
        rw [HQ1.out, HL.out] at h1
        refine ⟨?_⟩
        unfold OwnC
        rw [show ((l.take X ++ ((l.drop (X + N)).take (l.length - X - N) ++ l.drop (X + (l.length - X - N))))).length = l.length from by simp only [List.length_append, List.length_take, List.length_drop]; omega]
        exact h1
      have HLn : Aside (((l.take X ++ ((l.drop (X + N)).take (l.length - X - N) ++ l.drop (X + (l.length - X - N))))).length = l.length) := ⟨by simp only [List.length_append, List.length_take, List.length_drop]; omega⟩
      have HB := Aside.mk (HE1.out.drew.of_grown HG4.out (by intro j hj; cases hj; exact hgb))
      go_wp2_with (go_at_call 70; refine (Clear_any _ ((l.take X ++ ((l.drop (X + N)).take (l.length - X - N) ++ l.drop (X + (l.length - X - N))))) _ _ _ HC.out.at_ (by rw [HLn.out]; exact hl)).mono ?_; rintro e w5 ⟨a5, c5, rfl, ho5, he5⟩; have HO5 := Aside.mk ho5; have HE5 := Aside.mk he5; clear ho5 he5)
      go_ret
      refine ⟨a5, c5, ?_, ?_, HB.out.trans HE5.out⟩
      · rw [HF.out]; rfl
      · rw [HF.out]; exact HO5.out.mono HB.out.size
    ·
      go_region_held3 (fun _ => True) (trivial) ((refine step_copy_holds _ (by rfl) (.tmp 24) (.tmp 29) 51 51 (by rfl) 53 i0 2 Try.underlying51 hi'.out hz1 w.heap.size g l.length c1 _ 53 (own_ext HO.out (Ext.refl _).drew) _ _ _ X (by rfl) (fun _ => rfl) (by omega) _ _ _ (by rfl) (HS.out.ext (HE1.out.drew)) q (by have h0 : min (l.length - (X + N)) (l.length - X) = q := HQ.out; show min _ _ = q; omega) ?_; intro w4 hown4 hg4; have HO4 := Aside.mk hown4; have HG4 := Aside.mk hg4; clear hown4 hg4))
      have HC : Aside (OwnC w4 w.heap.size (.slice (some ⟨g, 0, none⟩) l.length c1) (l.take X ++ ((l.drop (X + N)).take (l.length - X - N) ++ l.drop (X + (l.length - X - N))))) := by
        have h1 := HO4.out
        replace h1 : w4.ownsRow w.heap.size 53 2 (.slice (some ⟨g, 0, none⟩) l.length c1) l.length (laid (flatC l) (X * 2) (List.take (q * 2) (flatC (l.drop (X + N))))) := by first | exact h1 | (rw [show q = 0 from by have h0 := HQ1.out; omega] at h1 ⊢; simpa using h1)
        rw [HQ1.out, HL.out] at h1
        refine ⟨?_⟩
        unfold OwnC
        rw [show ((l.take X ++ ((l.drop (X + N)).take (l.length - X - N) ++ l.drop (X + (l.length - X - N))))).length = l.length from by simp only [List.length_append, List.length_take, List.length_drop]; omega]
        exact h1
      have HLn : Aside (((l.take X ++ ((l.drop (X + N)).take (l.length - X - N) ++ l.drop (X + (l.length - X - N))))).length = l.length) := ⟨by simp only [List.length_append, List.length_take, List.length_drop]; omega⟩
      have HB := Aside.mk (HE1.out.drew.of_grown HG4.out (by intro j hj; cases hj; exact hgb))
      go_wp2_with (go_at_call 70; refine (Clear_any _ ((l.take X ++ ((l.drop (X + N)).take (l.length - X - N) ++ l.drop (X + (l.length - X - N))))) _ _ _ HC.out.at_ (by rw [HLn.out]; exact hl)).mono ?_; rintro e w5 ⟨a5, c5, rfl, ho5, he5⟩; have HO5 := Aside.mk ho5; have HE5 := Aside.mk he5; clear ho5 he5)
      go_ret
      refine ⟨a5, c5, ?_, ?_, HB.out.trans HE5.out⟩
      · rw [HF.out]; rfl
      · rw [HF.out]; exact HO5.out.mono HB.out.size
  · have hb : (decide (0 ≤ x) && decide (x < (l.length : Int))) = false := by simp; omega
    go_enter Try.func68, Try.ntmps68
    go_wp2_with (first
      | (go_at_call 108; refine (clone_cells _ _ _ H.out hl).mono ?_; rintro e w1 ⟨a1, c1, rfl, ho, he1⟩; have HO := Aside.mk ho; have HE1 := Aside.mk he1; clear ho he1)
      | (go_at_call 109; refine (in_any _ _ _ _ _).mono ?_; rintro e w2 ⟨rfl, rfl⟩))
    go_ret
    have hp : deleteC l x n = l := by unfold deleteC; rw [if_neg hx]
    exact ⟨a1, c1, by rw [hp]; rfl, by rw [hp]; exact HO.out, HE1.out⟩
end Go.Proofs.Ytmehkikkjebnnaa
