/-
  Walks: rows.Blank, rows.Put, rows.Clear, rows.Insert, rows.Delete.
-/
import Derived.Test.YtmehkikkjebnnaaRowsB
import Derived.Test.YtmehkikkjebnnaaPure
set_option linter.unusedVariables false
set_option linter.unusedSimpArgs false
namespace Go.Proofs.Ytmehkikkjebnnaa
open Go.RowKit
attribute [local go_sem] max2_i min2_i max_two min_two

theorem blank_any (w : World) : Calls Try.prog 113 #[] w fun e w' => e = .returned (.agg #[.int .i32 32, .int .i64 0]) ∧ Ext w w' := by
  go_enter Try.func113, Try.ntmps113
  go_wp2
  refine bodyPost_ret (v := .agg #[.int .i32 32, .int .i64 0]) (by simp [results, Try.results113, go_sem]) rfl ⟨rfl, ?_⟩
  exact Ext.alloc1 _ _

theorem in_any (a : Option Addr) (n c : Nat) (x : Int) (w : World) : Calls Try.prog 109 #[.slice a n c, .int .i64 x] w fun e w' => e = .returned (.bool (decide (0 ≤ x) && decide (x < n))) ∧ w = w' := by
  by_cases h : 0 ≤ x
  · have hb : decide (0 ≤ x) = true := by simpa using h
    go_enter Try.func109, Try.ntmps109
    go_wp2
    go_ret
    exact ⟨by rw [hb]; rfl, rfl⟩
  · have hb : decide (0 ≤ x) = false := by simpa using h
    go_enter Try.func109, Try.ntmps109
    go_wp2
    go_ret
    exact ⟨by simp only [Ending.returned.injEq]; rfl, rfl⟩

theorem Blank_any (x : Int) (w : World) : Calls Try.prog 111 #[.int .i64 x] w (MadeC w (blankRow x)) := by
  go_enter Try.func111, Try.ntmps111
  go_wp2_with (first
    | (go_at_call 113; refine (blank_any _).mono ?_; rintro e w1 ⟨rfl, he1⟩; have HE1 := Aside.mk he1; clear he1)
    | (go_at_call 132; refine (repeat_int _ blankC _ _ (Holds.newN _ _ 2 1 (flatC [blankC]) rfl (by omega) (flatC_one _)) (by omega) (by omega)).mono ?_; rintro e w2 ⟨a, c, rfl, ho, he2⟩; have HO := Aside.mk ho; have HE2 := Aside.mk he2; clear ho he2))
  go_ret
  have hx : Ext w (w1.alloc (.cells (flatC [blankC]).toArray 53)) := HE1.out.trans (Ext.alloc1 _ _)
  exact ⟨a, c, (by simp only [blankRow, List.length_replicate]; rfl), HO.out.mono hx.size, hx.trans HE2.out⟩

/-- A store into a row of the call's own, one cell of it. -/
theorem OwnC.set {w : World} {base g n c : Nat} {l : List Cell} (h : OwnC w base (.slice (some ⟨g, 0, none⟩) n c) l) (hn : n = l.length) (i : Nat) (x : Cell) :
    OwnC ((w.setCell ⟨g, i * 2, none⟩ (.int .i32 x.R)).setCell ⟨g, i * 2 + 1, none⟩ (.int .i64 x.A)) base (.slice (some ⟨g, 0, none⟩) n c) (l.set i x) := by
  subst hn
  have h1 := (World.ownsRow.stored h (2 * i) (.int .i32 x.R)).1
  have h2 := (World.ownsRow.stored h1 (2 * i + 1) (.int .i64 x.A)).1
  rw [flatC_set] at h2
  unfold OwnC
  rw [List.length_set, Nat.mul_comm i 2]
  exact h2
theorem OwnC.head {w : World} {base n c : Nat} {a : Option Addr} {l : List Cell} (h : OwnC w base (.slice a n c) l) (hp : 0 < l.length) : ∃ g, a = some ⟨g, 0, none⟩ ∧ base ≤ g ∧ g < w.heap.size := by
  rcases h.2 with ⟨h1, h2⟩ | ⟨g, cap, cur, h1, hb, hg, _⟩
  · omega
  · injection h1 with e1 _ _
    exact ⟨g, e1, hb, (Array.getElem?_eq_some_iff.1 hg).1⟩
theorem OwnC.cells {w : World} {base g n c : Nat} {l : List Cell} (h : OwnC w base (.slice (some ⟨g, 0, none⟩) n c) l) (hn : n = l.length) (i : Nat) (hi : i < l.length) :
    w.cell? ⟨g, i * 2, none⟩ = some (.int .i32 (l.getD i default).R) ∧ w.cell? ⟨g, i * 2 + 1, none⟩ = some (.int .i64 (l.getD i default).A) ∧ w.frozen? ⟨g, i * 2, none⟩ = false ∧ w.frozen? ⟨g, i * 2 + 1, none⟩ = false := by
  subst hn
  rw [Nat.mul_comm i 2]
  have := flatC_get l i hi
  refine ⟨?_, ?_, World.ownsRow.frozenAt h _, World.ownsRow.frozenAt h _⟩
  · rw [World.ownsRow.cellAt h _ (by omega), this.1]
  · rw [World.ownsRow.cellAt h _ (by omega), this.2]

theorem Put_any (v : Value) (l : List Cell) (x : Int) (c : Cell) (w : World) (h : CellsAt w v l) (hl : l.length ≤ 1000000) :
    Calls Try.prog 58 #[v, .int .i64 x, .agg #[.int .i32 c.R, .int .i64 c.A]] w (MadeC w (putC l x c)) := by
  obtain ⟨a, cp, hv, hc, hm⟩ := h.slice
  have H := Aside.mk h
  clear h
  subst hv
  by_cases hx : 0 ≤ x ∧ x < l.length
  · have hb : (decide (0 ≤ x) && decide (x < (l.length : Int))) = true := by simpa using hx
    obtain ⟨hx0, hx1⟩ := hx
    go_enter Try.func58, Try.ntmps58
    go_wp2_with (first
      | (go_at_call 108; refine (clone_cells _ _ _ (H.out.ext (Ext.alloc1 _ _)) hl).mono ?_; rintro e w1 ⟨a1, c1, rfl, ho, he1⟩; have HO := Aside.mk ho; have HE1 := Aside.mk he1; clear ho he1; have hcb := HE1.out.cell (a := ⟨w.heap.size, 0, none⟩) (v := .int .i32 c.R) (by simp); have hcb2 := HE1.out.cell (a := ⟨w.heap.size, 1, none⟩) (v := .int .i64 c.A) (by simp); obtain ⟨g, hg, hgb, hgs⟩ := HO.out.head (by omega); subst hg; obtain ⟨k1, k2, k3, k4⟩ := HO.out.cells rfl x.toNat (by omega))
      | (go_at_call 109; refine (in_any _ _ _ _ _).mono ?_; rintro e w2 ⟨rfl, rfl⟩))
    go_ret
    have hp : putC l x c = l.set x.toNat c := by unfold putC; rw [if_pos ⟨hx0, hx1⟩]
    refine ⟨some ⟨g, 0, none⟩, c1, by rw [hp, List.length_set]; rfl, ?_, ?_⟩
    · rw [hp, List.length_set]
      exact (HO.out.set rfl x.toNat c).mono (by simp)
    · have hg : w.heap.size ≤ g := by simp at hgb; omega
      exact (((Ext.alloc1 _ _).trans HE1.out).setCell hg _).setCell hg _
  · have hb : (decide (0 ≤ x) && decide (x < (l.length : Int))) = false := by simp; omega
    go_enter Try.func58, Try.ntmps58
    go_wp2_with (first
      | (go_at_call 108; refine (clone_cells _ _ _ (H.out.ext (Ext.alloc1 _ _)) hl).mono ?_; rintro e w1 ⟨a1, c1, rfl, ho, he1⟩; have HO := Aside.mk ho; have HE1 := Aside.mk he1; clear ho he1)
      | (go_at_call 109; refine (in_any _ _ _ _ _).mono ?_; rintro e w2 ⟨rfl, rfl⟩))
    go_ret
    have hp : putC l x c = l := by unfold putC; rw [if_neg hx]
    refine ⟨a1, c1, by rw [hp]; rfl, ?_, ?_⟩
    · rw [hp]
      exact HO.out.mono (by simp)
    · exact (Ext.alloc1 _ _).trans HE1.out

set_option maxRecDepth 100000 in
theorem Clear_any (v : Value) (l : List Cell) (x y : Int) (w : World) (h : CellsAt w v l) (hl : l.length ≤ 1000000) :
    Calls Try.prog 70 #[v, .int .i64 x, .int .i64 y] w (MadeC w (clearC l x y)) := by
  obtain ⟨a, cp, hv, hc, hm⟩ := h.slice
  have H := Aside.mk h
  clear h
  subst hv
  go_enter Try.func70, Try.ntmps70
  go_wp2_with (first
    | (go_at_call 108; refine (clone_cells _ _ _ H.out hl).mono ?_; rintro e w1 ⟨a1, c1, rfl, ho, he1⟩; have HO := Aside.mk ho; have HE1 := Aside.mk he1; clear ho he1))
  go_loopw [8] (fun i wr => ∃ k : Int, max x 0 ≤ k ∧ (k ≤ max (max x 0) (min y l.length)) ∧ i = .int .i64 k ∧ Aside (OwnC wr w.heap.size (.slice a1 l.length c1) (clearC l (max x 0) k)) ∧ Aside (Ext w wr)) (fun i _ => (min y l.length - intOf i).toNat)
  case atStart => exact ⟨max x 0, by omega, by omega, rfl, ⟨by rw [clearC_nil _ _ _ (by omega)]; exact HO.out⟩, ⟨HE1.out⟩⟩
  case round =>
    obtain ⟨k, hk0, hk1, rfl, HO2, HE2⟩ := hrel
    by_cases hlt : k < min y l.length
    · obtain ⟨g, hg, hgb, hgs⟩ := HO2.out.head (by rw [clearC_length]; omega)
      subst hg
      go_wp2_with (go_at_call 113; refine (blank_any _).mono ?_; rintro e w3 ⟨rfl, he3⟩; have HE3 := Aside.mk he3; clear he3; obtain ⟨k1, k2, k3, k4⟩ := (HO2.out.ext HE3.out).cells (by rw [clearC_length]) k.toNat (by rw [clearC_length]; omega))
      go_roundw
      case rel =>
        refine ⟨k + 1, by omega, by omega, by go_num, ⟨?_⟩, ⟨((HE2.out.trans HE3.out).setCell hgb _).setCell hgb _⟩⟩
        have := (HO2.out.ext HE3.out).set (by rw [clearC_length]) k.toNat blankC
        rw [clearC_step _ _ _ hk0 (by omega)] at this
        exact this
      case measure => simp [intOf]; omega
    · go_wp2
      go_ret
      have e1 : clearC l (max x 0) k = clearC l x y := clearC_bounds _ _ _ _ _ (fun i hi => by omega)
      refine ⟨a1, c1, by rw [clearC_length]; rfl, ?_, HE2.out⟩
      rw [clearC_length, ← e1]
      exact HO2.out
end Go.Proofs.Ytmehkikkjebnnaa
