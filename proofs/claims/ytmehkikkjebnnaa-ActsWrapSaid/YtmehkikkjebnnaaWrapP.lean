/-
  The plain law of ActsWrap: what signs that come one behind the other leave on a screen. By the kernel, case by case. No program in sight.
-/
import Derived.Test.YtmehkikkjebnnaaPureH
set_option linter.unusedVariables false
set_option linter.unusedSimpArgs false
namespace Go.Proofs.Ytmehkikkjebnnaa

def wantB (W H : Int) (wrap : Bool) (n : Int) (g : Grid) : Bool :=
  if wrap then
    let lines := max ((n + W - 1) / W) 1
    let top := max (lines - H) 0
    g.Y == min lines H - 1 && (g.Back.length : Int) == min (max (lines - H) 0) 50 && g.Wrap == (decide (0 < n) && n % W == 0) && (g.Rows.length : Int) == H &&
      (List.range H.toNat).all fun y => (List.range W.toNat).all fun x => (((g.Rows.getD y []).getD x default).R == if (top + y) * W + x < n then 65 + ((top + y) * W + x) else 32)
  else g.Y == 0 && g.X == min n (W - 1) && !g.Wrap && g.Back.isEmpty && (g.Rows.length : Int) == H && (decide (n < W) || ((g.Rows.getD 0 []).getD (W - 1).toNat default).R == 65 + n - 1)
def wrapChk (W H : Int) (wrap : Bool) : Nat → Int → Grid → Bool
  | 0, n, g => wantB W H wrap n g
  | k + 1, n, g => wantB W H wrap n g && wrapChk W H wrap k (n + 1) (applyG g 1 (65 + n) [])
def wrG (W H : Int) (wrap : Bool) : Nat → Grid
  | 0 => { newG W H with NoWrap := !wrap }
  | k + 1 => applyG (wrG W H wrap k) 1 (65 + (k : Int)) []
def wrapAll (wrap : Bool) : Bool := (List.range 8).all fun w => (List.range 4).all fun h => wrapChk ((w : Int) + 1) ((h : Int) + 1) wrap 63 0 (wrG ((w : Int) + 1) ((h : Int) + 1) wrap 0)
theorem wrapAll_true : wrapAll true = true := by decide +kernel
theorem wrapAll_false : wrapAll false = true := by decide +kernel

theorem wrapChk_at (W H : Int) (wrap : Bool) : ∀ (k n : Nat), wrapChk W H wrap k (n : Int) (wrG W H wrap n) = true → ∀ j, j ≤ k → wantB W H wrap ((n + j : Nat) : Int) (wrG W H wrap (n + j)) = true := by
  intro k
  induction k with
  | zero =>
    intro n h j hj
    obtain rfl : j = 0 := by omega
    exact h
  | succ k ih =>
    intro n h j hj
    unfold wrapChk at h
    rw [Bool.and_eq_true] at h
    cases j with
    | zero => exact h.1
    | succ j =>
      have h2 := ih (n + 1) h.2 j (by omega)
      rw [show n + (j + 1) = n + 1 + j from by omega]
      exact h2
theorem wrap_law (W H : Int) (wrap : Bool) (n : Nat) (hW : 1 ≤ W ∧ W ≤ 8) (hH : 1 ≤ H ∧ H ≤ 4) (hn : n ≤ 63) : wantB W H wrap n (wrG W H wrap n) = true := by
  have ha : wrapAll wrap = true := by cases wrap; exact wrapAll_false; exact wrapAll_true
  unfold wrapAll at ha
  have h1 := List.all_eq_true.1 ha (W - 1).toNat (List.mem_range.2 (by omega))
  have h2 := List.all_eq_true.1 h1 (H - 1).toNat (List.mem_range.2 (by omega))
  rw [show (((W - 1).toNat : Nat) : Int) + 1 = W from by omega, show (((H - 1).toNat : Nat) : Int) + 1 = H from by omega] at h2
  have h3 := wrapChk_at W H wrap 63 0 h2 n hn
  rw [Nat.zero_add] at h3
  exact h3
theorem wrG_wf (W H : Int) (wrap : Bool) : ∀ n, WFG (wrG W H wrap n)
  | 0 => by
    have h := newG_wf W H
    exact ⟨h.W, h.H, h.X, h.Y, h.SX, h.SY, h.T, h.rows, h.wide, h.back, h.far⟩
  | n + 1 => applyG_wf (wrG_wf W H wrap n) _ _ _

/-- What the walk asks, without wrapping. -/
theorem wrap_no (W H : Int) (n : Nat) (hW : 1 ≤ W ∧ W ≤ 8) (hH : 1 ≤ H ∧ H ≤ 4) (hn : n ≤ 63) (g : Grid) (hg : g = wrG W H false n) :
    g.Y = 0 ∧ g.X = min (n : Int) (W - 1) ∧ g.Wrap = false ∧ g.Back.length = 0 ∧ (g.Rows.length : Int) = H ∧ (¬ (n : Int) < W → ((g.Rows.getD 0 []).getD (W - 1).toNat default).R = 65 + (n : Int) - 1) := by
  have h := wrap_law W H false n hW hH hn
  rw [← hg] at h
  simp [wantB] at h
  obtain ⟨⟨⟨⟨⟨h1, h2⟩, h3⟩, h4⟩, h5⟩, h6⟩ := h
  refine ⟨h1, h2, h3, by rw [h4]; rfl, h5, fun hc => ?_⟩
  rcases h6 with h6 | h6
  · exact absurd h6 hc
  · simpa using h6
theorem wrap_yes (W H : Int) (n : Nat) (hW : 1 ≤ W ∧ W ≤ 8) (hH : 1 ≤ H ∧ H ≤ 4) (hn : n ≤ 63) (g : Grid) (hg : g = wrG W H true n) (Q : Int) (hQ : (n + W - 1) / W = Q) :
    g.Y = min (max Q 1) H - 1 ∧ (g.Back.length : Int) = min (max (max Q 1 - H) 0) 50 ∧ g.Wrap = (decide (0 < (n : Int)) && (n : Int) % W == 0) ∧ (g.Rows.length : Int) = H ∧
      ∀ y x : Nat, (y : Int) < H → (x : Int) < W → ((g.Rows.getD y []).getD x default).R = if (max (max Q 1 - H) 0 + y) * W + x < n then 65 + ((max (max Q 1 - H) 0 + y) * W + x) else 32 := by
  have h := wrap_law W H true n hW hH hn
  rw [← hg] at h
  unfold wantB at h
  rw [if_pos rfl] at h
  simp only [Bool.and_eq_true, hQ, beq_iff_eq, List.all_eq_true, List.mem_range] at h
  obtain ⟨⟨⟨⟨h1, h2⟩, h3⟩, h4⟩, h5⟩ := h
  exact ⟨h1, h2, h3, h4, fun y x hy hx => h5 y (by omega) x (by omega)⟩
end Go.Proofs.Ytmehkikkjebnnaa
