/-
  The plain law of ActsRegions, by the kernel, case by case. No program in sight.
-/
import Derived.Test.YtmehkikkjebnnaaPureH
set_option linter.unusedVariables false
set_option linter.unusedSimpArgs false
namespace Go.Proofs.Ytmehkikkjebnnaa

/-- The screen of six rows, the first k of them lettered. -/
def ro (k : Nat) : List (List Cell) := (List.range 6).map fun i => [⟨if i < k then 97 + (i : Int) else 32, 0⟩]
def rgG (k : Nat) : Grid := ⟨1, 6, 0, 0, false, 0, 0, 5, 0, 0, 0, false, false, ro k, []⟩
theorem rg_new : newG 1 6 = rgG 0 := by decide
theorem ro_at (k : Nat) (h : k < 6) : (ro k)[k]? = some [⟨32, 0⟩] := by
  have : ∀ k : Fin 6, (ro k.val)[k.val]? = some [⟨32, 0⟩] := by decide
  exact this ⟨k, h⟩
theorem ro_set (k : Nat) (h : k < 6) : (ro k).set k [⟨97 + (k : Int), 0⟩] = ro (k + 1) := by
  have : ∀ k : Fin 6, (ro k.val).set k.val [⟨97 + (k.val : Int), 0⟩] = ro (k.val + 1) := by decide
  exact this ⟨k, h⟩
theorem ro_length (k : Nat) : (ro k).length = 6 := by simp [ro]
theorem rg_wf : WFG (rgG 6) := by
  have h := newG_wf 1 6
  rw [rg_new] at h
  refine ⟨h.W, h.H, h.X, h.Y, h.SX, h.SY, h.T, ?_, ?_, h.back, h.far⟩
  · decide
  · intro r hr
    have : ∀ r ∈ ro 6, (r.length : Int) = 1 := by decide
    exact this r hr
def rg2 (t b : Int) : Grid := applyG (rgG 6) 4 114 [t + 1, b + 1]
def rg3 (t b : Int) (down : Bool) : Grid := applyG (rg2 t b) 4 100 [(if down then t else b) + 1]
def rgN (t b : Int) (down : Bool) : Nat → Grid
  | 0 => rg3 t b down
  | k + 1 => applyG (rgN t b down k) 3 (if down then 77 else 68) []
def regWant (t b n : Int) (down : Bool) (y : Int) : Int :=
  if t ≤ y ∧ y ≤ b then (if t ≤ (if down then y - n else y + n) ∧ (if down then y - n else y + n) ≤ b then 97 + (if down then y - n else y + n) else 32) else 97 + y
def regOk (t b n : Nat) (down : Bool) (g : Grid) : Bool :=
  g.W == 1 && g.Y == (if down then (t : Int) else (b : Int)) && g.Rows.length == 6 &&
    ((List.range 6).all fun y => ((g.Rows.getD y []).getD 0 default).R == regWant t b n down y) &&
    (decide (0 < t) || down || g.Back.length == n) && (decide (t = 0) && !down || g.Back.length == 0)
def regOk2 (t b : Nat) : Bool := (rg2 t b).Top == (t : Int) && (rg2 t b).Bottom == (b : Int) && (rg2 t b).X == 0 && (rg2 t b).Y == 0
def regAll (down : Bool) : Bool := (List.range 6).all fun t => (List.range 6).all fun b => !decide (t < b) || (regOk2 t b && (List.range 9).all fun n => decide (n = 0) || regOk t b n down (rgN t b down n))
theorem regAll_t : regAll true = true := by decide +kernel
theorem regAll_f : regAll false = true := by decide +kernel
theorem reg_law (t b n : Nat) (down : Bool) (htb : t < b) (hb : b < 6) (hn : 1 ≤ n ∧ n ≤ 8) : regOk2 t b = true ∧ regOk t b n down (rgN t b down n) = true := by
  have ha : regAll down = true := by cases down; exact regAll_f; exact regAll_t
  unfold regAll at ha
  have h1 := List.all_eq_true.1 ha t (List.mem_range.2 (by omega))
  have h2 := List.all_eq_true.1 h1 b (List.mem_range.2 hb)
  rw [decide_eq_true htb, Bool.not_true, Bool.false_or, Bool.and_eq_true] at h2
  have h3 := List.all_eq_true.1 h2.2 n (List.mem_range.2 (by omega))
  rw [decide_eq_false (by omega), Bool.false_or] at h3
  exact ⟨h2.1, h3⟩
theorem rg2_wf (t b : Int) : WFG (rg2 t b) := applyG_wf rg_wf _ _ _
theorem rg3_wf (t b : Int) (down : Bool) : WFG (rg3 t b down) := applyG_wf (rg2_wf t b) _ _ _
theorem rgN_wf (t b : Int) (down : Bool) : ∀ n, WFG (rgN t b down n)
  | 0 => rg3_wf t b down
  | n + 1 => applyG_wf (rgN_wf t b down n) _ _ _
theorem reg_facts (t b n : Nat) (down : Bool) (htb : t < b) (hb : b < 6) (hn : 1 ≤ n ∧ n ≤ 8) (g : Grid) (hg : g = rgN t b down n) :
    g.W = 1 ∧ g.Y = (if down then (t : Int) else (b : Int)) ∧ g.Rows.length = 6 ∧ (∀ y : Nat, y < 6 → ((g.Rows.getD y []).getD 0 default).R = regWant t b n down y) ∧
      (t = 0 → down = false → g.Back.length = n) ∧ (¬ (t = 0 ∧ down = false) → g.Back.length = 0) := by
  have h := (reg_law t b n down htb hb hn).2
  rw [← hg] at h
  unfold regOk at h
  simp only [Bool.and_eq_true, beq_iff_eq, List.all_eq_true, List.mem_range, Bool.or_eq_true, decide_eq_true_eq] at h
  obtain ⟨⟨⟨⟨⟨h1, h2⟩, h3⟩, h4⟩, h5⟩, h6⟩ := h
  refine ⟨h1, h2, h3, h4, fun ht hd => ?_, fun hc => ?_⟩
  · rcases h5 with (h5 | h5) | h5
    · omega
    · rw [hd] at h5; cases h5
    · exact h5
  · rcases h6 with h6 | h6
    · exfalso
      refine hc ⟨h6.1, ?_⟩
      have := h6.2
      cases down <;> simp_all
    · exact h6
end Go.Proofs.Ytmehkikkjebnnaa
