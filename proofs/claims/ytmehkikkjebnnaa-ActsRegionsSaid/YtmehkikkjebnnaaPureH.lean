/-
  Whatever an action asks keeps a screen whole. No program in sight.
-/
import Derived.Test.YtmehkikkjebnnaaActM
set_option linter.unusedVariables false
set_option linter.unusedSimpArgs false
namespace Go.Proofs.Ytmehkikkjebnnaa

theorem rowG_wf {g : Grid} (h : WFG g) (l : List Int) : WFG (rowG g l) := turnG_wf h fun r => clearC_length _ _ _
theorem screenG_wf {g : Grid} (h : WFG g) (l : List Int) : WFG (screenG g l) := by
  unfold screenG
  simp only
  split
  · exact rowG_wf (h.wiped _ _ _) l
  · exact rowG_wf h l
theorem regionG_wf {g : Grid} (h : WFG g) (l : List Int) : WFG (regionG g l) := by
  unfold regionG
  simp only
  split
  · exact h
  · rename_i hc
    have hH := h.H
    have hm : WFG { g with Top := heldY g (parOf l 0 1 - 1), Bottom := heldY g (parOf l 1 g.H - 1) } := by
      refine ⟨h.W, h.H, h.X, h.Y, h.SX, h.SY, ?_, h.rows, h.wide, h.back, h.far⟩
      unfold heldY at hc ⊢
      simp only
      omega
    exact moveG_wf hm 0 0
theorem jumpG_wf {g : Grid} (h : WFG g) (r : Int) (l : List Int) : WFG (jumpG g r l).1 := by
  unfold jumpG
  simp only
  repeat' split
  all_goals first | exact moveG_wf h _ _ | exact h
theorem WFG.back_of {g : Grid} (h : WFG g) (bs : List (List Cell)) (h1 : bs.length ≤ 200) (h2 : ∀ r ∈ bs, r.length ≤ 1000) : WFG { g with Back := bs } := ⟨h.W, h.H, h.X, h.Y, h.SX, h.SY, h.T, h.rows, h.wide, h1, h2⟩
theorem betweenG_wf {g : Grid} (h : WFG g) (r : Int) (l : List Int) : WFG (betweenG g r l) := by
  unfold betweenG
  split
  · exact h
  · simp only
    split
    · exact moveG_wf ((downG_wf h _ _ _).back_of _ h.back h.far) _ _
    · exact moveG_wf ((upG_wf h _ _ _).back_of _ h.back h.far) _ _
theorem privOne_wf {g : Grid} (h : WFG g) (r n : Int) : WFG (privOne r g n) := by
  unfold privOne
  split
  · exact ⟨h.W, h.H, h.X, h.Y, h.SX, h.SY, h.T, h.rows, h.wide, h.back, h.far⟩
  · split
    · exact ⟨h.W, h.H, h.X, h.Y, h.SX, h.SY, h.T, h.rows, h.wide, h.back, h.far⟩
    · exact h
theorem privFold_wf (r : Int) (l : List Int) : ∀ {g : Grid}, WFG g → WFG (l.foldl (privOne r) g) := by
  induction l with
  | nil => intro g h; exact h
  | cons n l ih => intro g h; exact ih (privOne_wf h r n)
theorem privG_wf {g : Grid} (h : WFG g) (r : Int) (l : List Int) : WFG (privG g r l) := by
  unfold privG
  split
  · exact privFold_wf r l h
  · exact h
theorem WFG.attr {g : Grid} (h : WFG g) (a : Int) : WFG { g with A := a } := ⟨h.W, h.H, h.X, h.Y, h.SX, h.SY, h.T, h.rows, h.wide, h.back, h.far⟩
theorem longG_wf {g : Grid} (h : WFG g) (r : Int) (l : List Int) : WFG (longG g r l) := by
  unfold longG
  simp only
  split
  · exact screenG_wf h l
  split
  · exact rowG_wf h l
  split
  · exact betweenG_wf h r l
  split
  · exact turnG_wf h fun l => insertC_length _ _ _
  split
  · exact turnG_wf h fun l => deleteC_length _ _ _
  split
  · exact turnG_wf h fun l => clearC_length _ _ _
  split
  · exact upG_wf h _ _ _
  split
  · exact downG_wf h _ _ _
  split
  · exact regionG_wf h l
  split
  · exact h.attr _
  · exact jumpG_wf h r l
theorem controlG_wf {g : Grid} (h : WFG g) (r : Int) : WFG (controlG g r) := by
  unfold controlG
  split
  · exact moveG_wf h _ _
  split
  · exact moveG_wf h _ _
  split
  · exact moveG_wf (lineG_wf h) _ _
  split
  · exact moveG_wf h _ _
  · exact h
theorem newG_wf (w h : Int) : WFG (newG w h) := by
  refine ⟨?_, ?_, ?_, ?_, ?_, ?_, ?_, ?_, ?_, ?_, ?_⟩
  all_goals simp only [newG]
  · omega
  · omega
  · omega
  · omega
  · omega
  · omega
  · omega
  · simp [blankRows]; omega
  · intro r hr
    unfold blankRows at hr
    rw [List.eq_of_mem_replicate hr, blankRow_length]
    omega
  · simp
  · intro r hr
    cases hr
theorem escapeG_wf {g : Grid} (h : WFG g) (r : Int) : WFG (escapeG g r) := by
  unfold escapeG
  split
  · exact moveG_wf (lineG_wf h) _ _
  split
  · exact moveG_wf (backG_wf h) _ _
  split
  · exact moveG_wf (lineG_wf h) _ _
  split
  · exact ⟨h.W, h.H, h.X, h.Y, h.X, h.Y, h.T, h.rows, h.wide, h.back, h.far⟩
  split
  · exact moveG_wf (h.attr _) _ _
  split
  · exact (newG_wf g.W g.H).back_of _ h.back h.far
  · exact h
theorem putTail_wf {g : Grid} (h : WFG g) (x : Int) (c : Cell) : WFG (let g2 := turnG g (fun row => putC row x c); if g2.X ≥ g2.W - 1 then { g2 with Wrap := !g2.NoWrap } else { g2 with X := g2.X + 1 }) := by
  have h2 := turnG_wf h (f := fun row => putC row x c) (fun l => putC_length l _ _)
  simp only
  split
  · exact h2.wrap _
  · rename_i hc
    refine ⟨h2.W, h2.H, ?_, h2.Y, h2.SX, h2.SY, h2.T, h2.rows, h2.wide, h2.back, h2.far⟩
    have := h2.X
    simp only
    omega
theorem putG_wf {g : Grid} (h : WFG g) (r : Int) : WFG (putG g r) := by
  have h1 : WFG { (if g.Wrap then lineG { g with X := 0 } else g) with Wrap := false } := by
    by_cases hw : g.Wrap = true
    · rw [if_pos hw]
      exact (lineG_wf h.x0).wrap false
    · rw [if_neg hw]
      exact h.wrap false
  exact putTail_wf h1 _ _
theorem applyG_wf {g : Grid} (h : WFG g) (k r : Int) (l : List Int) : WFG (applyG g k r l) := by
  unfold applyG
  split
  · exact putG_wf h r
  split
  · exact controlG_wf h r
  split
  · exact escapeG_wf h r
  split
  · exact longG_wf h r l
  split
  · exact privG_wf h r l
  · exact h
end Go.Proofs.Ytmehkikkjebnnaa
