/-
  What is done to a screen keeps it whole. No program in sight.
-/
import Derived.Test.YtmehkikkjebnnaaActB
set_option linter.unusedVariables false
set_option linter.unusedSimpArgs false
namespace Go.Proofs.Ytmehkikkjebnnaa

theorem blankRow_length (W : Int) : (blankRow W).length = (min (max W 0) 1000).toNat := by simp [blankRow]
theorem mem_upRows {g : Grid} {T B N : Nat} {r : List Cell} (h : r ∈ upRows g T B N) : r ∈ g.Rows ∨ r = blankRow g.W := by
  unfold upRows at h
  simp only [List.mem_append] at h
  rcases h with h | h | h | h
  · exact .inl (List.mem_of_mem_take h)
  · exact .inl (List.mem_of_mem_drop (List.mem_of_mem_take h))
  · exact .inr (List.eq_of_mem_replicate h)
  · exact .inl (List.mem_of_mem_drop h)
theorem mem_downRows {g : Grid} {T B N : Nat} {r : List Cell} (h : r ∈ downRows g T B N) : r ∈ g.Rows ∨ r = blankRow g.W := by
  unfold downRows at h
  simp only [List.mem_append] at h
  rcases h with h | h | h | h
  · exact .inl (List.mem_of_mem_take h)
  · exact .inr (List.eq_of_mem_replicate h)
  · exact .inl (List.mem_of_mem_drop (List.mem_of_mem_take h))
  · exact .inl (List.mem_of_mem_drop h)
theorem WFG.of_rows {g : Grid} (h : WFG g) (rs bs : List (List Cell)) (h1 : rs.length = g.Rows.length) (h2 : ∀ r ∈ rs, r ∈ g.Rows ∨ r = blankRow g.W) (h3 : bs.length ≤ 200) (h4 : ∀ r ∈ bs, r.length ≤ 1000) : WFG { g with Rows := rs, Back := bs } :=
  ⟨h.W, h.H, h.X, h.Y, h.SX, h.SY, h.T, by show (rs.length : Int) = g.H; rw [h1]; exact h.rows, fun r hr => by
    rcases h2 r hr with h5 | h5
    · exact h.wide r h5
    · rw [h5, blankRow_length]
      have := h.W
      show ((min (max g.W 0) 1000).toNat : Int) = g.W
      omega, h3, h4⟩
theorem lastFifty_length (l : List (List Cell)) : (lastFifty l).length ≤ 50 := by
  unfold lastFifty
  rw [List.length_drop]
  omega
theorem upG_wf {g : Grid} (h : WFG g) (t b n : Int) : WFG (upG g t b n) := by
  unfold upG
  simp only
  split
  · rename_i hc
    refine h.of_rows _ _ (upRows_length _ _ _ _ (by omega) hc.2) (fun r hr => mem_upRows hr) ?_ ?_
    · split
      · have := lastFifty_length (g.Back ++ g.Rows.take (min (max n 0) ((heldY g b).toNat - (heldY g t).toNat + 1)).toNat)
        omega
      · exact h.back
    · intro r hr
      split at hr
      · have := List.mem_of_mem_drop hr
        rw [List.mem_append] at this
        rcases this with h1 | h1
        · exact h.far r h1
        · have := h.wide r (List.mem_of_mem_take h1)
          have := h.W
          omega
      · exact h.far r hr
  · exact h
theorem downG_wf {g : Grid} (h : WFG g) (t b n : Int) : WFG (downG g t b n) := by
  unfold downG
  simp only
  split
  · rename_i hc
    exact h.of_rows _ _ (downRows_length _ _ _ _ (by omega) hc.2) (fun r hr => mem_downRows hr) h.back h.far
  · exact h
theorem moveG_wf {g : Grid} (h : WFG g) (x y : Int) : WFG (moveG g x y) := by
  have hW := h.W
  have hH := h.H
  refine ⟨h.W, h.H, ?_, ?_, h.SX, h.SY, h.T, h.rows, h.wide, h.back, h.far⟩
  · show 0 ≤ heldX g x ∧ heldX g x < g.W
    unfold heldX
    omega
  · show 0 ≤ heldY g y ∧ heldY g y < g.H
    unfold heldY
    omega
theorem lineG_wf {g : Grid} (h : WFG g) : WFG (lineG g) := by
  unfold lineG
  split
  · exact upG_wf h _ _ _
  · split
    · refine ⟨h.W, h.H, h.X, ?_, h.SX, h.SY, h.T, h.rows, h.wide, h.back, h.far⟩
      have := h.Y
      show 0 ≤ g.Y + 1 ∧ g.Y + 1 < g.H
      omega
    · exact h
theorem backG_wf {g : Grid} (h : WFG g) : WFG (backG g) := by
  unfold backG
  split
  · exact downG_wf h _ _ _
  · split
    · refine ⟨h.W, h.H, h.X, ?_, h.SX, h.SY, h.T, h.rows, h.wide, h.back, h.far⟩
      have := h.Y
      show 0 ≤ g.Y - 1 ∧ g.Y - 1 < g.H
      omega
    · exact h
end Go.Proofs.Ytmehkikkjebnnaa
