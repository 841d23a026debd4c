/-
  The plain functions of the screen, as the packages rows, grid, attr, acts compute them. No program, no memory.
-/
import Derived.Test.YtmehkikkjebnnaaVals
set_option linter.unusedVariables false
set_option linter.unusedSimpArgs false
namespace Go.Proofs.Ytmehkikkjebnnaa

/-! ### rows -/
def blankRow (x : Int) : List Cell := List.replicate (min (max x 0) 1000).toNat blankC
def putC (l : List Cell) (x : Int) (c : Cell) : List Cell := if 0 ≤ x ∧ x < l.length then l.set x.toNat c else l
/-- Blank cells from a place to another one. -/
def clearC (l : List Cell) (a b : Int) : List Cell := l.mapIdx fun i c => if a ≤ (i : Int) ∧ (i : Int) < b then blankC else c
def insertC (l : List Cell) (x n : Int) : List Cell :=
  if 0 ≤ x ∧ x < l.length then
    l.take x.toNat ++ (List.replicate (min (max n 0) (l.length - x)).toNat blankC ++ (l.drop x.toNat).take (l.length - x.toNat - (min (max n 0) (l.length - x)).toNat))
  else l
def deleteC (l : List Cell) (x n : Int) : List Cell :=
  if 0 ≤ x ∧ x < l.length then
    l.take x.toNat ++ (l.drop (x.toNat + (min (max n 0) (l.length - x)).toNat) ++ List.replicate (min (max n 0) (l.length - x)).toNat blankC)
  else l
theorem putC_length (l : List Cell) (x : Int) (c : Cell) : (putC l x c).length = l.length := by unfold putC; split <;> simp
theorem clearC_length (l : List Cell) (a b : Int) : (clearC l a b).length = l.length := by simp [clearC]
theorem insertC_length (l : List Cell) (x n : Int) : (insertC l x n).length = l.length := by
  unfold insertC; split
  · simp only [List.length_append, List.length_take, List.length_replicate, List.length_drop]; omega
  · rfl
theorem deleteC_length (l : List Cell) (x n : Int) : (deleteC l x n).length = l.length := by
  unfold deleteC; split
  · simp only [List.length_append, List.length_take, List.length_replicate, List.length_drop]; omega
  · rfl
theorem clearC_nil (l : List Cell) (a b : Int) (h : b ≤ a) : clearC l a b = l := by
  unfold clearC
  apply List.ext_getElem?
  intro i
  rw [List.getElem?_mapIdx]
  cases l[i]? with
  | none => rfl
  | some c => simp; intro h1 h2; omega
theorem clearC_step (l : List Cell) (a b : Int) (h : a ≤ b) (h0 : 0 ≤ b) : (clearC l a b).set b.toNat blankC = clearC l a (b + 1) := by
  unfold clearC
  apply List.ext_getElem?
  intro i
  rw [List.getElem?_set]
  simp only [List.getElem?_mapIdx, List.length_mapIdx]
  by_cases hi : b.toNat = i
  · rw [if_pos hi]
    by_cases hl : i < l.length
    · rw [if_pos (by omega), List.getElem?_eq_getElem hl, Option.map_some, if_pos (by omega)]
    · rw [if_neg (by omega), List.getElem?_eq_none (by omega)]; rfl
  · rw [if_neg hi]
    cases l[i]? with
    | none => rfl
    | some c =>
      simp only [Option.map_some]
      congr 1
      by_cases h2 : a ≤ (i : Int) ∧ (i : Int) < b
      · rw [if_pos h2, if_pos (by omega)]
      · rw [if_neg h2, if_neg (by omega)]
/-- What is cleared hangs on what of the bounds lies in the row. -/
theorem clearC_bounds (l : List Cell) (a b a' b' : Int) (h : ∀ i : Nat, i < l.length → ((a ≤ (i : Int) ∧ (i : Int) < b) ↔ (a' ≤ (i : Int) ∧ (i : Int) < b'))) : clearC l a b = clearC l a' b' := by
  unfold clearC
  apply List.ext_getElem?
  intro i
  simp only [List.getElem?_mapIdx]
  by_cases hl : i < l.length
  · rw [List.getElem?_eq_getElem hl]
    simp only [Option.map_some]
    congr 1
    have := h i hl
    by_cases h2 : a ≤ (i : Int) ∧ (i : Int) < b
    · rw [if_pos h2, if_pos (this.1 h2)]
    · rw [if_neg h2, if_neg (fun h3 => h2 (this.2 h3))]
  · rw [List.getElem?_eq_none (by omega)]; rfl
end Go.Proofs.Ytmehkikkjebnnaa
