/-
  What came in as a slice of integers reads as a list of them. No program in sight.
-/
import Derived.Test.YtmehkikkjebnnaaActA
set_option linter.unusedVariables false
set_option linter.unusedSimpArgs false
namespace Go.Proofs.Ytmehkikkjebnnaa
open Go.RowKit

theorem row_holds {k : IntKind} {w : World} {a : Option Addr} {len cap : Nat} {zs : List Int}
    (h : (a = none ∧ len = 0 ∧ cap = 0 ∧ zs = []) ∨ ∃ x, a = some x ∧ len ≤ cap ∧ cap ≤ maxLen ∧ zs.length = cap ∧ (∀ i, i < zs.length → w.cell? (x.add i) = some (.int k (zs.getD i 0))) ∧ ∀ n ∈ zs, (Lit.int k n).wf = true) :
    Holds w 1 (.slice a len cap) len ((zs.take len).map (Value.int k)) ∧ (zs.take len).length = len ∧ len ≤ maxLen ∧ ∀ n ∈ zs.take len, (Lit.int k n).wf = true := by
  rcases h with ⟨rfl, rfl, rfl, rfl⟩ | ⟨x, rfl, hl, hm, hz, hcell, hwz⟩
  · exact ⟨Holds.nil w 1, rfl, Nat.zero_le _, fun n hn => by cases hn⟩
  · have hlen : (zs.take len).length = len := by rw [List.length_take]; omega
    refine ⟨⟨by simp; omega, fun u hu => ?_, some x, cap, rfl, hl, hm, fun hn => ?_⟩, hlen, by omega, fun n hn => hwz n (List.mem_of_mem_take hn)⟩
    · obtain ⟨n, _, rfl⟩ := List.mem_map.1 hu
      rfl
    · obtain ⟨b, off, spot⟩ := x
      have hspot : spot = none := by
        have hc := hcell 0 (by omega)
        simpa [Addr.add] using World.cell?_spot hc
      subst hspot
      refine ⟨b, off, rfl, fun j hj => ?_⟩
      have hj2 : j < zs.length := by omega
      have hadd : (⟨b, off, none⟩ : Addr).add j = ⟨b, off + j, none⟩ := by unfold Addr.add; split <;> simp_all
      rw [← hadd, hcell j hj2, List.getElem?_map, List.getElem?_take, if_pos (by omega), List.getElem?_eq_getElem hj2, Option.map_some]
      rw [getD_lt zs j 0 hj2]
theorem row_ints {w : World} {a : Option Addr} {len cap : Nat} {zs : List Int}
    (h : (a = none ∧ len = 0 ∧ cap = 0 ∧ zs = []) ∨ ∃ x, a = some x ∧ len ≤ cap ∧ cap ≤ maxLen ∧ zs.length = cap ∧ (∀ i, i < zs.length → w.cell? (x.add i) = some (.int .i64 (zs.getD i 0))) ∧ ∀ n ∈ zs, (Lit.int .i64 n).wf = true) :
    IntsAt w (.slice a (zs.take len).length cap) (zs.take len) ∧ (zs.take len).length = len ∧ (zs.take len).length ≤ maxLen := by
  obtain ⟨h1, h2, h3, _⟩ := row_holds h
  refine ⟨?_, h2, by omega⟩
  unfold IntsAt
  rw [h2]
  exact h1
end Go.Proofs.Ytmehkikkjebnnaa
