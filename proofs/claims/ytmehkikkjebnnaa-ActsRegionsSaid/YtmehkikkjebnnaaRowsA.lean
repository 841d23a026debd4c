/-
  Walks: slices.Clone over cells, rows.Put, grid.all, grid.Still.
-/
import Derived.Test.YtmehkikkjebnnaaProg
import Derived.Test.YtmehkikkjebnnaaVals
import Derived.WalkSpells
import Derived.Deep.QuietTactic
import Derived.BigQuiet
import Derived.Deep.RegionHeld3
import Derived.Deep.DrawnRows
import Derived.Laws.ResultCell
import Derived.KernelRfl
set_option linter.unusedVariables false
set_option linter.unusedSimpArgs false
namespace Go.Proofs.Ytmehkikkjebnnaa
open Go.RowKit

theorem info53 : (Try.prog.info? 53).map (fun i => (i.zero, i.size, i.bytes)) = some (some (.agg #[.int .i32 0, .int .i64 0]), 2, 16) := by kernel_rfl
theorem info51 : (Try.prog.info? 51).map (fun i => (i.zero, i.size, i.bytes)) = some (some (.slice none 0 0), 1, 24) := by kernel_rfl

/-- What a call leaves that makes a row of cells of its own. -/
def MadeC (w : World) (l : List Cell) (e : Ending) (w' : World) : Prop :=
  ∃ a c, e = .returned (.slice a l.length c) ∧ OwnC w' w.heap.size (.slice a l.length c) l ∧ Ext w w'

set_option maxRecDepth 100000 in
theorem clone_cells (v : Value) (l : List Cell) (w : World) (h : CellsAt w v l) (hl : l.length ≤ 1000000) :
    Calls Try.prog 108 #[v] w (MadeC w l) := by
  obtain ⟨a, c, hv, hc, hm⟩ := h.slice
  have H := Aside.mk h
  clear h
  subst hv
  obtain ⟨i0, hi, hz0, hz1, hz2⟩ := info_parts info53
  have hi' := Aside.mk hi
  clear hi
  have he := fun (w : World) => Lib.run_eql_slice_nil (P := Try.prog) w 51 53 a l.length c 0 0 Try.underlying51
  cases a with
  | none =>
    go_enter Try.func108, Try.ntmps108
    go_wp2
    go_ret
    have h0 : l = [] := by
      obtain ⟨a', c', hv', _, _, h3⟩ := Holds.form H.out
      injection hv' with e1 _ _
      subst e1
      rcases Nat.eq_zero_or_pos l.length with h0 | h0
      · exact List.eq_nil_of_length_eq_zero h0
      · obtain ⟨b, o, hh, _⟩ := h3 h0; cases hh
    subst h0
    exact ⟨_, _, rfl, own_nil _ _ _ _, Ext.refl _⟩
  | some ad =>
    go_enter Try.func108, Try.ntmps108
    go_wp2_with (at_builtin; refine wpList_append_holds _ rfl _ _ 51 rfl w.heap.size 53 i0 (.agg #[.int .i32 0, .int .i64 0]) 2 16 Try.underlying51 hi'.out hz0 hz1 hz2 rfl (by decide) _ 0 [] rfl ?c1 _ _ _ rfl (H.out.ext (Ext.alloc1 _ _)) ?c2 ?c3 ?c4 ?_)
    case c1 => exact World.ownsRow_made w #[] 0 (Nat.le_refl _) (by unfold maxLen; omega) (by simp)
    case c2 => unfold maxLen; omega
    case c3 => omega
    case c4 => simp
    intro v' w1 hown hg hwh
    obtain ⟨av, cv, rfl⟩ := own_slice hown
    go_wp2
    go_ret
    refine ⟨av, cv, rfl, hown, ?_⟩
    exact (Ext.alloc1 _ _).of_grown hg (by intro k hk; simp [Value.ownBlock] at hk; omega)

/-- What a call leaves that makes rows of its own. -/
def MadeR (w : World) (ll : List (List Cell)) (e : Ending) (w' : World) : Prop :=
  ∃ a c, e = .returned (.slice a ll.length c) ∧ OwnR w' w.heap.size (.slice a ll.length c) ll ∧ Ext w w'
def Small (ll : List (List Cell)) : Prop := ll.length ≤ 100000 ∧ ∀ r ∈ ll, r.length ≤ 100000
theorem Small.at_ {ll : List (List Cell)} (h : Small ll) {i : Nat} {r : List Cell} (hr : ll[i]? = some r) : r.length ≤ 100000 := h.2 r (List.mem_of_getElem? hr)

set_option maxRecDepth 100000 in
theorem all_rows (v : Value) (ll : List (List Cell)) (w : World) (h : RowsAt w v ll) (hs : Small ll) :
    Calls Try.prog 54 #[v] w (MadeR w ll) := by
  obtain ⟨a, c, hv, hc, hm⟩ := h.slice
  have H := Aside.mk h
  have HS := Aside.mk hs
  have hlen : ll.length ≤ 100000 := hs.1
  clear h hs
  subst hv
  obtain ⟨i0, hi, hz0, hz1, hz2⟩ := info_parts info51
  have hi' := Aside.mk hi
  clear hi
  go_enter Try.func54, Try.ntmps54
  go_wp2
  go_loopw [3, 8] (fun o i wr => ∃ (k : Nat) (ao : Option Addr) (co : Nat), k ≤ ll.length ∧ i = .int .i64 k ∧ o = .slice ao k co ∧ Aside (OwnR wr w.heap.size (.slice ao k co) (ll.take k)) ∧ Aside (Ext w wr)) (fun _ i _ => ll.length - (intOf i).toNat)
  case atStart => exact ⟨0, none, 0, Nat.zero_le _, rfl, rfl, ⟨⟨[], own_nil _ _ _ _, .nil⟩⟩, ⟨Ext.refl _⟩⟩
  case round =>
    obtain ⟨k, ao, co, hk, rfl, rfl, HO, HE⟩ := hrel
    by_cases hlt : k < ll.length
    · obtain ⟨b, o, a', c', r, ha, hcell, hrow, hr⟩ := (H.out.ext HE.out).at_ k hlt
      subst ha
      have hrl := HS.out.at_ hr.out
      have HR := Aside.mk hrow
      clear hrow
      obtain ⟨vs, hvs, hall⟩ := HO.out.ex
      have HV := Aside.mk hvs
      have HA := Aside.mk hall
      clear hvs hall
      rw [show (ll.take k).length = k from by rw [List.length_take]; omega] at HV
      go_wp2_with (first
        | (go_at_call 108; refine (clone_cells _ _ _ HR.out (by omega)).mono ?_; rintro e w1 ⟨au, cu, rfl, hu, he1⟩; have HU := Aside.mk hu; clear hu)
        | (at_builtin; refine wpList_append_holds _ rfl _ _ 29 rfl w.heap.size 51 i0 (.slice none 0 0) 1 24 Try.underlying29 hi'.out hz0 hz1 hz2 rfl (by decide) _ k vs rfl ?c1 _ 1 [.slice au r.length cu] rfl ?c5 ?c2 ?c3 ?c4 ?_))
      case c1 => exact own_ext (own_ext HV.out he1) (Ext.alloc1 _ _)
      case c5 => exact Holds.new1 _ _ (.slice au r.length cu) rfl
      case c2 => unfold maxLen; omega
      case c3 => omega
      case c4 => have := HE.out.size; have := he1.size; simp; omega
      intro v' w2 hown hg hwh
      obtain ⟨av, cv, rfl⟩ := own_slice hown
      have HN := Aside.mk hown
      have HG := Aside.mk hg
      clear hown hg hwh
      go_wp2
      go_roundw
      case rel =>
        have hb1 : Ext wr w1 := he1
        refine ⟨k + 1, av, cv, by omega, by go_num, rfl, ⟨⟨vs ++ [.slice au r.length cu], ?_, ?_⟩⟩, ⟨?_⟩⟩
        · rw [show (ll.take (k + 1)).length = k + 1 from by rw [List.length_take]; omega]; exact HN.out
        · rw [take_succ_some hr.out]
          have e2 : Ext wr (w1.alloc (.cells #[.slice au r.length cu] 51)) := he1.trans (Ext.alloc1 _ _)
          exact (HA.out.imp fun a b hab => (hab.ext e2).grown (own_ext HV.out e2) HG.out).snoc (((HU.out.ext (Ext.alloc1 _ _)).grown (own_ext HV.out e2) HG.out).mono HE.out.size)
        · exact ((HE.out.trans he1).alloc _).of_grown HG.out (fun j hj => by have := own_base HV.out j hj; omega)
      case measure => simp [intOf]; omega
    · go_wp2
      go_ret
      have : k = ll.length := by omega
      subst this
      have := HO.out
      rw [List.take_length] at this
      exact ⟨_, _, rfl, this, HE.out⟩
end Go.Proofs.Ytmehkikkjebnnaa
