/-
  Walks: polyptychref4.SameRow, SameRows.
-/
import Derived.Test.YtmehkikkjebnnaaRefB
import Derived.Laws.StructEq
set_option linter.unusedVariables false
set_option linter.unusedSimpArgs false
namespace Go.Proofs.Ytmehkikkjebnnaa
open Go.RowKit
attribute [local go_sem] max2_i min2_i max_two min_two
attribute [local go_sem ↓] Go.wp_at_zero Go.wp_at_succ

/-- Nothing but draws. -/
def Drawn (w w' : World) : Prop := ∃ n, w' = w.drewN n
theorem Drawn.refl (w : World) : Drawn w w := ⟨0, rfl⟩
theorem Drawn.drewN {w w' : World} (h : Drawn w w') (m : Nat) : Drawn w (w'.drewN m) := by
  obtain ⟨n, rfl⟩ := h
  exact ⟨n + m, by rw [World.drewN_drewN]⟩
theorem Drawn.trans {a b c : World} (h : Drawn a b) (k : Drawn b c) : Drawn a c := by
  obtain ⟨n, rfl⟩ := k
  exact h.drewN n
theorem Drawn.ext {w w' : World} (h : Drawn w w') : Ext w w' := by
  obtain ⟨n, rfl⟩ := h
  exact (Ext.refl w).drewN n
theorem Drawn.quiet {P : Program} {f : FuncId} {args : Array Value} {w : World} {n : Nat} {v : Value} (h : Calls P f args (w.drewN n) fun e w' => e = .returned v ∧ Drawn (w.drewN n) w') :
    Calls P f args (w.drewN n) fun e w'' => e = .returned v ∧ ∃ m, w'' = w.drewN m := Calls.quiet_of h

@[local go_sem] theorem eqCell (a b c d : Int) (w : World) : (Op.equalIn 10000 53 (.agg #[.int .i32 a, .int .i64 b]) (.agg #[.int .i32 c, .int .i64 d])).run Try.prog w = .ok (a == c && b == d) w := by
  have u3 := Try.underlying3
  have u21 := Try.underlying21
  have a3 := Try.isAgg3
  have a21 := Try.isAgg21
  have z3 := Try.sizeOf3
  have z21 := Try.sizeOf21
  have hS : Try.prog.underlying 53 = some (.struct (Try.prog.fieldsOf 53)) := by kernel_rfl
  have hp : Try.prog.stoodInHeld 53 = false := by kernel_rfl
  rw [show (10000 : Nat) = 9999 + 1 from rfl, run_equalIn_agg w 9999 53 _ _ hS hp]
  simp only [Program.fieldsOf, Try.underlying53]
  go_simp
  by_cases h1 : a = c <;> by_cases h2 : b = d <;> simp [h1, h2]

@[local go_sem] theorem guardCell (op : BinOp) (x y : Operand) (xs ys : Array Value) (w : World) : (eqGuard op 53 x y (.agg xs) (.agg ys)).run Try.prog w = .ok () w := run_eqGuard_agg w op 53 x y xs ys (by kernel_rfl)
set_option maxRecDepth 100000 in
set_option maxHeartbeats 1000000 in
theorem SameRow_any (a b : Option Addr) (c d : Nat) (l m : List Cell) (w : World) (hl : CellsAt w (.slice a l.length c) l) (hm : CellsAt w (.slice b m.length d) m) (hl6 : l.length ≤ 1000000) :
    Calls Try.prog 39 #[.slice a l.length c, .slice b m.length d] w fun e w' => e = .returned (.bool (decide (l = m))) ∧ Drawn w w' := by
  have HL := Aside.mk hl
  have HM := Aside.mk hm
  clear hl hm
  by_cases hlen : l.length = m.length
  · have hd : ((l.length : Int) == (m.length : Int)) = true := by rw [hlen]; simp
    have hd2 : ((l.length : Int) != (m.length : Int)) = false := by rw [hlen]; simp
    have HLEN := Aside.mk hlen
    clear hlen
    go_enter Try.func39, Try.ntmps39
    go_wp2
    go_loopw [5] (fun i wr => ∃ k : Nat, k ≤ l.length ∧ i = .int .i64 k ∧ Aside (l.take k = m.take k) ∧ Aside (Drawn w wr)) (fun i _ => l.length - (intOf i).toNat)
    case atStart => exact ⟨0, by omega, rfl, ⟨rfl⟩, ⟨Drawn.refl _⟩⟩
    case round =>
      obtain ⟨k, hk, rfl, HK, HE⟩ := hrel
      by_cases hlt : k < l.length
      · obtain ⟨b1, o1, ha1, hr1, hv1⟩ := (HL.out.ext HE.out.ext).at_ k hlt
        obtain ⟨b2, o2, ha2, hr2, hv2⟩ := (HM.out.ext HE.out.ext).at_ k (by have := HLEN.out; omega)
        subst ha1
        subst ha2
        have hk0 : (0 : Int) ≤ (k : Int) := by omega
        have hk1 : (k : Int) < (l.length : Int) := by omega
        have hk2 : (k : Int) < (m.length : Int) := by have := HLEN.out; omega
        obtain ⟨c1, hc1⟩ : ∃ c1, c1 = l.getD k default := ⟨_, rfl⟩
        obtain ⟨c2, hc2⟩ : ∃ c2, c2 = m.getD k default := ⟨_, rfl⟩
        rw [← hc1] at hr1 hv1
        rw [← hc2] at hr2 hv2
        have HC1 := Aside.mk hc1
        have HC2 := Aside.mk hc2
        clear hc1 hc2
        have hgq : Try.prog.eqGuardType Try.prog.depth 53 = false := by kernel_rfl
        by_cases hc : c1 = c2
        · subst hc
          go_wp2
          go_quiet (fail)
          go_wp2
          go_roundw
          case rel =>
            refine ⟨k + 1, by omega, by go_num, ⟨?_⟩, ⟨by first | exact HE.out | exact HE.out.drewN _⟩⟩
            rw [take_succ_getD l k default (by omega), take_succ_getD m k default (by omega), HK.out, ← HC1.out, ← HC2.out]
          case measure => simp [intOf]; omega
        · have hne : ¬ l = m := by
            intro e
            apply hc
            rw [HC1.out, HC2.out, e]
          by_cases hR : c1.R = c2.R
          · have hA : ¬ c1.A = c2.A := fun hA => hc (by cases c1; cases c2; simp_all)
            have HNE := Aside.mk hne
            clear hc hne
            go_wp2
            go_quiet (fail)
            go_wp2
            go_ret
            exact ⟨by rw [decide_eq_false HNE.out]; rfl, by first | exact HE.out | exact HE.out.drewN _⟩
          · have HNE := Aside.mk hne
            clear hc hne
            go_wp2
            go_quiet (fail)
            go_wp2
            go_ret
            exact ⟨by rw [decide_eq_false HNE.out]; rfl, by first | exact HE.out | exact HE.out.drewN _⟩
      · go_wp2
        go_ret
        have hlm : l = m := by
          have h1 := HK.out
          have h2 := HLEN.out
          rw [List.take_of_length_le (by omega), List.take_of_length_le (by omega)] at h1
          exact h1
        exact ⟨by rw [decide_eq_true hlm]; rfl, HE.out⟩
  · have hd2 : ((l.length : Int) != (m.length : Int)) = true := by simp; omega
    have hne : ¬ l = m := fun e => hlen (by rw [e])
    have HNE := Aside.mk hne
    clear hlen hne
    go_enter Try.func39, Try.ntmps39
    go_wp2
    go_ret
    exact ⟨by rw [decide_eq_false HNE.out]; rfl, Drawn.refl _⟩

theorem SameRow_true (a b : Option Addr) (c d : Nat) (l : List Cell) (w : World) (hl : CellsAt w (.slice a l.length c) l) (hm : CellsAt w (.slice b l.length d) l) (hl6 : l.length ≤ 1000000) :
    Calls Try.prog 39 #[.slice a l.length c, .slice b l.length d] w fun e w' => e = .returned (.bool true) ∧ Drawn w w' :=
  (SameRow_any a b c d l l w hl hm hl6).mono fun _ _ h => ⟨by rw [h.1, decide_eq_true rfl], h.2⟩
/-- Two rows of rows that read alike are the same. -/
theorem SameRows_true (a b : Option Addr) (c d : Nat) (l : List (List Cell)) (w : World) (hl : RowsAt w (.slice a l.length c) l) (hm : RowsAt w (.slice b l.length d) l) (hs : Small l) :
    Calls Try.prog 17 #[.slice a l.length c, .slice b l.length d] w fun e w' => e = .returned (.bool true) ∧ Drawn w w' := by
  have HL := Aside.mk hl
  have HM := Aside.mk hm
  have HS := Aside.mk hs
  have hl6 := hs.1
  clear hl hm hs
  go_enter Try.func17, Try.ntmps17
  go_wp2
  go_loopw [5] (fun i wr => ∃ k : Nat, k ≤ l.length ∧ i = .int .i64 k ∧ Aside (Drawn w wr)) (fun i _ => l.length - (intOf i).toNat)
  case atStart => exact ⟨0, by omega, rfl, ⟨Drawn.refl _⟩⟩
  case round =>
    obtain ⟨k, hk, rfl, HE⟩ := hrel
    by_cases hlt : k < l.length
    · obtain ⟨b1, o1, a1, c1, r1, ha1, hc1, hr1, hi1⟩ := (HL.out.ext HE.out.ext).at_ k hlt
      obtain ⟨b2, o2, a2, c2, r2, ha2, hc2, hr2, hi2⟩ := (HM.out.ext HE.out.ext).at_ k hlt
      subst ha1
      subst ha2
      obtain rfl : r1 = r2 := by have h1 := hi1.out; have h2 := hi2.out; rw [h1] at h2; injection h2
      have hk0 : (0 : Int) ≤ (k : Int) := by omega
      have hk1 : (k : Int) < (l.length : Int) := by omega
      have HR1 := Aside.mk hr1
      have HR2 := Aside.mk hr2
      have hr6 : r1.length ≤ 1000000 := Nat.le_trans (HS.out.2 r1 (List.mem_of_getElem? hi1.out)) (by omega)
      clear hr1 hr2
      go_wp2
      go_quiet ((go_at_call 39; exact Drawn.quiet (SameRow_true _ _ _ _ _ _ (HR1.out.ext ((Ext.refl _).drewN _)) (HR2.out.ext ((Ext.refl _).drewN _)) hr6)))
      go_wp2
      go_roundw
      case rel => exact ⟨k + 1, by omega, by go_num, ⟨by first | exact HE.out | exact HE.out.drewN _⟩⟩
      case measure => simp [intOf]; omega
    · go_wp2
      go_ret
      exact ⟨rfl, HE.out⟩
end Go.Proofs.Ytmehkikkjebnnaa
