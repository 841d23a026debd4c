/-
  Walks: polyptychlaw6.ActsForms.
-/
import Derived.Test.YtmehkikkjebnnaaFormsP
set_option linter.unusedVariables false
set_option linter.unusedSimpArgs false
namespace Go.Proofs.Ytmehkikkjebnnaa
open Go.RowKit
attribute [local go_sem] max2_i min2_i max_two min_two
attribute [local go_sem ↓] Go.wp_at_zero Go.wp_at_succ

def FormAt (w0 : World) (s4 : Value) (w : World) : Prop :=
  ∃ (P : Nat) (e : ByteArray × ByteArray × Int × Int), s4 = .pointer (some ⟨P, 0, none⟩) ∧ Aside (Box w P 22 #[.string e.1, .string e.2.1, .int .i64 e.2.2.1, .int .i64 e.2.2.2]) ∧ Aside (e ∈ formsT) ∧ Aside (Ext w0 w)

set_option maxRecDepth 100000 in
set_option maxHeartbeats 8000000 in
theorem ActsForms_any (a : Int) (w : World) : Calls Try.prog 3 #[.int .i64 a] w fun e w' => e = .returned (.bool true) ∧ Ext w w' := by
  obtain ⟨A, hA⟩ : ∃ A, bits .and .i64 a 255 = A := ⟨_, rfl⟩
  have hA2 : 0 ≤ A ∧ A ≤ 255 := by have := and255 a; omega
  obtain ⟨hA0, hA1⟩ := hA2
  obtain ⟨j, hj⟩ : ∃ j, A % 34 = j := ⟨_, rfl⟩
  have hj2 : 0 ≤ j ∧ j ≤ 33 := by omega
  go_enter Try.func3, Try.ntmps3
  go_upto_region 2 with fail
  go_cut [4] (fun s4 wx => FormAt w s4 wx)
  case first =>
    have hcase : j = 0 ∨ j = 1 ∨ j = 2 ∨ j = 3 ∨ j = 4 ∨ j = 5 ∨ j = 6 ∨ j = 7 ∨ j = 8 ∨ j = 9 ∨ j = 10 ∨ j = 11 ∨ j = 12 ∨ j = 13 ∨ j = 14 ∨ j = 15 ∨ j = 16 ∨ j = 17 ∨ j = 18 ∨ j = 19 ∨ j = 20 ∨ j = 21 ∨ j = 22 ∨ j = 23 ∨ j = 24 ∨ j = 25 ∨ j = 26 ∨ j = 27 ∨ j = 28 ∨ j = 29 ∨ j = 30 ∨ j = 31 ∨ j = 32 ∨ j = 33 := by omega
    clear hj2
    rcases hcase with rfl | rfl | rfl | rfl | rfl | rfl | rfl | rfl | rfl | rfl | rfl | rfl | rfl | rfl | rfl | rfl | rfl | rfl | rfl | rfl | rfl | rfl | rfl | rfl | rfl | rfl | rfl | rfl | rfl | rfl | rfl | rfl | rfl | rfl
    · go_wp2_with fail
      go_meet
      exact ⟨_, formsT[0], rfl, ⟨Box.newAt _ _ _ _ (by simp)⟩, ⟨List.getElem_mem _⟩, ⟨(Ext.alloc1 _ _).alloc _⟩⟩
    · go_wp2_with fail
      go_meet
      exact ⟨_, formsT[1], rfl, ⟨Box.newAt _ _ _ _ (by simp)⟩, ⟨List.getElem_mem _⟩, ⟨(Ext.alloc1 _ _).alloc _⟩⟩
    · go_wp2_with fail
      go_meet
      exact ⟨_, formsT[2], rfl, ⟨Box.newAt _ _ _ _ (by simp)⟩, ⟨List.getElem_mem _⟩, ⟨(Ext.alloc1 _ _).alloc _⟩⟩
    · go_wp2_with fail
      go_meet
      exact ⟨_, formsT[3], rfl, ⟨Box.newAt _ _ _ _ (by simp)⟩, ⟨List.getElem_mem _⟩, ⟨(Ext.alloc1 _ _).alloc _⟩⟩
    · go_wp2_with fail
      go_meet
      exact ⟨_, formsT[4], rfl, ⟨Box.newAt _ _ _ _ (by simp)⟩, ⟨List.getElem_mem _⟩, ⟨(Ext.alloc1 _ _).alloc _⟩⟩
    · go_wp2_with fail
      go_meet
      exact ⟨_, formsT[5], rfl, ⟨Box.newAt _ _ _ _ (by simp)⟩, ⟨List.getElem_mem _⟩, ⟨(Ext.alloc1 _ _).alloc _⟩⟩
    · go_wp2_with fail
      go_meet
      exact ⟨_, formsT[6], rfl, ⟨Box.newAt _ _ _ _ (by simp)⟩, ⟨List.getElem_mem _⟩, ⟨(Ext.alloc1 _ _).alloc _⟩⟩
    · go_wp2_with fail
      go_meet
      exact ⟨_, formsT[7], rfl, ⟨Box.newAt _ _ _ _ (by simp)⟩, ⟨List.getElem_mem _⟩, ⟨(Ext.alloc1 _ _).alloc _⟩⟩
    · go_wp2_with fail
      go_meet
      exact ⟨_, formsT[8], rfl, ⟨Box.newAt _ _ _ _ (by simp)⟩, ⟨List.getElem_mem _⟩, ⟨(Ext.alloc1 _ _).alloc _⟩⟩
    · go_wp2_with fail
      go_meet
      exact ⟨_, formsT[9], rfl, ⟨Box.newAt _ _ _ _ (by simp)⟩, ⟨List.getElem_mem _⟩, ⟨(Ext.alloc1 _ _).alloc _⟩⟩
    · go_wp2_with fail
      go_meet
      exact ⟨_, formsT[10], rfl, ⟨Box.newAt _ _ _ _ (by simp)⟩, ⟨List.getElem_mem _⟩, ⟨(Ext.alloc1 _ _).alloc _⟩⟩
    · go_wp2_with fail
      go_meet
      exact ⟨_, formsT[11], rfl, ⟨Box.newAt _ _ _ _ (by simp)⟩, ⟨List.getElem_mem _⟩, ⟨(Ext.alloc1 _ _).alloc _⟩⟩
    · go_wp2_with fail
      go_meet
      exact ⟨_, formsT[12], rfl, ⟨Box.newAt _ _ _ _ (by simp)⟩, ⟨List.getElem_mem _⟩, ⟨(Ext.alloc1 _ _).alloc _⟩⟩
    · go_wp2_with fail
      go_meet
      exact ⟨_, formsT[13], rfl, ⟨Box.newAt _ _ _ _ (by simp)⟩, ⟨List.getElem_mem _⟩, ⟨(Ext.alloc1 _ _).alloc _⟩⟩
    · go_wp2_with fail
      go_meet
      exact ⟨_, formsT[14], rfl, ⟨Box.newAt _ _ _ _ (by simp)⟩, ⟨List.getElem_mem _⟩, ⟨(Ext.alloc1 _ _).alloc _⟩⟩
    · go_wp2_with fail
      go_meet
      exact ⟨_, formsT[15], rfl, ⟨Box.newAt _ _ _ _ (by simp)⟩, ⟨List.getElem_mem _⟩, ⟨(Ext.alloc1 _ _).alloc _⟩⟩
    · go_wp2_with fail
      go_meet
      exact ⟨_, formsT[16], rfl, ⟨Box.newAt _ _ _ _ (by simp)⟩, ⟨List.getElem_mem _⟩, ⟨(Ext.alloc1 _ _).alloc _⟩⟩
    · go_wp2_with fail
      go_meet
      exact ⟨_, formsT[17], rfl, ⟨Box.newAt _ _ _ _ (by simp)⟩, ⟨List.getElem_mem _⟩, ⟨(Ext.alloc1 _ _).alloc _⟩⟩
    · go_wp2_with fail
      go_meet
      exact ⟨_, formsT[18], rfl, ⟨Box.newAt _ _ _ _ (by simp)⟩, ⟨List.getElem_mem _⟩, ⟨(Ext.alloc1 _ _).alloc _⟩⟩
    · go_wp2_with fail
      go_meet
      exact ⟨_, formsT[19], rfl, ⟨Box.newAt _ _ _ _ (by simp)⟩, ⟨List.getElem_mem _⟩, ⟨(Ext.alloc1 _ _).alloc _⟩⟩
    · go_wp2_with fail
      go_meet
      exact ⟨_, formsT[20], rfl, ⟨Box.newAt _ _ _ _ (by simp)⟩, ⟨List.getElem_mem _⟩, ⟨(Ext.alloc1 _ _).alloc _⟩⟩
    · go_wp2_with fail
      go_meet
      exact ⟨_, formsT[21], rfl, ⟨Box.newAt _ _ _ _ (by simp)⟩, ⟨List.getElem_mem _⟩, ⟨(Ext.alloc1 _ _).alloc _⟩⟩
    · go_wp2_with fail
      go_meet
      exact ⟨_, formsT[22], rfl, ⟨Box.newAt _ _ _ _ (by simp)⟩, ⟨List.getElem_mem _⟩, ⟨(Ext.alloc1 _ _).alloc _⟩⟩
    · go_wp2_with fail
      go_meet
      exact ⟨_, formsT[23], rfl, ⟨Box.newAt _ _ _ _ (by simp)⟩, ⟨List.getElem_mem _⟩, ⟨(Ext.alloc1 _ _).alloc _⟩⟩
    · go_wp2_with fail
      go_meet
      exact ⟨_, formsT[24], rfl, ⟨Box.newAt _ _ _ _ (by simp)⟩, ⟨List.getElem_mem _⟩, ⟨(Ext.alloc1 _ _).alloc _⟩⟩
    · go_wp2_with fail
      go_meet
      exact ⟨_, formsT[25], rfl, ⟨Box.newAt _ _ _ _ (by simp)⟩, ⟨List.getElem_mem _⟩, ⟨(Ext.alloc1 _ _).alloc _⟩⟩
    · go_wp2_with fail
      go_meet
      exact ⟨_, formsT[26], rfl, ⟨Box.newAt _ _ _ _ (by simp)⟩, ⟨List.getElem_mem _⟩, ⟨(Ext.alloc1 _ _).alloc _⟩⟩
    · go_wp2_with fail
      go_meet
      exact ⟨_, formsT[27], rfl, ⟨Box.newAt _ _ _ _ (by simp)⟩, ⟨List.getElem_mem _⟩, ⟨(Ext.alloc1 _ _).alloc _⟩⟩
    · go_wp2_with fail
      go_meet
      exact ⟨_, formsT[28], rfl, ⟨Box.newAt _ _ _ _ (by simp)⟩, ⟨List.getElem_mem _⟩, ⟨(Ext.alloc1 _ _).alloc _⟩⟩
    · go_wp2_with fail
      go_meet
      exact ⟨_, formsT[29], rfl, ⟨Box.newAt _ _ _ _ (by simp)⟩, ⟨List.getElem_mem _⟩, ⟨(Ext.alloc1 _ _).alloc _⟩⟩
    · go_wp2_with fail
      go_meet
      exact ⟨_, formsT[30], rfl, ⟨Box.newAt _ _ _ _ (by simp)⟩, ⟨List.getElem_mem _⟩, ⟨(Ext.alloc1 _ _).alloc _⟩⟩
    · go_wp2_with fail
      go_meet
      exact ⟨_, formsT[31], rfl, ⟨Box.newAt _ _ _ _ (by simp)⟩, ⟨List.getElem_mem _⟩, ⟨(Ext.alloc1 _ _).alloc _⟩⟩
    · go_wp2_with fail
      go_meet
      exact ⟨_, formsT[32], rfl, ⟨Box.newAt _ _ _ _ (by simp)⟩, ⟨List.getElem_mem _⟩, ⟨(Ext.alloc1 _ _).alloc _⟩⟩
    · go_wp2_with fail
      go_meet
      exact ⟨_, formsT[33], rfl, ⟨Box.newAt _ _ _ _ (by simp)⟩, ⟨List.getElem_mem _⟩, ⟨(Ext.alloc1 _ _).alloc _⟩⟩
  case rest =>
    obtain ⟨P, e, rfl, HB, HE, HX⟩ := hcut
    obtain ⟨e1, e2, e3, e4⟩ := e
    have hl := forms_law HE.out
    simp only at hl
    obtain ⟨l1, l2, l3, l4⟩ := hl
    have hS := fun w => show_any 5 3 e1 w l4
    simp only [l1, l2, l3] at hS
    have HS := Aside.mk hS
    clear hS l1 l2 l3 l4
    obtain ⟨hcB, hfB⟩ := HB.out.rules
    go_wp2_with (first
      | (go_at_call 13; refine (HS.out _).mono ?_; rintro e w1 ⟨rfl, hx⟩; have HX1 := Aside.mk hx; have HB1 := Aside.mk (HB.out.ext hx); obtain ⟨hcC, hfC⟩ := HB1.out.rules; clear hx)
      | (go_at_call 14; refine (awake6 _).mono ?_; rintro e w2 ⟨rfl, hx⟩; have HX2 := Aside.mk hx; clear hx))
    go_ret
    exact ⟨rfl, (HX.out.trans HX1.out).trans HX2.out⟩
end Go.Proofs.Ytmehkikkjebnnaa
