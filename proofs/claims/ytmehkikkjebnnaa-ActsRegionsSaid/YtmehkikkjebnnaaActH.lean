/-
  Walks: acts.region, acts.between.
-/
import Derived.Test.YtmehkikkjebnnaaActG
set_option linter.unusedVariables false
set_option linter.unusedSimpArgs false
namespace Go.Proofs.Ytmehkikkjebnnaa
open Go.RowKit
attribute [local go_sem] max2_i min2_i max_two min_two
attribute [local go_sem ↓] Go.wp_at_zero Go.wp_at_succ

def regionG (g : Grid) (l : List Int) : Grid :=
  let top := heldY g (parOf l 0 1 - 1)
  let bottom := heldY g (parOf l 1 g.H - 1)
  if top ≥ bottom then g else moveG { g with Top := top, Bottom := bottom } 0 0

set_option maxRecDepth 100000 in
set_option maxHeartbeats 2000000 in
theorem region_any (g : Grid) (k r : Int) (l : List Int) (ap ar ab : Option Addr) (cp nr cr nb cb : Nat) (w : World) (hg : WFG g) (hpar : ParOk l) (hla : IntsAt w (.slice ap l.length cp) l) :
    Calls Try.prog 73 #[.agg #[.int .i64 g.W, .int .i64 g.H, .int .i64 g.X, .int .i64 g.Y, .bool g.Wrap, .int .i64 g.A, .int .i64 g.Top, .int .i64 g.Bottom, .int .i64 g.SX, .int .i64 g.SY, .int .i64 g.SA, .bool g.NoWrap, .bool g.Hidden, .slice ar nr cr, .slice ab nb cb], .agg #[.int .i64 k, .int .i32 r, .slice ap l.length cp]] w fun e w' => e = .returned (.agg #[.int .i64 (regionG g l).W, .int .i64 (regionG g l).H, .int .i64 (regionG g l).X, .int .i64 (regionG g l).Y, .bool (regionG g l).Wrap, .int .i64 (regionG g l).A, .int .i64 (regionG g l).Top, .int .i64 (regionG g l).Bottom, .int .i64 (regionG g l).SX, .int .i64 (regionG g l).SY, .int .i64 (regionG g l).SA, .bool (regionG g l).NoWrap, .bool (regionG g l).Hidden, .slice ar nr cr, .slice ab nb cb]) ∧ Ext w w' := by
  have HL := Aside.mk hla
  have hl := hpar.1
  clear hla
  have HA := Aside.mk (((Box.new w 31 #[.int .i64 g.W, .int .i64 g.H, .int .i64 g.X, .int .i64 g.Y, .bool g.Wrap, .int .i64 g.A, .int .i64 g.Top, .int .i64 g.Bottom, .int .i64 g.SX, .int .i64 g.SY, .int .i64 g.SA, .bool g.NoWrap, .bool g.Hidden, .slice ar nr cr, .slice ab nb cb]).alloc (.cells #[.int .i64 k, .int .i32 r, .slice ap l.length cp] 35)).alloc (.cells #[.int .i64 0, .int .i64 0, .int .i64 0, .int .i64 0, .bool false, .int .i64 0, .int .i64 0, .int .i64 0, .int .i64 0, .int .i64 0, .int .i64 0, .bool false, .bool false, .slice none 0 0, .slice none 0 0] 31))
  have HR := Aside.mk ((Box.newAt (w.alloc (.cells #[.int .i64 g.W, .int .i64 g.H, .int .i64 g.X, .int .i64 g.Y, .bool g.Wrap, .int .i64 g.A, .int .i64 g.Top, .int .i64 g.Bottom, .int .i64 g.SX, .int .i64 g.SY, .int .i64 g.SA, .bool g.NoWrap, .bool g.Hidden, .slice ar nr cr, .slice ab nb cb] 31)) 35 #[.int .i64 k, .int .i32 r, .slice ap l.length cp] (w.heap.size + 1) (by simp)).alloc (.cells #[.int .i64 0, .int .i64 0, .int .i64 0, .int .i64 0, .bool false, .int .i64 0, .int .i64 0, .int .i64 0, .int .i64 0, .int .i64 0, .int .i64 0, .bool false, .bool false, .slice none 0 0, .slice none 0 0] 31))
  have HZ := Aside.mk (Box.newAt ((w.alloc (.cells #[.int .i64 g.W, .int .i64 g.H, .int .i64 g.X, .int .i64 g.Y, .bool g.Wrap, .int .i64 g.A, .int .i64 g.Top, .int .i64 g.Bottom, .int .i64 g.SX, .int .i64 g.SY, .int .i64 g.SA, .bool g.NoWrap, .bool g.Hidden, .slice ar nr cr, .slice ab nb cb] 31)).alloc (.cells #[.int .i64 k, .int .i32 r, .slice ap l.length cp] 35)) 31 #[.int .i64 0, .int .i64 0, .int .i64 0, .int .i64 0, .bool false, .int .i64 0, .int .i64 0, .int .i64 0, .int .i64 0, .int .i64 0, .int .i64 0, .bool false, .bool false, .slice none 0 0, .slice none 0 0] (w.heap.size + 2) (by simp))
  have HW := Aside.mk (((Ext.alloc1 w (.cells #[.int .i64 g.W, .int .i64 g.H, .int .i64 g.X, .int .i64 g.Y, .bool g.Wrap, .int .i64 g.A, .int .i64 g.Top, .int .i64 g.Bottom, .int .i64 g.SX, .int .i64 g.SY, .int .i64 g.SA, .bool g.NoWrap, .bool g.Hidden, .slice ar nr cr, .slice ab nb cb] 31)).alloc (.cells #[.int .i64 k, .int .i32 r, .slice ap l.length cp] 35)).alloc (.cells #[.int .i64 0, .int .i64 0, .int .i64 0, .int .i64 0, .bool false, .int .i64 0, .int .i64 0, .int .i64 0, .int .i64 0, .int .i64 0, .int .i64 0, .bool false, .bool false, .slice none 0 0, .slice none 0 0] 31))
  have hH := hg.H
  have hb := parOf_bounds hpar 0 1 (by omega) (by omega)
  have hb2 := parOf_bounds hpar 1 g.H (by omega) (by omega)
  obtain ⟨N, hN⟩ : ∃ N, N = parOf l 0 1 := ⟨_, rfl⟩
  obtain ⟨M, hM⟩ : ∃ M, M = parOf l 1 g.H := ⟨_, rfl⟩
  rw [← hN] at hb
  rw [← hM] at hb2
  obtain ⟨X0, hX0⟩ : ∃ X0, X0 = heldX g 0 := ⟨_, rfl⟩
  obtain ⟨Y1, hY1⟩ : ∃ Y1, Y1 = heldY g (N - 1) := ⟨_, rfl⟩
  obtain ⟨Y2, hY2⟩ : ∃ Y2, Y2 = heldY g (M - 1) := ⟨_, rfl⟩
  have hp : regionG g l = if Y1 ≥ Y2 then g else moveG { g with Top := Y1, Bottom := Y2 } 0 0 := by rw [hY1, hY2, hN, hM]; rfl
  have HP := Aside.mk hp
  have HN := Aside.mk hN
  have HM := Aside.mk hM
  have HX0 := Aside.mk hX0
  have HY1 := Aside.mk hY1
  have HY2 := Aside.mk hY2
  clear hp hN hM hX0 hY1 hY2
  have e1 : IntKind.i64.wrap (N - 1) = N - 1 := IntWalk.i64_in _ (by omega)
  have e2 : IntKind.i64.wrap (M - 1) = M - 1 := IntWalk.i64_in _ (by omega)
  rcases Bool.eq_false_or_eq_true (decide (Y2 ≤ Y1)) with hd | hd
  · rw [show regionG g l = g from by rw [HP.out, if_pos (by simpa using hd)]]
    go_enter Try.func73, Try.ntmps73
    go_wp2
    refine wp_region_till 100 (fun w' => Box w' w.heap.size 31 #[.int .i64 g.W, .int .i64 g.H, .int .i64 g.X, .int .i64 g.Y, .bool g.Wrap, .int .i64 g.A, .int .i64 g.Top, .int .i64 g.Bottom, .int .i64 g.SX, .int .i64 g.SY, .int .i64 g.SA, .bool g.NoWrap, .bool g.Hidden, .slice ar nr cr, .slice ab nb cb] ∧ Box w' (w.heap.size + 1) 35 #[.int .i64 k, .int .i32 r, .slice ap l.length cp]) (by rfl) ⟨HA.out.drew, HR.out.drew⟩ ?_
    intro hS
    refine ⟨kept_none _ rfl, fun hKept => ?_⟩
    refine till_take (i := 0) (oi := _) (v := ?_) rfl (by kernel_rfl) (by kernel_rfl) (by kernel_rfl) (by kernel_rfl) (fun _ _ _ h => h) hKept hS (Or.inl ⟨by rfl, ?_⟩) ?_; rotate_left; (intro wS hSw; obtain ⟨hSa, hSb⟩ := hSw; have hSc := hSa.cell; have hSd := hSb.cell; go_simp; try with_reducible rfl); intro hKept; (try simp only [List.getElem?_toArray, List.getElem?_cons_succ, List.getElem?_cons_zero, List.getElem_toArray, List.getElem_cons_succ, List.getElem_cons_zero, Act.put, List.setIfInBounds_toArray, List.set_cons_zero, List.set_cons_succ])
    refine till_take (i := 1) (oi := _) (v := ?_) rfl (by kernel_rfl) (by kernel_rfl) (by kernel_rfl) (by kernel_rfl) (fun _ _ _ h => h) hKept hS (Or.inl ⟨by rfl, ?_⟩) ?_; rotate_left; (intro wS hSw; obtain ⟨hSa, hSb⟩ := hSw; have hSc := hSa.cell; have hSd := hSb.cell; go_simp; try with_reducible rfl); intro hKept; (try simp only [List.getElem?_toArray, List.getElem?_cons_succ, List.getElem?_cons_zero, List.getElem_toArray, List.getElem_cons_succ, List.getElem_cons_zero, Act.put, List.setIfInBounds_toArray, List.set_cons_zero, List.set_cons_succ])
    refine till_one (i := 2) (by simp only [List.getElem?_toArray, List.getElem?_cons_succ, List.getElem?_cons_zero]; rfl) (by kernel_rfl) hKept ?_; intro K hK; rw [if_pos (by rfl)]
    go_simp
    refine (par_eq k _ _ l 0 1 N _ (HL.out.ext HW.out.drew) hl (by omega) HN.out).mono ?_
    rintro e w1 ⟨rfl, he1⟩
    have HA1 := Aside.mk (HA.out.drew.ext he1)
    have HR1 := Aside.mk (HR.out.drew.ext he1)
    have HZ1 := Aside.mk (HZ.out.drew.ext he1)
    have HX1 := Aside.mk (HW.out.drew.trans he1)
    clear he1
    refine hK.out _ _ (fun _ => ⟨HA1.out, HR1.out⟩) ?_; clear hS; intro hS hKept; replace hS := hS (by decide); (try simp only [List.getElem?_toArray, List.getElem?_cons_succ, List.getElem?_cons_zero, List.getElem_toArray, List.getElem_cons_succ, List.getElem_cons_zero, Act.put, List.setIfInBounds_toArray, List.set_cons_zero, List.set_cons_succ])
    refine till_take (i := 3) (oi := _) (v := ?_) rfl (by kernel_rfl) (by kernel_rfl) (by kernel_rfl) (by kernel_rfl) (fun _ _ _ h => h) hKept hS (Or.inl ⟨by rfl, ?_⟩) ?_; rotate_left; (intro wS hSw; obtain ⟨hSa, hSb⟩ := hSw; have hSc := hSa.cell; have hSd := hSb.cell; go_simp; try with_reducible rfl); intro hKept; (try simp only [List.getElem?_toArray, List.getElem?_cons_succ, List.getElem?_cons_zero, List.getElem_toArray, List.getElem_cons_succ, List.getElem_cons_zero, Act.put, List.setIfInBounds_toArray, List.set_cons_zero, List.set_cons_succ])
    refine till_one (i := 4) (by simp only [List.getElem?_toArray, List.getElem?_cons_succ, List.getElem?_cons_zero]; rfl) (by kernel_rfl) hKept ?_; intro K hK; rw [if_pos (by rfl)]
    go_simp
    refine (Held_eq g _ _ _ _ X0 Y1 _ hg.W6 hg.H6 HX0.out HY1.out).mono ?_
    rintro e w2 ⟨rfl, he2⟩
    have HA2 := Aside.mk (HA1.out.ext he2)
    have HR2 := Aside.mk (HR1.out.ext he2)
    have HZ2 := Aside.mk (HZ1.out.ext he2)
    have HX2 := Aside.mk (HX1.out.trans he2)
    clear he2
    refine hK.out _ _ (fun _ => ⟨HA2.out, HR2.out⟩) ?_; clear hS; intro hS hKept; replace hS := hS (by decide); (try simp only [List.getElem?_toArray, List.getElem?_cons_succ, List.getElem?_cons_zero, List.getElem_toArray, List.getElem_cons_succ, List.getElem_cons_zero, Act.put, List.setIfInBounds_toArray, List.set_cons_zero, List.set_cons_succ])
    refine till_take (i := 5) (oi := _) (v := ?_) rfl (by kernel_rfl) (by kernel_rfl) (by kernel_rfl) (by kernel_rfl) (fun _ _ _ h => h) hKept hS (Or.inl ⟨by rfl, ?_⟩) ?_; rotate_left; (intro wS hSw; obtain ⟨hSa, hSb⟩ := hSw; have hSc := hSa.cell; have hSd := hSb.cell; go_simp; try with_reducible rfl); intro hKept; (try simp only [List.getElem?_toArray, List.getElem?_cons_succ, List.getElem?_cons_zero, List.getElem_toArray, List.getElem_cons_succ, List.getElem_cons_zero, Act.put, List.setIfInBounds_toArray, List.set_cons_zero, List.set_cons_succ])
    refine till_take (i := 6) (oi := _) (v := ?_) rfl (by kernel_rfl) (by kernel_rfl) (by kernel_rfl) (by kernel_rfl) (fun _ _ _ h => h) hKept hS (Or.inl ⟨by rfl, ?_⟩) ?_; rotate_left; (intro wS hSw; obtain ⟨hSa, hSb⟩ := hSw; have hSc := hSa.cell; have hSd := hSb.cell; go_simp; try with_reducible rfl); intro hKept; (try simp only [List.getElem?_toArray, List.getElem?_cons_succ, List.getElem?_cons_zero, List.getElem_toArray, List.getElem_cons_succ, List.getElem_cons_zero, Act.put, List.setIfInBounds_toArray, List.set_cons_zero, List.set_cons_succ])
    refine till_take (i := 7) (oi := _) (v := ?_) rfl (by kernel_rfl) (by kernel_rfl) (by kernel_rfl) (by kernel_rfl) (fun _ _ _ h => h) hKept hS (Or.inl ⟨by rfl, ?_⟩) ?_; rotate_left; (intro wS hSw; obtain ⟨hSa, hSb⟩ := hSw; have hSc := hSa.cell; have hSd := hSb.cell; go_simp; try with_reducible rfl); intro hKept; (try simp only [List.getElem?_toArray, List.getElem?_cons_succ, List.getElem?_cons_zero, List.getElem_toArray, List.getElem_cons_succ, List.getElem_cons_zero, Act.put, List.setIfInBounds_toArray, List.set_cons_zero, List.set_cons_succ])
    refine till_take (i := 8) (oi := _) (v := ?_) rfl (by kernel_rfl) (by kernel_rfl) (by kernel_rfl) (by kernel_rfl) (fun _ _ _ h => h) hKept hS (Or.inl ⟨by rfl, ?_⟩) ?_; rotate_left; (intro wS hSw; obtain ⟨hSa, hSb⟩ := hSw; have hSc := hSa.cell; have hSd := hSb.cell; go_simp; try with_reducible rfl); intro hKept; (try simp only [List.getElem?_toArray, List.getElem?_cons_succ, List.getElem?_cons_zero, List.getElem_toArray, List.getElem_cons_succ, List.getElem_cons_zero, Act.put, List.setIfInBounds_toArray, List.set_cons_zero, List.set_cons_succ])
    refine till_take (i := 9) (oi := _) (v := ?_) rfl (by kernel_rfl) (by kernel_rfl) (by kernel_rfl) (by kernel_rfl) (fun _ _ _ h => h) hKept hS (Or.inl ⟨by rfl, ?_⟩) ?_; rotate_left; (intro wS hSw; obtain ⟨hSa, hSb⟩ := hSw; have hSc := hSa.cell; have hSd := hSb.cell; go_simp; try with_reducible rfl); intro hKept; (try simp only [List.getElem?_toArray, List.getElem?_cons_succ, List.getElem?_cons_zero, List.getElem_toArray, List.getElem_cons_succ, List.getElem_cons_zero, Act.put, List.setIfInBounds_toArray, List.set_cons_zero, List.set_cons_succ])
    refine till_done (by kernel_rfl) ?_ _
    go_wp2
    refine wp_region_till 100 (fun w' => Box w' w.heap.size 31 #[.int .i64 g.W, .int .i64 g.H, .int .i64 g.X, .int .i64 g.Y, .bool g.Wrap, .int .i64 g.A, .int .i64 g.Top, .int .i64 g.Bottom, .int .i64 g.SX, .int .i64 g.SY, .int .i64 g.SA, .bool g.NoWrap, .bool g.Hidden, .slice ar nr cr, .slice ab nb cb] ∧ Box w' (w.heap.size + 1) 35 #[.int .i64 k, .int .i32 r, .slice ap l.length cp]) (by rfl) ⟨HA2.out.drew, HR2.out.drew⟩ ?_
    intro hS
    refine ⟨kept_none _ rfl, fun hKept => ?_⟩
    refine till_take (i := 0) (oi := _) (v := ?_) rfl (by kernel_rfl) (by kernel_rfl) (by kernel_rfl) (by kernel_rfl) (fun _ _ _ h => h) hKept hS (Or.inl ⟨by rfl, ?_⟩) ?_; rotate_left; (intro wS hSw; obtain ⟨hSa, hSb⟩ := hSw; have hSc := hSa.cell; have hSd := hSb.cell; go_simp; try with_reducible rfl); intro hKept; (try simp only [List.getElem?_toArray, List.getElem?_cons_succ, List.getElem?_cons_zero, List.getElem_toArray, List.getElem_cons_succ, List.getElem_cons_zero, Act.put, List.setIfInBounds_toArray, List.set_cons_zero, List.set_cons_succ])
    refine till_take (i := 1) (oi := _) (v := ?_) rfl (by kernel_rfl) (by kernel_rfl) (by kernel_rfl) (by kernel_rfl) (fun _ _ _ h => h) hKept hS (Or.inl ⟨by rfl, ?_⟩) ?_; rotate_left; (intro wS hSw; obtain ⟨hSa, hSb⟩ := hSw; have hSc := hSa.cell; have hSd := hSb.cell; go_simp; try with_reducible rfl); intro hKept; (try simp only [List.getElem?_toArray, List.getElem?_cons_succ, List.getElem?_cons_zero, List.getElem_toArray, List.getElem_cons_succ, List.getElem_cons_zero, Act.put, List.setIfInBounds_toArray, List.set_cons_zero, List.set_cons_succ])
    refine till_take (i := 2) (oi := _) (v := ?_) rfl (by kernel_rfl) (by kernel_rfl) (by kernel_rfl) (by kernel_rfl) (fun _ _ _ h => h) hKept hS (Or.inl ⟨by rfl, ?_⟩) ?_; rotate_left; (intro wS hSw; obtain ⟨hSa, hSb⟩ := hSw; have hSc := hSa.cell; have hSd := hSb.cell; go_simp; try with_reducible rfl); intro hKept; (try simp only [List.getElem?_toArray, List.getElem?_cons_succ, List.getElem?_cons_zero, List.getElem_toArray, List.getElem_cons_succ, List.getElem_cons_zero, Act.put, List.setIfInBounds_toArray, List.set_cons_zero, List.set_cons_succ])
    refine till_take (i := 3) (oi := _) (v := ?_) rfl (by kernel_rfl) (by kernel_rfl) (by kernel_rfl) (by kernel_rfl) (fun _ _ _ h => h) hKept hS (Or.inl ⟨by rfl, ?_⟩) ?_; rotate_left; (intro wS hSw; obtain ⟨hSa, hSb⟩ := hSw; have hSc := hSa.cell; have hSd := hSb.cell; go_simp; try with_reducible rfl); intro hKept; (try simp only [List.getElem?_toArray, List.getElem?_cons_succ, List.getElem?_cons_zero, List.getElem_toArray, List.getElem_cons_succ, List.getElem_cons_zero, Act.put, List.setIfInBounds_toArray, List.set_cons_zero, List.set_cons_succ])
    refine till_one (i := 4) (by simp only [List.getElem?_toArray, List.getElem?_cons_succ, List.getElem?_cons_zero]; rfl) (by kernel_rfl) hKept ?_; intro K hK; rw [if_pos (by rfl)]
    go_simp
    refine (par_eq k _ _ l 1 g.H M _ (HL.out.ext HX2.out.drew) hl (by omega) HM.out).mono ?_
    rintro e w3 ⟨rfl, he3⟩
    have HA3 := Aside.mk (HA2.out.drew.ext he3)
    have HR3 := Aside.mk (HR2.out.drew.ext he3)
    have HZ3 := Aside.mk (HZ2.out.drew.ext he3)
    have HX3 := Aside.mk (HX2.out.drew.trans he3)
    clear he3
    refine hK.out _ _ (fun _ => ⟨HA3.out, HR3.out⟩) ?_; clear hS; intro hS hKept; replace hS := hS (by decide); (try simp only [List.getElem?_toArray, List.getElem?_cons_succ, List.getElem?_cons_zero, List.getElem_toArray, List.getElem_cons_succ, List.getElem_cons_zero, Act.put, List.setIfInBounds_toArray, List.set_cons_zero, List.set_cons_succ])
    refine till_take (i := 5) (oi := _) (v := ?_) rfl (by kernel_rfl) (by kernel_rfl) (by kernel_rfl) (by kernel_rfl) (fun _ _ _ h => h) hKept hS (Or.inl ⟨by rfl, ?_⟩) ?_; rotate_left; (intro wS hSw; obtain ⟨hSa, hSb⟩ := hSw; have hSc := hSa.cell; have hSd := hSb.cell; go_simp; try with_reducible rfl); intro hKept; (try simp only [List.getElem?_toArray, List.getElem?_cons_succ, List.getElem?_cons_zero, List.getElem_toArray, List.getElem_cons_succ, List.getElem_cons_zero, Act.put, List.setIfInBounds_toArray, List.set_cons_zero, List.set_cons_succ])
    refine till_one (i := 6) (by simp only [List.getElem?_toArray, List.getElem?_cons_succ, List.getElem?_cons_zero]; rfl) (by kernel_rfl) hKept ?_; intro K hK; rw [if_pos (by rfl)]
    go_simp
    refine (Held_eq g _ _ _ _ X0 Y2 _ hg.W6 hg.H6 HX0.out HY2.out).mono ?_
    rintro e w4 ⟨rfl, he4⟩
    have HA4 := Aside.mk (HA3.out.ext he4)
    have HR4 := Aside.mk (HR3.out.ext he4)
    have HZ4 := Aside.mk (HZ3.out.ext he4)
    have HX4 := Aside.mk (HX3.out.trans he4)
    clear he4
    refine hK.out _ _ (fun _ => ⟨HA4.out, HR4.out⟩) ?_; clear hS; intro hS hKept; replace hS := hS (by decide); (try simp only [List.getElem?_toArray, List.getElem?_cons_succ, List.getElem?_cons_zero, List.getElem_toArray, List.getElem_cons_succ, List.getElem_cons_zero, Act.put, List.setIfInBounds_toArray, List.set_cons_zero, List.set_cons_succ])
    refine till_take (i := 7) (oi := _) (v := ?_) rfl (by kernel_rfl) (by kernel_rfl) (by kernel_rfl) (by kernel_rfl) (fun _ _ _ h => h) hKept hS (Or.inl ⟨by rfl, ?_⟩) ?_; rotate_left; (intro wS hSw; obtain ⟨hSa, hSb⟩ := hSw; have hSc := hSa.cell; have hSd := hSb.cell; go_simp; try with_reducible rfl); intro hKept; (try simp only [List.getElem?_toArray, List.getElem?_cons_succ, List.getElem?_cons_zero, List.getElem_toArray, List.getElem_cons_succ, List.getElem_cons_zero, Act.put, List.setIfInBounds_toArray, List.set_cons_zero, List.set_cons_succ])
    refine till_take (i := 8) (oi := _) (v := ?_) rfl (by kernel_rfl) (by kernel_rfl) (by kernel_rfl) (by kernel_rfl) (fun _ _ _ h => h) hKept hS (Or.inl ⟨by rfl, ?_⟩) ?_; rotate_left; (intro wS hSw; obtain ⟨hSa, hSb⟩ := hSw; have hSc := hSa.cell; have hSd := hSb.cell; go_simp; try with_reducible rfl); intro hKept; (try simp only [List.getElem?_toArray, List.getElem?_cons_succ, List.getElem?_cons_zero, List.getElem_toArray, List.getElem_cons_succ, List.getElem_cons_zero, Act.put, List.setIfInBounds_toArray, List.set_cons_zero, List.set_cons_succ])
    refine till_take (i := 9) (oi := _) (v := ?_) rfl (by kernel_rfl) (by kernel_rfl) (by kernel_rfl) (by kernel_rfl) (fun _ _ _ h => h) hKept hS (Or.inl ⟨by rfl, ?_⟩) ?_; rotate_left; (intro wS hSw; obtain ⟨hSa, hSb⟩ := hSw; have hSc := hSa.cell; have hSd := hSb.cell; go_simp; try with_reducible rfl); intro hKept; (try simp only [List.getElem?_toArray, List.getElem?_cons_succ, List.getElem?_cons_zero, List.getElem_toArray, List.getElem_cons_succ, List.getElem_cons_zero, Act.put, List.setIfInBounds_toArray, List.set_cons_zero, List.set_cons_succ])
    refine till_take (i := 10) (oi := _) (v := ?_) rfl (by kernel_rfl) (by kernel_rfl) (by kernel_rfl) (by kernel_rfl) (fun _ _ _ h => h) hKept hS (Or.inl ⟨by rfl, ?_⟩) ?_; rotate_left; (intro wS hSw; obtain ⟨hSa, hSb⟩ := hSw; have hSc := hSa.cell; have hSd := hSb.cell; go_simp; try with_reducible rfl); intro hKept; (try simp only [List.getElem?_toArray, List.getElem?_cons_succ, List.getElem?_cons_zero, List.getElem_toArray, List.getElem_cons_succ, List.getElem_cons_zero, Act.put, List.setIfInBounds_toArray, List.set_cons_zero, List.set_cons_succ])
    refine till_take (i := 11) (oi := _) (v := ?_) rfl (by kernel_rfl) (by kernel_rfl) (by kernel_rfl) (by kernel_rfl) (fun _ _ _ h => h) hKept hS (Or.inl ⟨by rfl, ?_⟩) ?_; rotate_left; (intro wS hSw; obtain ⟨hSa, hSb⟩ := hSw; have hSc := hSa.cell; have hSd := hSb.cell; go_simp; try with_reducible rfl); intro hKept; (try simp only [List.getElem?_toArray, List.getElem?_cons_succ, List.getElem?_cons_zero, List.getElem_toArray, List.getElem_cons_succ, List.getElem_cons_zero, Act.put, List.setIfInBounds_toArray, List.set_cons_zero, List.set_cons_succ])
    refine till_done (by kernel_rfl) ?_ _
    obtain ⟨hc4, hf4⟩ := HA4.out.rules
    go_wp2_with (first
      | (refine atLoad 31 (.tmp 2) rfl ?_; refine wpList_load_row rfl 31 (.tmp 2) rfl w.heap.size rfl 31 _ (0, 0) _ HA4.out Try.underlying31 rfl size31 ?_)
      | (refine atStore 31 (.tmp 4) (.tmp 30) rfl ?_; refine wpList_store_box _ rfl 31 (.tmp 4) (.tmp 30) rfl (w.heap.size + 2) _ rfl rfl 31 _ HZ4.out size31 rfl rfl ?_; intro w9 hbz hgz; have HZ9 := Aside.mk hbz; have HG9 := Aside.mk hgz; clear hgz hbz))
    refine bodyPost_ret (results_cell_row Try.results73 _ _ (w.heap.size + 2) 31 _ (0, 0) _ rfl HZ9.out Try.underlying31 rfl size31) rfl ?_
    exact ⟨rfl, HX4.out.of_grown HG9.out (by intro k hk; cases hk; omega)⟩
  · rw [show regionG g l = moveG { g with Top := Y1, Bottom := Y2 } 0 0 from by rw [HP.out, if_neg (by simpa using hd)]]
    go_enter Try.func73, Try.ntmps73
    go_wp2
    refine wp_region_till 100 (fun w' => Box w' w.heap.size 31 #[.int .i64 g.W, .int .i64 g.H, .int .i64 g.X, .int .i64 g.Y, .bool g.Wrap, .int .i64 g.A, .int .i64 g.Top, .int .i64 g.Bottom, .int .i64 g.SX, .int .i64 g.SY, .int .i64 g.SA, .bool g.NoWrap, .bool g.Hidden, .slice ar nr cr, .slice ab nb cb] ∧ Box w' (w.heap.size + 1) 35 #[.int .i64 k, .int .i32 r, .slice ap l.length cp]) (by rfl) ⟨HA.out.drew, HR.out.drew⟩ ?_
    intro hS
    refine ⟨kept_none _ rfl, fun hKept => ?_⟩
    refine till_take (i := 0) (oi := _) (v := ?_) rfl (by kernel_rfl) (by kernel_rfl) (by kernel_rfl) (by kernel_rfl) (fun _ _ _ h => h) hKept hS (Or.inl ⟨by rfl, ?_⟩) ?_; rotate_left; (intro wS hSw; obtain ⟨hSa, hSb⟩ := hSw; have hSc := hSa.cell; have hSd := hSb.cell; go_simp; try with_reducible rfl); intro hKept; (try simp only [List.getElem?_toArray, List.getElem?_cons_succ, List.getElem?_cons_zero, List.getElem_toArray, List.getElem_cons_succ, List.getElem_cons_zero, Act.put, List.setIfInBounds_toArray, List.set_cons_zero, List.set_cons_succ])
    refine till_take (i := 1) (oi := _) (v := ?_) rfl (by kernel_rfl) (by kernel_rfl) (by kernel_rfl) (by kernel_rfl) (fun _ _ _ h => h) hKept hS (Or.inl ⟨by rfl, ?_⟩) ?_; rotate_left; (intro wS hSw; obtain ⟨hSa, hSb⟩ := hSw; have hSc := hSa.cell; have hSd := hSb.cell; go_simp; try with_reducible rfl); intro hKept; (try simp only [List.getElem?_toArray, List.getElem?_cons_succ, List.getElem?_cons_zero, List.getElem_toArray, List.getElem_cons_succ, List.getElem_cons_zero, Act.put, List.setIfInBounds_toArray, List.set_cons_zero, List.set_cons_succ])
    refine till_one (i := 2) (by simp only [List.getElem?_toArray, List.getElem?_cons_succ, List.getElem?_cons_zero]; rfl) (by kernel_rfl) hKept ?_; intro K hK; rw [if_pos (by rfl)]
    go_simp
    refine (par_eq k _ _ l 0 1 N _ (HL.out.ext HW.out.drew) hl (by omega) HN.out).mono ?_
    rintro e w1 ⟨rfl, he1⟩
    have HA1 := Aside.mk (HA.out.drew.ext he1)
    have HR1 := Aside.mk (HR.out.drew.ext he1)
    have HZ1 := Aside.mk (HZ.out.drew.ext he1)
    have HX1 := Aside.mk (HW.out.drew.trans he1)
    clear he1
    refine hK.out _ _ (fun _ => ⟨HA1.out, HR1.out⟩) ?_; clear hS; intro hS hKept; replace hS := hS (by decide); (try simp only [List.getElem?_toArray, List.getElem?_cons_succ, List.getElem?_cons_zero, List.getElem_toArray, List.getElem_cons_succ, List.getElem_cons_zero, Act.put, List.setIfInBounds_toArray, List.set_cons_zero, List.set_cons_succ])
    refine till_take (i := 3) (oi := _) (v := ?_) rfl (by kernel_rfl) (by kernel_rfl) (by kernel_rfl) (by kernel_rfl) (fun _ _ _ h => h) hKept hS (Or.inl ⟨by rfl, ?_⟩) ?_; rotate_left; (intro wS hSw; obtain ⟨hSa, hSb⟩ := hSw; have hSc := hSa.cell; have hSd := hSb.cell; go_simp; try with_reducible rfl); intro hKept; (try simp only [List.getElem?_toArray, List.getElem?_cons_succ, List.getElem?_cons_zero, List.getElem_toArray, List.getElem_cons_succ, List.getElem_cons_zero, Act.put, List.setIfInBounds_toArray, List.set_cons_zero, List.set_cons_succ])
    refine till_one (i := 4) (by simp only [List.getElem?_toArray, List.getElem?_cons_succ, List.getElem?_cons_zero]; rfl) (by kernel_rfl) hKept ?_; intro K hK; rw [if_pos (by rfl)]
    go_simp
    refine (Held_eq g _ _ _ _ X0 Y1 _ hg.W6 hg.H6 HX0.out HY1.out).mono ?_
    rintro e w2 ⟨rfl, he2⟩
    have HA2 := Aside.mk (HA1.out.ext he2)
    have HR2 := Aside.mk (HR1.out.ext he2)
    have HZ2 := Aside.mk (HZ1.out.ext he2)
    have HX2 := Aside.mk (HX1.out.trans he2)
    clear he2
    refine hK.out _ _ (fun _ => ⟨HA2.out, HR2.out⟩) ?_; clear hS; intro hS hKept; replace hS := hS (by decide); (try simp only [List.getElem?_toArray, List.getElem?_cons_succ, List.getElem?_cons_zero, List.getElem_toArray, List.getElem_cons_succ, List.getElem_cons_zero, Act.put, List.setIfInBounds_toArray, List.set_cons_zero, List.set_cons_succ])
    refine till_take (i := 5) (oi := _) (v := ?_) rfl (by kernel_rfl) (by kernel_rfl) (by kernel_rfl) (by kernel_rfl) (fun _ _ _ h => h) hKept hS (Or.inl ⟨by rfl, ?_⟩) ?_; rotate_left; (intro wS hSw; obtain ⟨hSa, hSb⟩ := hSw; have hSc := hSa.cell; have hSd := hSb.cell; go_simp; try with_reducible rfl); intro hKept; (try simp only [List.getElem?_toArray, List.getElem?_cons_succ, List.getElem?_cons_zero, List.getElem_toArray, List.getElem_cons_succ, List.getElem_cons_zero, Act.put, List.setIfInBounds_toArray, List.set_cons_zero, List.set_cons_succ])
    refine till_take (i := 6) (oi := _) (v := ?_) rfl (by kernel_rfl) (by kernel_rfl) (by kernel_rfl) (by kernel_rfl) (fun _ _ _ h => h) hKept hS (Or.inl ⟨by rfl, ?_⟩) ?_; rotate_left; (intro wS hSw; obtain ⟨hSa, hSb⟩ := hSw; have hSc := hSa.cell; have hSd := hSb.cell; go_simp; try with_reducible rfl); intro hKept; (try simp only [List.getElem?_toArray, List.getElem?_cons_succ, List.getElem?_cons_zero, List.getElem_toArray, List.getElem_cons_succ, List.getElem_cons_zero, Act.put, List.setIfInBounds_toArray, List.set_cons_zero, List.set_cons_succ])
    refine till_take (i := 7) (oi := _) (v := ?_) rfl (by kernel_rfl) (by kernel_rfl) (by kernel_rfl) (by kernel_rfl) (fun _ _ _ h => h) hKept hS (Or.inl ⟨by rfl, ?_⟩) ?_; rotate_left; (intro wS hSw; obtain ⟨hSa, hSb⟩ := hSw; have hSc := hSa.cell; have hSd := hSb.cell; go_simp; try with_reducible rfl); intro hKept; (try simp only [List.getElem?_toArray, List.getElem?_cons_succ, List.getElem?_cons_zero, List.getElem_toArray, List.getElem_cons_succ, List.getElem_cons_zero, Act.put, List.setIfInBounds_toArray, List.set_cons_zero, List.set_cons_succ])
    refine till_take (i := 8) (oi := _) (v := ?_) rfl (by kernel_rfl) (by kernel_rfl) (by kernel_rfl) (by kernel_rfl) (fun _ _ _ h => h) hKept hS (Or.inl ⟨by rfl, ?_⟩) ?_; rotate_left; (intro wS hSw; obtain ⟨hSa, hSb⟩ := hSw; have hSc := hSa.cell; have hSd := hSb.cell; go_simp; try with_reducible rfl); intro hKept; (try simp only [List.getElem?_toArray, List.getElem?_cons_succ, List.getElem?_cons_zero, List.getElem_toArray, List.getElem_cons_succ, List.getElem_cons_zero, Act.put, List.setIfInBounds_toArray, List.set_cons_zero, List.set_cons_succ])
    refine till_take (i := 9) (oi := _) (v := ?_) rfl (by kernel_rfl) (by kernel_rfl) (by kernel_rfl) (by kernel_rfl) (fun _ _ _ h => h) hKept hS (Or.inl ⟨by rfl, ?_⟩) ?_; rotate_left; (intro wS hSw; obtain ⟨hSa, hSb⟩ := hSw; have hSc := hSa.cell; have hSd := hSb.cell; go_simp; try with_reducible rfl); intro hKept; (try simp only [List.getElem?_toArray, List.getElem?_cons_succ, List.getElem?_cons_zero, List.getElem_toArray, List.getElem_cons_succ, List.getElem_cons_zero, Act.put, List.setIfInBounds_toArray, List.set_cons_zero, List.set_cons_succ])
    refine till_done (by kernel_rfl) ?_ _
    go_wp2
    refine wp_region_till 100 (fun w' => Box w' w.heap.size 31 #[.int .i64 g.W, .int .i64 g.H, .int .i64 g.X, .int .i64 g.Y, .bool g.Wrap, .int .i64 g.A, .int .i64 g.Top, .int .i64 g.Bottom, .int .i64 g.SX, .int .i64 g.SY, .int .i64 g.SA, .bool g.NoWrap, .bool g.Hidden, .slice ar nr cr, .slice ab nb cb] ∧ Box w' (w.heap.size + 1) 35 #[.int .i64 k, .int .i32 r, .slice ap l.length cp]) (by rfl) ⟨HA2.out.drew, HR2.out.drew⟩ ?_
    intro hS
    refine ⟨kept_none _ rfl, fun hKept => ?_⟩
    refine till_take (i := 0) (oi := _) (v := ?_) rfl (by kernel_rfl) (by kernel_rfl) (by kernel_rfl) (by kernel_rfl) (fun _ _ _ h => h) hKept hS (Or.inl ⟨by rfl, ?_⟩) ?_; rotate_left; (intro wS hSw; obtain ⟨hSa, hSb⟩ := hSw; have hSc := hSa.cell; have hSd := hSb.cell; go_simp; try with_reducible rfl); intro hKept; (try simp only [List.getElem?_toArray, List.getElem?_cons_succ, List.getElem?_cons_zero, List.getElem_toArray, List.getElem_cons_succ, List.getElem_cons_zero, Act.put, List.setIfInBounds_toArray, List.set_cons_zero, List.set_cons_succ])
    refine till_take (i := 1) (oi := _) (v := ?_) rfl (by kernel_rfl) (by kernel_rfl) (by kernel_rfl) (by kernel_rfl) (fun _ _ _ h => h) hKept hS (Or.inl ⟨by rfl, ?_⟩) ?_; rotate_left; (intro wS hSw; obtain ⟨hSa, hSb⟩ := hSw; have hSc := hSa.cell; have hSd := hSb.cell; go_simp; try with_reducible rfl); intro hKept; (try simp only [List.getElem?_toArray, List.getElem?_cons_succ, List.getElem?_cons_zero, List.getElem_toArray, List.getElem_cons_succ, List.getElem_cons_zero, Act.put, List.setIfInBounds_toArray, List.set_cons_zero, List.set_cons_succ])
    refine till_take (i := 2) (oi := _) (v := ?_) rfl (by kernel_rfl) (by kernel_rfl) (by kernel_rfl) (by kernel_rfl) (fun _ _ _ h => h) hKept hS (Or.inl ⟨by rfl, ?_⟩) ?_; rotate_left; (intro wS hSw; obtain ⟨hSa, hSb⟩ := hSw; have hSc := hSa.cell; have hSd := hSb.cell; go_simp; try with_reducible rfl); intro hKept; (try simp only [List.getElem?_toArray, List.getElem?_cons_succ, List.getElem?_cons_zero, List.getElem_toArray, List.getElem_cons_succ, List.getElem_cons_zero, Act.put, List.setIfInBounds_toArray, List.set_cons_zero, List.set_cons_succ])
    refine till_take (i := 3) (oi := _) (v := ?_) rfl (by kernel_rfl) (by kernel_rfl) (by kernel_rfl) (by kernel_rfl) (fun _ _ _ h => h) hKept hS (Or.inl ⟨by rfl, ?_⟩) ?_; rotate_left; (intro wS hSw; obtain ⟨hSa, hSb⟩ := hSw; have hSc := hSa.cell; have hSd := hSb.cell; go_simp; try with_reducible rfl); intro hKept; (try simp only [List.getElem?_toArray, List.getElem?_cons_succ, List.getElem?_cons_zero, List.getElem_toArray, List.getElem_cons_succ, List.getElem_cons_zero, Act.put, List.setIfInBounds_toArray, List.set_cons_zero, List.set_cons_succ])
    refine till_one (i := 4) (by simp only [List.getElem?_toArray, List.getElem?_cons_succ, List.getElem?_cons_zero]; rfl) (by kernel_rfl) hKept ?_; intro K hK; rw [if_pos (by rfl)]
    go_simp
    refine (par_eq k _ _ l 1 g.H M _ (HL.out.ext HX2.out.drew) hl (by omega) HM.out).mono ?_
    rintro e w3 ⟨rfl, he3⟩
    have HA3 := Aside.mk (HA2.out.drew.ext he3)
    have HR3 := Aside.mk (HR2.out.drew.ext he3)
    have HZ3 := Aside.mk (HZ2.out.drew.ext he3)
    have HX3 := Aside.mk (HX2.out.drew.trans he3)
    clear he3
    refine hK.out _ _ (fun _ => ⟨HA3.out, HR3.out⟩) ?_; clear hS; intro hS hKept; replace hS := hS (by decide); (try simp only [List.getElem?_toArray, List.getElem?_cons_succ, List.getElem?_cons_zero, List.getElem_toArray, List.getElem_cons_succ, List.getElem_cons_zero, Act.put, List.setIfInBounds_toArray, List.set_cons_zero, List.set_cons_succ])
    refine till_take (i := 5) (oi := _) (v := ?_) rfl (by kernel_rfl) (by kernel_rfl) (by kernel_rfl) (by kernel_rfl) (fun _ _ _ h => h) hKept hS (Or.inl ⟨by rfl, ?_⟩) ?_; rotate_left; (intro wS hSw; obtain ⟨hSa, hSb⟩ := hSw; have hSc := hSa.cell; have hSd := hSb.cell; go_simp; try with_reducible rfl); intro hKept; (try simp only [List.getElem?_toArray, List.getElem?_cons_succ, List.getElem?_cons_zero, List.getElem_toArray, List.getElem_cons_succ, List.getElem_cons_zero, Act.put, List.setIfInBounds_toArray, List.set_cons_zero, List.set_cons_succ])
    refine till_one (i := 6) (by simp only [List.getElem?_toArray, List.getElem?_cons_succ, List.getElem?_cons_zero]; rfl) (by kernel_rfl) hKept ?_; intro K hK; rw [if_pos (by rfl)]
    go_simp
    refine (Held_eq g _ _ _ _ X0 Y2 _ hg.W6 hg.H6 HX0.out HY2.out).mono ?_
    rintro e w4 ⟨rfl, he4⟩
    have HA4 := Aside.mk (HA3.out.ext he4)
    have HR4 := Aside.mk (HR3.out.ext he4)
    have HZ4 := Aside.mk (HZ3.out.ext he4)
    have HX4 := Aside.mk (HX3.out.trans he4)
    clear he4
    refine hK.out _ _ (fun _ => ⟨HA4.out, HR4.out⟩) ?_; clear hS; intro hS hKept; replace hS := hS (by decide); (try simp only [List.getElem?_toArray, List.getElem?_cons_succ, List.getElem?_cons_zero, List.getElem_toArray, List.getElem_cons_succ, List.getElem_cons_zero, Act.put, List.setIfInBounds_toArray, List.set_cons_zero, List.set_cons_succ])
    refine till_take (i := 7) (oi := _) (v := ?_) rfl (by kernel_rfl) (by kernel_rfl) (by kernel_rfl) (by kernel_rfl) (fun _ _ _ h => h) hKept hS (Or.inl ⟨by rfl, ?_⟩) ?_; rotate_left; (intro wS hSw; obtain ⟨hSa, hSb⟩ := hSw; have hSc := hSa.cell; have hSd := hSb.cell; go_simp; try with_reducible rfl); intro hKept; (try simp only [List.getElem?_toArray, List.getElem?_cons_succ, List.getElem?_cons_zero, List.getElem_toArray, List.getElem_cons_succ, List.getElem_cons_zero, Act.put, List.setIfInBounds_toArray, List.set_cons_zero, List.set_cons_succ])
    refine till_take (i := 8) (oi := _) (v := ?_) rfl (by kernel_rfl) (by kernel_rfl) (by kernel_rfl) (by kernel_rfl) (fun _ _ _ h => h) hKept hS (Or.inl ⟨by rfl, ?_⟩) ?_; rotate_left; (intro wS hSw; obtain ⟨hSa, hSb⟩ := hSw; have hSc := hSa.cell; have hSd := hSb.cell; go_simp; try with_reducible rfl); intro hKept; (try simp only [List.getElem?_toArray, List.getElem?_cons_succ, List.getElem?_cons_zero, List.getElem_toArray, List.getElem_cons_succ, List.getElem_cons_zero, Act.put, List.setIfInBounds_toArray, List.set_cons_zero, List.set_cons_succ])
    refine till_take (i := 9) (oi := _) (v := ?_) rfl (by kernel_rfl) (by kernel_rfl) (by kernel_rfl) (by kernel_rfl) (fun _ _ _ h => h) hKept hS (Or.inl ⟨by rfl, ?_⟩) ?_; rotate_left; (intro wS hSw; obtain ⟨hSa, hSb⟩ := hSw; have hSc := hSa.cell; have hSd := hSb.cell; go_simp; try with_reducible rfl); intro hKept; (try simp only [List.getElem?_toArray, List.getElem?_cons_succ, List.getElem?_cons_zero, List.getElem_toArray, List.getElem_cons_succ, List.getElem_cons_zero, Act.put, List.setIfInBounds_toArray, List.set_cons_zero, List.set_cons_succ])
    refine till_take (i := 10) (oi := _) (v := ?_) rfl (by kernel_rfl) (by kernel_rfl) (by kernel_rfl) (by kernel_rfl) (fun _ _ _ h => h) hKept hS (Or.inl ⟨by rfl, ?_⟩) ?_; rotate_left; (intro wS hSw; obtain ⟨hSa, hSb⟩ := hSw; have hSc := hSa.cell; have hSd := hSb.cell; go_simp; try with_reducible rfl); intro hKept; (try simp only [List.getElem?_toArray, List.getElem?_cons_succ, List.getElem?_cons_zero, List.getElem_toArray, List.getElem_cons_succ, List.getElem_cons_zero, Act.put, List.setIfInBounds_toArray, List.set_cons_zero, List.set_cons_succ])
    refine till_take (i := 11) (oi := _) (v := ?_) rfl (by kernel_rfl) (by kernel_rfl) (by kernel_rfl) (by kernel_rfl) (fun _ _ _ h => h) hKept hS (Or.inl ⟨by rfl, ?_⟩) ?_; rotate_left; (intro wS hSw; obtain ⟨hSa, hSb⟩ := hSw; have hSc := hSa.cell; have hSd := hSb.cell; go_simp; try with_reducible rfl); intro hKept; (try simp only [List.getElem?_toArray, List.getElem?_cons_succ, List.getElem?_cons_zero, List.getElem_toArray, List.getElem_cons_succ, List.getElem_cons_zero, Act.put, List.setIfInBounds_toArray, List.set_cons_zero, List.set_cons_succ])
    refine till_done (by kernel_rfl) ?_ _
    obtain ⟨hc4, hf4⟩ := HA4.out.rules
    have HS1 := Aside.mk (HA4.out.set 6 (.int .i64 Y1)); have HA5 := Aside.mk HS1.out.1; simp only [List.setIfInBounds_toArray, List.set_cons_zero, List.set_cons_succ] at HA5
    have HS2 := Aside.mk (HA5.out.set 7 (.int .i64 Y2)); have HA6 := Aside.mk HS2.out.1; simp only [List.setIfInBounds_toArray, List.set_cons_zero, List.set_cons_succ] at HA6
    have HZ6 := Aside.mk ((HZ4.out.grown HS1.out.2 (by simp)).grown HS2.out.2 (by simp))
    have HX6 := Aside.mk ((HX4.out.of_grown HS1.out.2 (by intro k hk; cases hk; omega)).of_grown HS2.out.2 (by intro k hk; cases hk; omega))
    go_wp2_with (first
      | (refine atLoad 31 (.tmp 2) rfl ?_; refine wpList_load_row rfl 31 (.tmp 2) rfl w.heap.size rfl 31 _ (0, 0) _ HA6.out Try.underlying31 rfl size31 ?_)
      | (go_at_call 59; refine (move_any { g with Top := Y1, Bottom := Y2 } _ _ _ _ _ _ 0 0 _ hg.W6 hg.H6).mono ?_; rintro e w8 ⟨rfl, he8⟩; have HE8 := Aside.mk he8; have HZ8 := Aside.mk (HZ6.out.ext he8); clear he8)
      | (refine atStore 31 (.tmp 4) (.tmp 36) rfl ?_; refine wpList_store_box _ rfl 31 (.tmp 4) (.tmp 36) rfl (w.heap.size + 2) _ rfl rfl 31 _ HZ8.out size31 rfl rfl ?_; intro w9 hbz hgz; have HZ9 := Aside.mk hbz; have HG9 := Aside.mk hgz; clear hgz hbz))
    refine bodyPost_ret (results_cell_row Try.results73 _ _ (w.heap.size + 2) 31 _ (0, 0) _ rfl HZ9.out Try.underlying31 rfl size31) rfl ?_
    exact ⟨rfl, (HX6.out.trans HE8.out).of_grown HG9.out (by intro k hk; cases hk; omega)⟩
end Go.Proofs.Ytmehkikkjebnnaa
