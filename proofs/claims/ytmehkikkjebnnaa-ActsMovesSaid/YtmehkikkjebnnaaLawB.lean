/-
  Walks: polyptychlaw6.ActsMoves.
-/
import Derived.Test.YtmehkikkjebnnaaLawA
import Derived.Test.YtmehkikkjebnnaaBitsA
import Derived.Deep.DeepCutAuto
import Derived.Deep.CutBlock
set_option linter.unusedVariables false
set_option linter.unusedSimpArgs false
namespace Go.Proofs.Ytmehkikkjebnnaa
open Go.RowKit
attribute [local go_sem] max2_i min2_i max_two min_two
attribute [local go_sem ↓] Go.wp_at_zero Go.wp_at_succ

theorem newG_mv (W H : Int) (hW : 1 ≤ W ∧ W ≤ 32) (hH : 1 ≤ H ∧ H ≤ 32) : newG W H = (⟨W, H, 0, 0, false, 0, 0, H - 1, 0, 0, 0, false, false, blankRows W H, []⟩ : Grid) := by
  unfold newG
  rw [show min (max W 1) 1000 = W from by omega, show min (max H 1) 1000 = H from by omega]
theorem mv_wf (W H x y : Int) (hW : 1 ≤ W ∧ W ≤ 32) (hH : 1 ≤ H ∧ H ≤ 32) (hx : 0 ≤ x ∧ x < W) (hy : 0 ≤ y ∧ y < H) : WFG (⟨W, H, x, y, false, 0, 0, H - 1, 0, 0, 0, false, false, blankRows W H, []⟩ : Grid) := by
  have h := newG_wf W H
  rw [newG_mv W H hW hH] at h
  exact ⟨h.W, h.H, hx, hy, h.SX, h.SY, h.T, h.rows, h.wide, h.back, h.far⟩
def isMove (r : Int) : Prop := r = 65 ∨ r = 66 ∨ r = 67 ∨ r = 68 ∨ r = 71 ∨ r = 100 ∨ r = 72 ∨ r = 102
def goX (W r x n q : Int) : Int := min (max (if r = 67 then x + max n 1 else if r = 68 then x - max n 1 else if r = 71 then max n 1 - 1 else if r = 72 ∨ r = 102 then max q 1 - 1 else x) 0) (W - 1)
def goY (H r y n : Int) : Int := min (max (if r = 65 then y - max n 1 else if r = 66 then y + max n 1 else if r = 100 then max n 1 - 1 else if r = 72 ∨ r = 102 then max n 1 - 1 else y) 0) (H - 1)
theorem parOf_two (n q : Int) (hn : 0 ≤ n) (hq : 0 ≤ q) : parOf [n, q] 0 1 = max n 1 ∧ parOf [n, q] 1 1 = max q 1 := by
  unfold parOf
  constructor
  · by_cases h : 0 < n
    · rw [if_pos ⟨by simp, by simpa using h⟩]; simp; omega
    · rw [if_neg (by simp; omega)]; omega
  · by_cases h : 0 < q
    · rw [if_pos ⟨by simp, by simpa using h⟩]; simp; omega
    · rw [if_neg (by simp; omega)]; omega
theorem apply_mv (W H x y r n q : Int) (hW : 1 ≤ W ∧ W ≤ 32) (hH : 1 ≤ H ∧ H ≤ 32) (hx : 0 ≤ x ∧ x < W) (hy : 0 ≤ y ∧ y < H) (hn : 0 ≤ n) (hq : 0 ≤ q) (hr : isMove r) :
    applyG (⟨W, H, x, y, false, 0, 0, H - 1, 0, 0, 0, false, false, blankRows W H, []⟩ : Grid) 4 r [n, q] = (⟨W, H, goX W r x n q, goY H r y n, false, 0, 0, H - 1, 0, 0, 0, false, false, blankRows W H, []⟩ : Grid) := by
  obtain ⟨h1, h2⟩ := parOf_two n q hn hq
  have e1 : ∀ z : Int, min (max z 0) (max (W - 1) 0) = min (max z 0) (W - 1) := fun z => by omega
  have e2 : ∀ z : Int, min (max z 0) (max (H - 1) 0) = min (max z 0) (H - 1) := fun z => by omega
  rcases hr with rfl | rfl | rfl | rfl | rfl | rfl | rfl | rfl
  all_goals simp [applyG, longG, jumpG, moveG, heldX, heldY, h1, h2, e1, e2, goX, goY]

theorem letter_of (j : Int) (h0 : 0 ≤ j) (h1 : j ≤ 7) : ∃ R : Nat, isMove (R : Int) ∧ R ≤ 127 ∧ ∀ h : j.toNat < (⟨#[65, 66, 67, 68, 71, 100, 72, 102]⟩ : ByteArray).size, (⟨#[65, 66, 67, 68, 71, 100, 72, 102]⟩ : ByteArray)[j.toNat].toNat = R := by
  have hj : j = 0 ∨ j = 1 ∨ j = 2 ∨ j = 3 ∨ j = 4 ∨ j = 5 ∨ j = 6 ∨ j = 7 := by omega
  unfold isMove
  rcases hj with rfl | rfl | rfl | rfl | rfl | rfl | rfl | rfl
  all_goals exact ⟨_, by decide, by decide, fun h => rfl⟩

/-- A block known whole, as a slice. -/
theorem Holds.of_box {w : World} {b : Nat} {t : TypeId} {cs : List Value} {n sz : Nat} (h : Box w b t cs.toArray) (hl : cs.length = n * sz) (h1 : ∀ u ∈ cs, u.oneCell' = true) (hn : n ≤ 1000000) : Holds w sz (.slice (some ⟨b, 0, none⟩) n n) n cs :=
  ⟨hl, h1, _, n, rfl, Nat.le_refl _, by unfold maxLen; omega, fun _ => ⟨b, 0, rfl, fun j hj => by rw [h.cell]; simp⟩⟩

/-- What region 9 leaves: the action. -/
def ActAt (w0 : World) (r n q : Int) (s : Value) (w : World) : Prop := ∃ P p : Nat, s = .pointer (some ⟨P, 0, none⟩) ∧ Aside (Box w P 35 #[.int .i64 4, .int .i32 r, .slice (some ⟨p, 0, none⟩) 2 2]) ∧ Aside (IntsAt w (.slice (some ⟨p, 0, none⟩) 2 2) [n, q]) ∧ Aside (Ext w0 w)

@[local go_sem] theorem field13 (W H X Y A T B SX SY SA : Int) (a b c : Bool) (r k : Option Addr) (n m i j : Nat) (w : World) : (Instr.field 31 (.agg #[.int .i64 W, .int .i64 H, .int .i64 X, .int .i64 Y, .bool a, .int .i64 A, .int .i64 T, .int .i64 B, .int .i64 SX, .int .i64 SY, .int .i64 SA, .bool b, .bool c, .slice r n m, .slice k i j]) 13).run Try.prog w = .ok (.slice r n m) w := by kernel_rfl
theorem size35 : (Try.prog.info? 35).map (·.size) = some 3 := by kernel_rfl

set_option maxRecDepth 100000 in
set_option maxHeartbeats 2000000 in
theorem ActsMoves_any (a b : Int) (am : Option Addr) (cm : Nat) (ms : List Int) (w : World) (hm : IntsAt w (.slice am ms.length cm) ms) (hml : ms.length ≤ maxLen) :
    Calls Try.prog 4 #[.int .i64 a, .int .i64 b, .slice am ms.length cm] w fun e w' => e = .returned (.bool true) ∧ Ext w w' := by
  obtain ⟨W, hW⟩ : ∃ W, bits .and .i64 a 31 = W - 1 := ⟨bits .and .i64 a 31 + 1, by omega⟩
  obtain ⟨H, hH⟩ : ∃ H, bits .and .i64 b 31 = H - 1 := ⟨bits .and .i64 b 31 + 1, by omega⟩
  have hW2 : 1 ≤ W ∧ W ≤ 32 := by have := and31 a; omega
  have hH2 : 1 ≤ H ∧ H ≤ 32 := by have := and31 b; omega
  obtain ⟨hW0, hW1⟩ := hW2
  obtain ⟨hH0, hH1⟩ := hH2
  have HM := Aside.mk hm
  clear hm
  unfold maxLen at hml
  go_enter Try.func4, Try.ntmps4
  go_wp2_with (fail)
  refine (sNew_to W H (⟨W, H, 0, 0, false, 0, 0, H - 1, 0, 0, 0, false, false, blankRows W H, []⟩ : Grid) _ (newG_mv _ _ (by omega) (by omega))).mono ?_
  rintro e w0 ⟨a0, c0, b0, d0, rfl, HI0, HX0, HW0⟩
  clear hW hH HW0
  have HB0 := Aside.mk (Box.new w0 31 #[.int .i64 (⟨W, H, 0, 0, false, 0, 0, H - 1, 0, 0, 0, false, false, blankRows W H, []⟩ : Grid).W, .int .i64 (⟨W, H, 0, 0, false, 0, 0, H - 1, 0, 0, 0, false, false, blankRows W H, []⟩ : Grid).H, .int .i64 (⟨W, H, 0, 0, false, 0, 0, H - 1, 0, 0, 0, false, false, blankRows W H, []⟩ : Grid).X, .int .i64 (⟨W, H, 0, 0, false, 0, 0, H - 1, 0, 0, 0, false, false, blankRows W H, []⟩ : Grid).Y, .bool (⟨W, H, 0, 0, false, 0, 0, H - 1, 0, 0, 0, false, false, blankRows W H, []⟩ : Grid).Wrap, .int .i64 (⟨W, H, 0, 0, false, 0, 0, H - 1, 0, 0, 0, false, false, blankRows W H, []⟩ : Grid).A, .int .i64 (⟨W, H, 0, 0, false, 0, 0, H - 1, 0, 0, 0, false, false, blankRows W H, []⟩ : Grid).Top, .int .i64 (⟨W, H, 0, 0, false, 0, 0, H - 1, 0, 0, 0, false, false, blankRows W H, []⟩ : Grid).Bottom, .int .i64 (⟨W, H, 0, 0, false, 0, 0, H - 1, 0, 0, 0, false, false, blankRows W H, []⟩ : Grid).SX, .int .i64 (⟨W, H, 0, 0, false, 0, 0, H - 1, 0, 0, 0, false, false, blankRows W H, []⟩ : Grid).SY, .int .i64 (⟨W, H, 0, 0, false, 0, 0, H - 1, 0, 0, 0, false, false, blankRows W H, []⟩ : Grid).SA, .bool (⟨W, H, 0, 0, false, 0, 0, H - 1, 0, 0, 0, false, false, blankRows W H, []⟩ : Grid).NoWrap, .bool (⟨W, H, 0, 0, false, 0, 0, H - 1, 0, 0, 0, false, false, blankRows W H, []⟩ : Grid).Hidden, .slice a0 (⟨W, H, 0, 0, false, 0, 0, H - 1, 0, 0, 0, false, false, blankRows W H, []⟩ : Grid).Rows.length c0, .slice b0 (⟨W, H, 0, 0, false, 0, 0, H - 1, 0, 0, 0, false, false, blankRows W H, []⟩ : Grid).Back.length d0])
  have HE0 := Aside.mk (HX0.out.alloc (.cells #[.int .i64 (⟨W, H, 0, 0, false, 0, 0, H - 1, 0, 0, 0, false, false, blankRows W H, []⟩ : Grid).W, .int .i64 (⟨W, H, 0, 0, false, 0, 0, H - 1, 0, 0, 0, false, false, blankRows W H, []⟩ : Grid).H, .int .i64 (⟨W, H, 0, 0, false, 0, 0, H - 1, 0, 0, 0, false, false, blankRows W H, []⟩ : Grid).X, .int .i64 (⟨W, H, 0, 0, false, 0, 0, H - 1, 0, 0, 0, false, false, blankRows W H, []⟩ : Grid).Y, .bool (⟨W, H, 0, 0, false, 0, 0, H - 1, 0, 0, 0, false, false, blankRows W H, []⟩ : Grid).Wrap, .int .i64 (⟨W, H, 0, 0, false, 0, 0, H - 1, 0, 0, 0, false, false, blankRows W H, []⟩ : Grid).A, .int .i64 (⟨W, H, 0, 0, false, 0, 0, H - 1, 0, 0, 0, false, false, blankRows W H, []⟩ : Grid).Top, .int .i64 (⟨W, H, 0, 0, false, 0, 0, H - 1, 0, 0, 0, false, false, blankRows W H, []⟩ : Grid).Bottom, .int .i64 (⟨W, H, 0, 0, false, 0, 0, H - 1, 0, 0, 0, false, false, blankRows W H, []⟩ : Grid).SX, .int .i64 (⟨W, H, 0, 0, false, 0, 0, H - 1, 0, 0, 0, false, false, blankRows W H, []⟩ : Grid).SY, .int .i64 (⟨W, H, 0, 0, false, 0, 0, H - 1, 0, 0, 0, false, false, blankRows W H, []⟩ : Grid).SA, .bool (⟨W, H, 0, 0, false, 0, 0, H - 1, 0, 0, 0, false, false, blankRows W H, []⟩ : Grid).NoWrap, .bool (⟨W, H, 0, 0, false, 0, 0, H - 1, 0, 0, 0, false, false, blankRows W H, []⟩ : Grid).Hidden, .slice a0 (⟨W, H, 0, 0, false, 0, 0, H - 1, 0, 0, 0, false, false, blankRows W H, []⟩ : Grid).Rows.length c0, .slice b0 (⟨W, H, 0, 0, false, 0, 0, H - 1, 0, 0, 0, false, false, blankRows W H, []⟩ : Grid).Back.length d0] 31))
  have HI1 := Aside.mk (HI0.out.ext (Ext.alloc1 w0 (.cells #[.int .i64 (⟨W, H, 0, 0, false, 0, 0, H - 1, 0, 0, 0, false, false, blankRows W H, []⟩ : Grid).W, .int .i64 (⟨W, H, 0, 0, false, 0, 0, H - 1, 0, 0, 0, false, false, blankRows W H, []⟩ : Grid).H, .int .i64 (⟨W, H, 0, 0, false, 0, 0, H - 1, 0, 0, 0, false, false, blankRows W H, []⟩ : Grid).X, .int .i64 (⟨W, H, 0, 0, false, 0, 0, H - 1, 0, 0, 0, false, false, blankRows W H, []⟩ : Grid).Y, .bool (⟨W, H, 0, 0, false, 0, 0, H - 1, 0, 0, 0, false, false, blankRows W H, []⟩ : Grid).Wrap, .int .i64 (⟨W, H, 0, 0, false, 0, 0, H - 1, 0, 0, 0, false, false, blankRows W H, []⟩ : Grid).A, .int .i64 (⟨W, H, 0, 0, false, 0, 0, H - 1, 0, 0, 0, false, false, blankRows W H, []⟩ : Grid).Top, .int .i64 (⟨W, H, 0, 0, false, 0, 0, H - 1, 0, 0, 0, false, false, blankRows W H, []⟩ : Grid).Bottom, .int .i64 (⟨W, H, 0, 0, false, 0, 0, H - 1, 0, 0, 0, false, false, blankRows W H, []⟩ : Grid).SX, .int .i64 (⟨W, H, 0, 0, false, 0, 0, H - 1, 0, 0, 0, false, false, blankRows W H, []⟩ : Grid).SY, .int .i64 (⟨W, H, 0, 0, false, 0, 0, H - 1, 0, 0, 0, false, false, blankRows W H, []⟩ : Grid).SA, .bool (⟨W, H, 0, 0, false, 0, 0, H - 1, 0, 0, 0, false, false, blankRows W H, []⟩ : Grid).NoWrap, .bool (⟨W, H, 0, 0, false, 0, 0, H - 1, 0, 0, 0, false, false, blankRows W H, []⟩ : Grid).Hidden, .slice a0 (⟨W, H, 0, 0, false, 0, 0, H - 1, 0, 0, 0, false, false, blankRows W H, []⟩ : Grid).Rows.length c0, .slice b0 (⟨W, H, 0, 0, false, 0, 0, H - 1, 0, 0, 0, false, false, blankRows W H, []⟩ : Grid).Back.length d0] 31)))
  have HG0 := Aside.mk HX0.out.size
  go_wp2
  go_loopw [8, 9, 10] (fun sx sy si wr => ∃ (k : Nat) (x y : Int) (a1 b1 : Option Addr) (c1 d1 : Nat), k ≤ 40 ∧ si = .int .i64 k ∧ sx = .int .i64 x ∧ sy = .int .i64 y ∧ 0 ≤ x ∧ x < W ∧ 0 ≤ y ∧ y < H ∧ Aside (Box wr w0.heap.size 31 #[.int .i64 (⟨W, H, x, y, false, 0, 0, H - 1, 0, 0, 0, false, false, blankRows W H, []⟩ : Grid).W, .int .i64 (⟨W, H, x, y, false, 0, 0, H - 1, 0, 0, 0, false, false, blankRows W H, []⟩ : Grid).H, .int .i64 (⟨W, H, x, y, false, 0, 0, H - 1, 0, 0, 0, false, false, blankRows W H, []⟩ : Grid).X, .int .i64 (⟨W, H, x, y, false, 0, 0, H - 1, 0, 0, 0, false, false, blankRows W H, []⟩ : Grid).Y, .bool (⟨W, H, x, y, false, 0, 0, H - 1, 0, 0, 0, false, false, blankRows W H, []⟩ : Grid).Wrap, .int .i64 (⟨W, H, x, y, false, 0, 0, H - 1, 0, 0, 0, false, false, blankRows W H, []⟩ : Grid).A, .int .i64 (⟨W, H, x, y, false, 0, 0, H - 1, 0, 0, 0, false, false, blankRows W H, []⟩ : Grid).Top, .int .i64 (⟨W, H, x, y, false, 0, 0, H - 1, 0, 0, 0, false, false, blankRows W H, []⟩ : Grid).Bottom, .int .i64 (⟨W, H, x, y, false, 0, 0, H - 1, 0, 0, 0, false, false, blankRows W H, []⟩ : Grid).SX, .int .i64 (⟨W, H, x, y, false, 0, 0, H - 1, 0, 0, 0, false, false, blankRows W H, []⟩ : Grid).SY, .int .i64 (⟨W, H, x, y, false, 0, 0, H - 1, 0, 0, 0, false, false, blankRows W H, []⟩ : Grid).SA, .bool (⟨W, H, x, y, false, 0, 0, H - 1, 0, 0, 0, false, false, blankRows W H, []⟩ : Grid).NoWrap, .bool (⟨W, H, x, y, false, 0, 0, H - 1, 0, 0, 0, false, false, blankRows W H, []⟩ : Grid).Hidden, .slice a1 (⟨W, H, x, y, false, 0, 0, H - 1, 0, 0, 0, false, false, blankRows W H, []⟩ : Grid).Rows.length c1, .slice b1 (⟨W, H, x, y, false, 0, 0, H - 1, 0, 0, 0, false, false, blankRows W H, []⟩ : Grid).Back.length d1]) ∧ Aside (InG wr w.heap.size (⟨W, H, x, y, false, 0, 0, H - 1, 0, 0, 0, false, false, blankRows W H, []⟩ : Grid) a1 c1 b1 d1) ∧ Aside (Ext w wr)) (fun _ _ i _ => 40 - (intOf i).toNat)
  case atStart => exact ⟨0, 0, 0, a0, b0, c0, d0, by omega, rfl, rfl, rfl, by omega, by omega, by omega, by omega, HB0, HI1, HE0⟩
  case round =>
    obtain ⟨k, x, y, a1, b1, c1, d1, hk, rfl, rfl, rfl, hx0, hx1, hy0, hy1, HB, HI, HE⟩ := hrel
    clear HB0 HI1 HE0 HI0
    by_cases hlt : k < ms.length
    · by_cases h40 : k < 40
      · have hk0 : (0 : Int) ≤ (k : Int) := by omega
        have hk1 : (k : Int) < (ms.length : Int) := by omega
        obtain ⟨bm, om, hbm, hcm⟩ := (HM.out.ext HE.out).at_ k hlt
        obtain ⟨m, hm⟩ : ∃ m, m = ms.getD k 0 := ⟨_, rfl⟩
        rw [← hm] at hcm
        clear hm
        obtain ⟨n, hn⟩ : ∃ n, bits .and .i64 (m / 8) 63 = n := ⟨_, rfl⟩
        obtain ⟨q, hq⟩ : ∃ q, bits .and .i64 (m / 512) 63 = q := ⟨_, rfl⟩
        obtain ⟨j, hj⟩ : ∃ j, bits .and .i64 m 7 = j := ⟨_, rfl⟩
        have hn2 : 0 ≤ n ∧ n ≤ 63 := by have := and63 (m / 8); omega
        have hq2 : 0 ≤ q ∧ q ≤ 63 := by have := and63 (m / 512); omega
        have hj2 : 0 ≤ j ∧ j ≤ 7 := by have := and7 m; omega
        obtain ⟨hn0, hn1⟩ := hn2
        obtain ⟨hq0, hq1⟩ := hq2
        obtain ⟨hj0, hj1⟩ := hj2
        subst hbm
        obtain ⟨R, hR, hRb, hRi⟩ := letter_of j hj0 hj1
        have hj8 : j < 8 := by omega
        have hR0 : (0 : Int) ≤ (R : Int) := by omega
        have hR1 : (R : Int) ≤ 127 := by omega
        clear hRb
        have eR : IntKind.i32.wrap (R : Int) = R := IntWalk.i32_in _ (by omega)
        have HR := Aside.mk hR
        clear hR
        go_upto_region 9 with fail
        go_cut [13] (fun s13 wx => ActAt wr R n q s13 wx)
        case first =>
          refine wp_region_till 100 (fun w' => w'.cell? ⟨bm, om + k, none⟩ = some (.int .i64 m)) (by rfl) hcm ?_
          intro hS
          refine ⟨kept_none _ rfl, fun hKept => ?_⟩
          refine till_take (i := 0) (oi := _) (v := ?_) rfl (by kernel_rfl) (by kernel_rfl) (by kernel_rfl) (by kernel_rfl) (fun _ _ _ h => h) hKept hS (Or.inl ⟨by rfl, ?_⟩) ?_; rotate_left; (intro wS hSc; go_simp; try with_reducible rfl); intro hKept; (try simp only [List.getElem?_toArray, List.getElem?_cons_succ, List.getElem?_cons_zero, List.getElem_toArray, List.getElem_cons_succ, List.getElem_cons_zero, Act.put, List.setIfInBounds_toArray, List.set_cons_zero, List.set_cons_succ])
          refine till_take (i := 1) (oi := _) (v := ?_) rfl (by kernel_rfl) (by kernel_rfl) (by kernel_rfl) (by kernel_rfl) (fun _ _ _ h => h) hKept hS (Or.inl ⟨by rfl, ?_⟩) ?_; rotate_left; (intro wS hSc; go_simp; try with_reducible rfl); intro hKept; (try simp only [List.getElem?_toArray, List.getElem?_cons_succ, List.getElem?_cons_zero, List.getElem_toArray, List.getElem_cons_succ, List.getElem_cons_zero, Act.put, List.setIfInBounds_toArray, List.set_cons_zero, List.set_cons_succ])
          refine till_take (i := 2) (oi := _) (v := ?_) rfl (by kernel_rfl) (by kernel_rfl) (by kernel_rfl) (by kernel_rfl) (fun _ _ _ h => h) hKept hS (Or.inl ⟨by rfl, ?_⟩) ?_; rotate_left; (intro wS hSc; go_simp; try with_reducible rfl); intro hKept; (try simp only [List.getElem?_toArray, List.getElem?_cons_succ, List.getElem?_cons_zero, List.getElem_toArray, List.getElem_cons_succ, List.getElem_cons_zero, Act.put, List.setIfInBounds_toArray, List.set_cons_zero, List.set_cons_succ])
          refine till_take (i := 3) (oi := _) (v := ?_) rfl (by kernel_rfl) (by kernel_rfl) (by kernel_rfl) (by kernel_rfl) (fun _ _ _ h => h) hKept hS (Or.inl ⟨by rfl, ?_⟩) ?_; rotate_left; (intro wS hSc; go_simp; try with_reducible rfl); intro hKept; (try simp only [List.getElem?_toArray, List.getElem?_cons_succ, List.getElem?_cons_zero, List.getElem_toArray, List.getElem_cons_succ, List.getElem_cons_zero, Act.put, List.setIfInBounds_toArray, List.set_cons_zero, List.set_cons_succ])
          refine till_take (i := 4) (oi := _) (v := ?_) rfl (by kernel_rfl) (by kernel_rfl) (by kernel_rfl) (by kernel_rfl) (fun _ _ _ h => h) hKept hS (Or.inl ⟨by rfl, ?_⟩) ?_; rotate_left; (intro wS hSc; go_simp; try with_reducible rfl); intro hKept; (try simp only [List.getElem?_toArray, List.getElem?_cons_succ, List.getElem?_cons_zero, List.getElem_toArray, List.getElem_cons_succ, List.getElem_cons_zero, Act.put, List.setIfInBounds_toArray, List.set_cons_zero, List.set_cons_succ])
          refine till_take (i := 5) (oi := _) (v := ?_) rfl (by kernel_rfl) (by kernel_rfl) (by kernel_rfl) (by kernel_rfl) (fun _ _ _ h => h) hKept hS (Or.inl ⟨by rfl, ?_⟩) ?_; rotate_left; (intro wS hSc; go_simp; try with_reducible rfl); intro hKept; (try simp only [List.getElem?_toArray, List.getElem?_cons_succ, List.getElem?_cons_zero, List.getElem_toArray, List.getElem_cons_succ, List.getElem_cons_zero, Act.put, List.setIfInBounds_toArray, List.set_cons_zero, List.set_cons_succ])
          refine till_take (i := 6) (oi := _) (v := ?_) rfl (by kernel_rfl) (by kernel_rfl) (by kernel_rfl) (by kernel_rfl) (fun _ _ _ h => h) hKept hS (Or.inl ⟨by rfl, ?_⟩) ?_; rotate_left; (intro wS hSc; go_simp; try with_reducible rfl); intro hKept; (try simp only [List.getElem?_toArray, List.getElem?_cons_succ, List.getElem?_cons_zero, List.getElem_toArray, List.getElem_cons_succ, List.getElem_cons_zero, Act.put, List.setIfInBounds_toArray, List.set_cons_zero, List.set_cons_succ])
          refine till_take (i := 7) (oi := _) (v := ?_) rfl (by kernel_rfl) (by kernel_rfl) (by kernel_rfl) (by kernel_rfl) (fun _ _ _ h => h) hKept hS (Or.inl ⟨by rfl, ?_⟩) ?_; rotate_left; (intro wS hSc; go_simp; try with_reducible rfl); intro hKept; (try simp only [List.getElem?_toArray, List.getElem?_cons_succ, List.getElem?_cons_zero, List.getElem_toArray, List.getElem_cons_succ, List.getElem_cons_zero, Act.put, List.setIfInBounds_toArray, List.set_cons_zero, List.set_cons_succ])
          refine till_take (i := 8) (oi := _) (v := ?_) rfl (by kernel_rfl) (by kernel_rfl) (by kernel_rfl) (by kernel_rfl) (fun _ _ _ h => h) hKept hS (Or.inl ⟨by rfl, ?_⟩) ?_; rotate_left; (intro wS hSc; go_simp; try with_reducible rfl); intro hKept; (try simp only [List.getElem?_toArray, List.getElem?_cons_succ, List.getElem?_cons_zero, List.getElem_toArray, List.getElem_cons_succ, List.getElem_cons_zero, Act.put, List.setIfInBounds_toArray, List.set_cons_zero, List.set_cons_succ])
          refine till_take (i := 9) (oi := _) (v := ?_) rfl (by kernel_rfl) (by kernel_rfl) (by kernel_rfl) (by kernel_rfl) (fun _ _ _ h => h) hKept hS (Or.inl ⟨by rfl, ?_⟩) ?_; rotate_left; (intro wS hSc; go_simp; try with_reducible rfl); intro hKept; (try simp only [List.getElem?_toArray, List.getElem?_cons_succ, List.getElem?_cons_zero, List.getElem_toArray, List.getElem_cons_succ, List.getElem_cons_zero, Act.put, List.setIfInBounds_toArray, List.set_cons_zero, List.set_cons_succ])
          refine till_take (i := 10) (oi := _) (v := ?_) rfl (by kernel_rfl) (by kernel_rfl) (by kernel_rfl) (by kernel_rfl) (fun _ _ _ h => h) hKept hS (Or.inl ⟨by rfl, ?_⟩) ?_; rotate_left; (intro wS hSc; go_simp; try with_reducible rfl); intro hKept; (try simp only [List.getElem?_toArray, List.getElem?_cons_succ, List.getElem?_cons_zero, List.getElem_toArray, List.getElem_cons_succ, List.getElem_cons_zero, Act.put, List.setIfInBounds_toArray, List.set_cons_zero, List.set_cons_succ])
          refine till_take (i := 11) (oi := _) (v := ?_) rfl (by kernel_rfl) (by kernel_rfl) (by kernel_rfl) (by kernel_rfl) (fun _ _ _ h => h) hKept hS (Or.inl ⟨by rfl, ?_⟩) ?_; rotate_left; (intro wS hSc; go_simp; try with_reducible rfl); intro hKept; (try simp only [List.getElem?_toArray, List.getElem?_cons_succ, List.getElem?_cons_zero, List.getElem_toArray, List.getElem_cons_succ, List.getElem_cons_zero, Act.put, List.setIfInBounds_toArray, List.set_cons_zero, List.set_cons_succ])
          refine till_take (i := 12) (oi := _) (v := ?_) rfl (by kernel_rfl) (by kernel_rfl) (by kernel_rfl) (by kernel_rfl) (fun _ _ _ h => h) hKept hS (Or.inl ⟨by rfl, ?_⟩) ?_; rotate_left; (intro wS hSc; go_simp; try with_reducible rfl); intro hKept; (try simp only [List.getElem?_toArray, List.getElem?_cons_succ, List.getElem?_cons_zero, List.getElem_toArray, List.getElem_cons_succ, List.getElem_cons_zero, Act.put, List.setIfInBounds_toArray, List.set_cons_zero, List.set_cons_succ])
          refine till_take (i := 13) (oi := _) (v := ?_) rfl (by kernel_rfl) (by kernel_rfl) (by kernel_rfl) (by kernel_rfl) (fun _ _ _ h => h) hKept hS (Or.inl ⟨by rfl, ?_⟩) ?_; rotate_left; (intro wS hSc; go_simp; try with_reducible rfl); intro hKept; (try simp only [List.getElem?_toArray, List.getElem?_cons_succ, List.getElem?_cons_zero, List.getElem_toArray, List.getElem_cons_succ, List.getElem_cons_zero, Act.put, List.setIfInBounds_toArray, List.set_cons_zero, List.set_cons_succ])
          refine till_two (i := 14) (j := 16) (by simp only [List.getElem?_toArray, List.getElem?_cons_succ, List.getElem?_cons_zero]; rfl) (by simp only [List.getElem?_toArray, List.getElem?_cons_succ, List.getElem?_cons_zero]; rfl) (by kernel_rfl) hKept ?_ ?_
          all_goals (intro K hK; rw [if_pos (by rfl)])
          · go_simp
            refine hK.out _ _ (fun _ => ((Ext.alloc1 _ _).drew).cell hcm) ?_; clear hS; intro hS hKept; replace hS := hS (by decide); (try simp only [List.getElem?_toArray, List.getElem?_cons_succ, List.getElem?_cons_zero, List.getElem_toArray, List.getElem_cons_succ, List.getElem_cons_zero, Act.put, List.setIfInBounds_toArray, List.set_cons_zero, List.set_cons_succ])
            refine till_take (i := 15) (oi := _) (v := ?_) rfl (by kernel_rfl) (by kernel_rfl) (by kernel_rfl) (by kernel_rfl) (fun _ _ _ h => h) hKept hS (Or.inl ⟨by rfl, ?_⟩) ?_; rotate_left; (intro wS hSc; go_simp; try with_reducible rfl); intro hKept; (try simp only [List.getElem?_toArray, List.getElem?_cons_succ, List.getElem?_cons_zero, List.getElem_toArray, List.getElem_cons_succ, List.getElem_cons_zero, Act.put, List.setIfInBounds_toArray, List.set_cons_zero, List.set_cons_succ])
            refine till_one (i := 16) (by simp only [List.getElem?_toArray, List.getElem?_cons_succ, List.getElem?_cons_zero]; rfl) (by kernel_rfl) hKept ?_; intro K hK; rw [if_pos (by rfl)]
            go_simp
            refine hK.out _ _ (fun _ => (((Ext.alloc1 _ _).alloc _).drew).cell hcm) ?_; clear hS; intro hS hKept; replace hS := hS (by decide); (try simp only [List.getElem?_toArray, List.getElem?_cons_succ, List.getElem?_cons_zero, List.getElem_toArray, List.getElem_cons_succ, List.getElem_cons_zero, Act.put, List.setIfInBounds_toArray, List.set_cons_zero, List.set_cons_succ])
            refine till_one (i := 17) (by simp only [List.getElem?_toArray, List.getElem?_cons_succ, List.getElem?_cons_zero]; rfl) (by kernel_rfl) hKept ?_; intro K hK
            refine step_store_box _ rfl 35 (.tmp 13) (.tmp 56) rfl (wr.heap.size + 1) #[.int .i64 4, .int .i32 R, .slice (some ⟨wr.heap.size, 0, none⟩) 2 2] (by rfl) (by rfl) 35 _ (Box.newAt _ _ _ _ (by simp)).drew size35 rfl rfl ?_
            intro w2 hb2 hg2
            have hx2 : Ext wr w2 := (((Ext.alloc1 wr _).alloc _).drew).of_grown hg2 (by intro k hk; cases hk; omega)
            have hp2 : Box w2 wr.heap.size 3 #[.int .i64 n, .int .i64 q] := (((Box.new wr 3 #[.int .i64 n, .int .i64 q]).alloc _).drew).grown hg2 (by simp)
            have HX2 := Aside.mk hx2
            have HB2 := Aside.mk hb2
            have HP2 := Aside.mk hp2
            clear hx2 hb2 hg2 hp2
            go_simp
            refine hK.out _ _ (fun _ => HX2.out.cell hcm) ?_; clear hS; intro hS hKept; replace hS := hS (by decide); (try simp only [List.getElem?_toArray, List.getElem?_cons_succ, List.getElem?_cons_zero, List.getElem_toArray, List.getElem_cons_succ, List.getElem_cons_zero, Act.put, List.setIfInBounds_toArray, List.set_cons_zero, List.set_cons_succ])
            refine till_done (by kernel_rfl) ?_ _
            go_wp2_with fail
            go_meet
            exact ⟨_, _, rfl, HB2, ⟨Holds.of_box HP2.out (n := 2) (sz := 1) rfl (by intro u hu; simp at hu; rcases hu with rfl | rfl <;> rfl) (by omega)⟩, HX2⟩
          · go_simp
            refine hK.out _ _ (fun _ => ((Ext.alloc1 _ _).drew).cell hcm) ?_; clear hS; intro hS hKept; replace hS := hS (by decide); (try simp only [List.getElem?_toArray, List.getElem?_cons_succ, List.getElem?_cons_zero, List.getElem_toArray, List.getElem_cons_succ, List.getElem_cons_zero, Act.put, List.setIfInBounds_toArray, List.set_cons_zero, List.set_cons_succ])
            refine till_one (i := 14) (by simp only [List.getElem?_toArray, List.getElem?_cons_succ, List.getElem?_cons_zero]; rfl) (by kernel_rfl) hKept ?_; intro K hK; rw [if_pos (by rfl)]
            go_simp
            refine hK.out _ _ (fun _ => (((Ext.alloc1 _ _).alloc _).drew).cell hcm) ?_; clear hS; intro hS hKept; replace hS := hS (by decide); (try simp only [List.getElem?_toArray, List.getElem?_cons_succ, List.getElem?_cons_zero, List.getElem_toArray, List.getElem_cons_succ, List.getElem_cons_zero, Act.put, List.setIfInBounds_toArray, List.set_cons_zero, List.set_cons_succ])
            refine till_take (i := 15) (oi := _) (v := ?_) rfl (by kernel_rfl) (by kernel_rfl) (by kernel_rfl) (by kernel_rfl) (fun _ _ _ h => h) hKept hS (Or.inl ⟨by rfl, ?_⟩) ?_; rotate_left; (intro wS hSc; go_simp; try with_reducible rfl); intro hKept; (try simp only [List.getElem?_toArray, List.getElem?_cons_succ, List.getElem?_cons_zero, List.getElem_toArray, List.getElem_cons_succ, List.getElem_cons_zero, Act.put, List.setIfInBounds_toArray, List.set_cons_zero, List.set_cons_succ])
            refine till_one (i := 17) (by simp only [List.getElem?_toArray, List.getElem?_cons_succ, List.getElem?_cons_zero]; rfl) (by kernel_rfl) hKept ?_; intro K hK
            refine step_store_box _ rfl 35 (.tmp 13) (.tmp 56) rfl wr.heap.size #[.int .i64 4, .int .i32 R, .slice (some ⟨wr.heap.size + 1, 0, none⟩) 2 2] (by rfl) (by rfl) 35 _ ((Box.new _ _ _).alloc _).drew size35 rfl rfl ?_
            intro w2 hb2 hg2
            have hx2 : Ext wr w2 := (((Ext.alloc1 wr _).alloc _).drew).of_grown hg2 (by intro k hk; cases hk; omega)
            have hp2 : Box w2 (wr.heap.size + 1) 3 #[.int .i64 n, .int .i64 q] := ((Box.newAt _ 3 #[.int .i64 n, .int .i64 q] (wr.heap.size + 1) (by simp)).drew).grown hg2 (by simp)
            have HX2 := Aside.mk hx2
            have HB2 := Aside.mk hb2
            have HP2 := Aside.mk hp2
            clear hx2 hb2 hg2 hp2
            go_simp
            refine hK.out _ _ (fun _ => HX2.out.cell hcm) ?_; clear hS; intro hS hKept; replace hS := hS (by decide); (try simp only [List.getElem?_toArray, List.getElem?_cons_succ, List.getElem?_cons_zero, List.getElem_toArray, List.getElem_cons_succ, List.getElem_cons_zero, Act.put, List.setIfInBounds_toArray, List.set_cons_zero, List.set_cons_succ])
            refine till_done (by kernel_rfl) ?_ _
            go_wp2_with fail
            go_meet
            exact ⟨_, _, rfl, HB2, ⟨Holds.of_box HP2.out (n := 2) (sz := 1) rfl (by intro u hu; simp at hu; rcases hu with rfl | rfl <;> rfl) (by omega)⟩, HX2⟩
        case rest =>
          obtain ⟨P, p, rfl, HP, HQ, HX⟩ := hcut
          obtain ⟨hc1, hf1⟩ := HP.out.rules
          have hcm2 := HX.out.cell hcm
          go_upto_block 2 with fail
          go_cut [8, 9] (fun s8 s9 wx => ∃ X1 Y1 : Int, s8 = .int .i64 X1 ∧ s9 = .int .i64 Y1 ∧ wx = wc ∧ Aside (min (max X1 0) (W - 1) = goX W R x n q) ∧ Aside (min (max Y1 0) (H - 1) = goY H R y n))
          case first =>
            have hRR : R = 65 ∨ R = 66 ∨ R = 67 ∨ R = 68 ∨ R = 71 ∨ R = 100 ∨ R = 72 ∨ R = 102 := by have := HR.out; unfold isMove at this; omega
            clear eR hR0 hR1 HB HI HP HQ
            rcases hRR with rfl | rfl | rfl | rfl | rfl | rfl | rfl | rfl
            all_goals
              go_wp2_with fail
              go_meet
              exact ⟨_, _, rfl, rfl, rfl, ⟨rfl⟩, ⟨rfl⟩⟩
          case rest =>
            obtain ⟨X1, Y1, rfl, rfl, rfl, hX1, hY1⟩ := hcut
            obtain ⟨X2, hX2⟩ : ∃ X2, min (max X1 0) (W - 1) = X2 := ⟨_, rfl⟩
            obtain ⟨Y2, hY2⟩ : ∃ Y2, min (max Y1 0) (H - 1) = Y2 := ⟨_, rfl⟩
            have hb2 : 0 ≤ X2 ∧ X2 < W ∧ 0 ≤ Y2 ∧ Y2 < H := by omega
            have hap := apply_mv W H x y R n q (by omega) (by omega) ⟨hx0, hx1⟩ ⟨hy0, hy1⟩ hn0 hq0 HR.out
            rw [← hX1.out, ← hY1.out, hX2, hY2] at hap
            have HAP := Aside.mk hap
            have HWF := Aside.mk (mv_wf W H x y (by omega) (by omega) ⟨hx0, hx1⟩ ⟨hy0, hy1⟩)
            have HWF2 := Aside.mk (mv_wf W H X2 Y2 (by omega) (by omega) (by omega) (by omega))
            have HBc := Aside.mk (HB.out.ext HX.out)
            have HIc := Aside.mk (HI.out.ext HX.out)
            clear hap hX1 hY1
            obtain ⟨hb20, hb21, hb22, hb23⟩ := hb2
            go_wp2_with (first | (refine atLoad 31 (.tmp 7) rfl ?_; refine wpList_load_row rfl 31 (.tmp 7) rfl w0.heap.size rfl 31 _ (0, 0) _ HBc.out Try.underlying31 rfl size31 ?_))
            refine (Apply_to (⟨W, H, x, y, false, 0, 0, H - 1, 0, 0, 0, false, false, blankRows W H, []⟩ : Grid) (⟨W, H, X2, Y2, false, 0, 0, H - 1, 0, 0, 0, false, false, blankRows W H, []⟩ : Grid) 4 R [n, q] _ _ _ _ _ _ _ HAP.out HWF.out (ParOk.of _ (by simp) (by simp; omega)) HQ.out HIc.out.rows.at_ HIc.out.back.at_).mono ?_
            rintro e w5 ⟨a5, c5, b5, d5, rfl, HI5, HX5, HW5⟩
            have HB5 := Aside.mk (HBc.out.ext HX5.out)
            go_wp2_with (first
              | ((refine atStore 31 (.tmp 7) (.tmp 109) rfl ?_; refine wpList_store_box _ rfl 31 (.tmp 7) (.tmp 109) rfl w0.heap.size _ rfl rfl 31 _ HB5.out size31 rfl rfl ?_; intro w6 hbz hgz; have HB6 := Aside.mk hbz; have HG6 := Aside.mk hgz; clear hgz hbz)))
            have HI6 := Aside.mk (HI5.out.box HB5.out HG6.out)
            have HE6 : Aside (Ext w w6) := ⟨((HE.out.trans HX.out).trans HX5.out).of_grown HG6.out (by intro k hk; cases hk; exact HG0.out)⟩
            have HWN := Aside.mk (newG_mv W H (by omega) (by omega))
            clear hX2 hY2
            refine wp_region_till 100 (fun w' => Box w' w0.heap.size 31 #[.int .i64 (⟨W, H, X2, Y2, false, 0, 0, H - 1, 0, 0, 0, false, false, blankRows W H, []⟩ : Grid).W, .int .i64 (⟨W, H, X2, Y2, false, 0, 0, H - 1, 0, 0, 0, false, false, blankRows W H, []⟩ : Grid).H, .int .i64 (⟨W, H, X2, Y2, false, 0, 0, H - 1, 0, 0, 0, false, false, blankRows W H, []⟩ : Grid).X, .int .i64 (⟨W, H, X2, Y2, false, 0, 0, H - 1, 0, 0, 0, false, false, blankRows W H, []⟩ : Grid).Y, .bool (⟨W, H, X2, Y2, false, 0, 0, H - 1, 0, 0, 0, false, false, blankRows W H, []⟩ : Grid).Wrap, .int .i64 (⟨W, H, X2, Y2, false, 0, 0, H - 1, 0, 0, 0, false, false, blankRows W H, []⟩ : Grid).A, .int .i64 (⟨W, H, X2, Y2, false, 0, 0, H - 1, 0, 0, 0, false, false, blankRows W H, []⟩ : Grid).Top, .int .i64 (⟨W, H, X2, Y2, false, 0, 0, H - 1, 0, 0, 0, false, false, blankRows W H, []⟩ : Grid).Bottom, .int .i64 (⟨W, H, X2, Y2, false, 0, 0, H - 1, 0, 0, 0, false, false, blankRows W H, []⟩ : Grid).SX, .int .i64 (⟨W, H, X2, Y2, false, 0, 0, H - 1, 0, 0, 0, false, false, blankRows W H, []⟩ : Grid).SY, .int .i64 (⟨W, H, X2, Y2, false, 0, 0, H - 1, 0, 0, 0, false, false, blankRows W H, []⟩ : Grid).SA, .bool (⟨W, H, X2, Y2, false, 0, 0, H - 1, 0, 0, 0, false, false, blankRows W H, []⟩ : Grid).NoWrap, .bool (⟨W, H, X2, Y2, false, 0, 0, H - 1, 0, 0, 0, false, false, blankRows W H, []⟩ : Grid).Hidden, .slice a5 (⟨W, H, X2, Y2, false, 0, 0, H - 1, 0, 0, 0, false, false, blankRows W H, []⟩ : Grid).Rows.length c5, .slice b5 (⟨W, H, X2, Y2, false, 0, 0, H - 1, 0, 0, 0, false, false, blankRows W H, []⟩ : Grid).Back.length d5]) (by rfl) HB6.out.drew ?_
            intro hS
            refine ⟨kept_none _ rfl, fun hKept => ?_⟩
            refine till_take (i := 0) (oi := _) (v := ?_) rfl (by kernel_rfl) (by kernel_rfl) (by kernel_rfl) (by kernel_rfl) (fun _ _ _ h => h) hKept hS (Or.inl ⟨by rfl, ?_⟩) ?_; rotate_left; (intro wS hSw; have hSc := hSw.cell; go_simp; try with_reducible rfl); intro hKept; (try simp only [List.getElem?_toArray, List.getElem?_cons_succ, List.getElem?_cons_zero, List.getElem_toArray, List.getElem_cons_succ, List.getElem_cons_zero, Act.put, List.setIfInBounds_toArray, List.set_cons_zero, List.set_cons_succ])
            refine till_take (i := 1) (oi := _) (v := ?_) rfl (by kernel_rfl) (by kernel_rfl) (by kernel_rfl) (by kernel_rfl) (fun _ _ _ h => h) hKept hS (Or.inl ⟨by rfl, ?_⟩) ?_; rotate_left; (intro wS hSw; have hSc := hSw.cell; go_simp; try with_reducible rfl); intro hKept; (try simp only [List.getElem?_toArray, List.getElem?_cons_succ, List.getElem?_cons_zero, List.getElem_toArray, List.getElem_cons_succ, List.getElem_cons_zero, Act.put, List.setIfInBounds_toArray, List.set_cons_zero, List.set_cons_succ])
            refine till_take (i := 2) (oi := _) (v := ?_) rfl (by kernel_rfl) (by kernel_rfl) (by kernel_rfl) (by kernel_rfl) (fun _ _ _ h => h) hKept hS (Or.inl ⟨by rfl, ?_⟩) ?_; rotate_left; (intro wS hSw; have hSc := hSw.cell; go_simp; try with_reducible rfl); intro hKept; (try simp only [List.getElem?_toArray, List.getElem?_cons_succ, List.getElem?_cons_zero, List.getElem_toArray, List.getElem_cons_succ, List.getElem_cons_zero, Act.put, List.setIfInBounds_toArray, List.set_cons_zero, List.set_cons_succ])
            refine till_take (i := 3) (oi := _) (v := ?_) rfl (by kernel_rfl) (by kernel_rfl) (by kernel_rfl) (by kernel_rfl) (fun _ _ _ h => h) hKept hS (Or.inl ⟨by rfl, ?_⟩) ?_; rotate_left; (intro wS hSw; have hSc := hSw.cell; go_simp; try with_reducible rfl); intro hKept; (try simp only [List.getElem?_toArray, List.getElem?_cons_succ, List.getElem?_cons_zero, List.getElem_toArray, List.getElem_cons_succ, List.getElem_cons_zero, Act.put, List.setIfInBounds_toArray, List.set_cons_zero, List.set_cons_succ])
            refine till_take (i := 4) (oi := _) (v := ?_) rfl (by kernel_rfl) (by kernel_rfl) (by kernel_rfl) (by kernel_rfl) (fun _ _ _ h => h) hKept hS (Or.inl ⟨by rfl, ?_⟩) ?_; rotate_left; (intro wS hSw; have hSc := hSw.cell; go_simp; try with_reducible rfl); intro hKept; (try simp only [List.getElem?_toArray, List.getElem?_cons_succ, List.getElem?_cons_zero, List.getElem_toArray, List.getElem_cons_succ, List.getElem_cons_zero, Act.put, List.setIfInBounds_toArray, List.set_cons_zero, List.set_cons_succ])
            refine till_take (i := 5) (oi := _) (v := ?_) rfl (by kernel_rfl) (by kernel_rfl) (by kernel_rfl) (by kernel_rfl) (fun _ _ _ h => h) hKept hS (Or.inl ⟨by rfl, ?_⟩) ?_; rotate_left; (intro wS hSw; have hSc := hSw.cell; go_simp; try with_reducible rfl); intro hKept; (try simp only [List.getElem?_toArray, List.getElem?_cons_succ, List.getElem?_cons_zero, List.getElem_toArray, List.getElem_cons_succ, List.getElem_cons_zero, Act.put, List.setIfInBounds_toArray, List.set_cons_zero, List.set_cons_succ])
            refine till_take (i := 6) (oi := _) (v := ?_) rfl (by kernel_rfl) (by kernel_rfl) (by kernel_rfl) (by kernel_rfl) (fun _ _ _ h => h) hKept hS (Or.inl ⟨by rfl, ?_⟩) ?_; rotate_left; (intro wS hSw; have hSc := hSw.cell; go_simp; try with_reducible rfl); intro hKept; (try simp only [List.getElem?_toArray, List.getElem?_cons_succ, List.getElem?_cons_zero, List.getElem_toArray, List.getElem_cons_succ, List.getElem_cons_zero, Act.put, List.setIfInBounds_toArray, List.set_cons_zero, List.set_cons_succ])
            refine till_take (i := 7) (oi := _) (v := ?_) rfl (by kernel_rfl) (by kernel_rfl) (by kernel_rfl) (by kernel_rfl) (fun _ _ _ h => h) hKept hS (Or.inl ⟨by rfl, ?_⟩) ?_; rotate_left; (intro wS hSw; have hSc := hSw.cell; go_simp; try with_reducible rfl); intro hKept; (try simp only [List.getElem?_toArray, List.getElem?_cons_succ, List.getElem?_cons_zero, List.getElem_toArray, List.getElem_cons_succ, List.getElem_cons_zero, Act.put, List.setIfInBounds_toArray, List.set_cons_zero, List.set_cons_succ])
            refine till_take (i := 8) (oi := _) (v := ?_) rfl (by kernel_rfl) (by kernel_rfl) (by kernel_rfl) (by kernel_rfl) (fun _ _ _ h => h) hKept hS (Or.inl ⟨by rfl, ?_⟩) ?_; rotate_left; (intro wS hSw; have hSc := hSw.cell; go_simp; try with_reducible rfl); intro hKept; (try simp only [List.getElem?_toArray, List.getElem?_cons_succ, List.getElem?_cons_zero, List.getElem_toArray, List.getElem_cons_succ, List.getElem_cons_zero, Act.put, List.setIfInBounds_toArray, List.set_cons_zero, List.set_cons_succ])
            refine till_take (i := 9) (oi := _) (v := ?_) rfl (by kernel_rfl) (by kernel_rfl) (by kernel_rfl) (by kernel_rfl) (fun _ _ _ h => h) hKept hS (Or.inl ⟨by rfl, ?_⟩) ?_; rotate_left; (intro wS hSw; have hSc := hSw.cell; go_simp; try with_reducible rfl); intro hKept; (try simp only [List.getElem?_toArray, List.getElem?_cons_succ, List.getElem?_cons_zero, List.getElem_toArray, List.getElem_cons_succ, List.getElem_cons_zero, Act.put, List.setIfInBounds_toArray, List.set_cons_zero, List.set_cons_succ])
            refine till_take (i := 10) (oi := _) (v := ?_) rfl (by kernel_rfl) (by kernel_rfl) (by kernel_rfl) (by kernel_rfl) (fun _ _ _ h => h) hKept hS (Or.inl ⟨by rfl, ?_⟩) ?_; rotate_left; (intro wS hSw; have hSc := hSw.cell; go_simp; try with_reducible rfl); intro hKept; (try simp only [List.getElem?_toArray, List.getElem?_cons_succ, List.getElem?_cons_zero, List.getElem_toArray, List.getElem_cons_succ, List.getElem_cons_zero, Act.put, List.setIfInBounds_toArray, List.set_cons_zero, List.set_cons_succ])
            refine till_take (i := 11) (oi := _) (v := ?_) rfl (by kernel_rfl) (by kernel_rfl) (by kernel_rfl) (by kernel_rfl) (fun _ _ _ h => h) hKept hS (Or.inl ⟨by rfl, ?_⟩) ?_; rotate_left; (intro wS hSw; have hSc := hSw.cell; go_simp; try with_reducible rfl); intro hKept; (try simp only [List.getElem?_toArray, List.getElem?_cons_succ, List.getElem?_cons_zero, List.getElem_toArray, List.getElem_cons_succ, List.getElem_cons_zero, Act.put, List.setIfInBounds_toArray, List.set_cons_zero, List.set_cons_succ])
            refine till_take (i := 12) (oi := _) (v := ?_) rfl (by kernel_rfl) (by kernel_rfl) (by kernel_rfl) (by kernel_rfl) (fun _ _ _ h => h) hKept hS (Or.inl ⟨by rfl, ?_⟩) ?_; rotate_left; (intro wS hSw; have hSc := hSw.cell; go_simp; try with_reducible rfl); intro hKept; (try simp only [List.getElem?_toArray, List.getElem?_cons_succ, List.getElem?_cons_zero, List.getElem_toArray, List.getElem_cons_succ, List.getElem_cons_zero, Act.put, List.setIfInBounds_toArray, List.set_cons_zero, List.set_cons_succ])
            refine till_take (i := 13) (oi := _) (v := ?_) rfl (by kernel_rfl) (by kernel_rfl) (by kernel_rfl) (by kernel_rfl) (fun _ _ _ h => h) hKept hS (Or.inl ⟨by rfl, ?_⟩) ?_; rotate_left; (intro wS hSw; have hSc := hSw.cell; go_simp; try with_reducible rfl); intro hKept; (try simp only [List.getElem?_toArray, List.getElem?_cons_succ, List.getElem?_cons_zero, List.getElem_toArray, List.getElem_cons_succ, List.getElem_cons_zero, Act.put, List.setIfInBounds_toArray, List.set_cons_zero, List.set_cons_succ])
            refine till_take (i := 14) (oi := _) (v := ?_) rfl (by kernel_rfl) (by kernel_rfl) (by kernel_rfl) (by kernel_rfl) (fun _ _ _ h => h) hKept hS (Or.inl ⟨by rfl, ?_⟩) ?_; rotate_left; (intro wS hSw; have hSc := hSw.cell; go_simp; try with_reducible rfl); intro hKept; (try simp only [List.getElem?_toArray, List.getElem?_cons_succ, List.getElem?_cons_zero, List.getElem_toArray, List.getElem_cons_succ, List.getElem_cons_zero, Act.put, List.setIfInBounds_toArray, List.set_cons_zero, List.set_cons_succ])
            refine till_one (i := 15) (by simp only [List.getElem?_toArray, List.getElem?_cons_succ, List.getElem?_cons_zero]; rfl) (by kernel_rfl) hKept ?_; intro K hK; rw [if_pos (by rfl)]
            go_simp
            refine (sNew_to W H (⟨W, H, 0, 0, false, 0, 0, H - 1, 0, 0, 0, false, false, blankRows W H, []⟩ : Grid) _ HWN.out).mono ?_
            rintro e w7 ⟨a7, c7, b7, d7, rfl, HI7, HX7, HW7⟩
            have HX67 := Aside.mk (((Ext.refl w6).drew).trans HX7.out)
            go_simp
            refine hK.out _ _ (fun _ => HB6.out.ext HX67.out) ?_; clear hS; intro hS hKept; replace hS := hS (by decide); (try simp only [List.getElem?_toArray, List.getElem?_cons_succ, List.getElem?_cons_zero, List.getElem_toArray, List.getElem_cons_succ, List.getElem_cons_zero, Act.put, List.setIfInBounds_toArray, List.set_cons_zero, List.set_cons_succ])
            refine till_take (i := 16) (oi := _) (v := ?_) rfl (by kernel_rfl) (by kernel_rfl) (by kernel_rfl) (by kernel_rfl) (fun _ _ _ h => h) hKept hS (Or.inl ⟨by rfl, ?_⟩) ?_; rotate_left; (intro wS hSw; have hSc := hSw.cell; go_simp; try with_reducible rfl); intro hKept; (try simp only [List.getElem?_toArray, List.getElem?_cons_succ, List.getElem?_cons_zero, List.getElem_toArray, List.getElem_cons_succ, List.getElem_cons_zero, Act.put, List.setIfInBounds_toArray, List.set_cons_zero, List.set_cons_succ])
            refine till_one (i := 17) (by simp only [List.getElem?_toArray, List.getElem?_cons_succ, List.getElem?_cons_zero]; rfl) (by kernel_rfl) hKept ?_; intro K hK; rw [if_pos (by rfl)]
            go_simp
            refine (SameRows_true _ _ _ _ (blankRows W H) _ (HI6.out.rows.at_.ext HX67.out) HI7.out.rows.at_ HWF2.out.small).mono ?_
            rintro e w8 ⟨rfl, hd8⟩
            have HX68 := Aside.mk (HX67.out.trans hd8.ext)
            clear hd8
            go_simp
            refine hK.out _ _ (fun _ => HB6.out.ext HX68.out) ?_; clear hS; intro hS hKept; replace hS := hS (by decide); (try simp only [List.getElem?_toArray, List.getElem?_cons_succ, List.getElem?_cons_zero, List.getElem_toArray, List.getElem_cons_succ, List.getElem_cons_zero, Act.put, List.setIfInBounds_toArray, List.set_cons_zero, List.set_cons_succ])
            refine till_take (i := 18) (oi := _) (v := ?_) rfl (by kernel_rfl) (by kernel_rfl) (by kernel_rfl) (by kernel_rfl) (fun _ _ _ h => h) hKept hS (Or.inl ⟨by rfl, ?_⟩) ?_; rotate_left; (intro wS hSw; have hSc := hSw.cell; go_simp; try with_reducible rfl); intro hKept; (try simp only [List.getElem?_toArray, List.getElem?_cons_succ, List.getElem?_cons_zero, List.getElem_toArray, List.getElem_cons_succ, List.getElem_cons_zero, Act.put, List.setIfInBounds_toArray, List.set_cons_zero, List.set_cons_succ])
            refine till_take (i := 19) (oi := _) (v := ?_) rfl (by kernel_rfl) (by kernel_rfl) (by kernel_rfl) (by kernel_rfl) (fun _ _ _ h => h) hKept hS (Or.inl ⟨by rfl, ?_⟩) ?_; rotate_left; (intro wS hSw; have hSc := hSw.cell; go_simp; try with_reducible rfl); intro hKept; (try simp only [List.getElem?_toArray, List.getElem?_cons_succ, List.getElem?_cons_zero, List.getElem_toArray, List.getElem_cons_succ, List.getElem_cons_zero, Act.put, List.setIfInBounds_toArray, List.set_cons_zero, List.set_cons_succ])
            refine till_done (by kernel_rfl) ?_ _
            go_wp2_with fail
            go_roundw
            case rel => exact ⟨k + 1, X2, Y2, a5, b5, c5, d5, by omega, by go_num, rfl, rfl, by omega, by omega, by omega, by omega, ⟨HB6.out.ext HX68.out⟩, ⟨(HI6.out.ext HX68.out).mono (HE.out.trans HX.out).size⟩, ⟨HE6.out.trans HX68.out⟩⟩
            case measure => simp [intOf]; omega
      · go_wp2_with fail
        refine (awake6 _).mono ?_
        rintro e w2 ⟨rfl, hx⟩
        go_wp2
        go_ret
        exact ⟨rfl, HE.out.trans hx⟩
    · go_wp2_with fail
      refine (awake6 _).mono ?_
      rintro e w2 ⟨rfl, hx⟩
      go_wp2
      go_ret
      exact ⟨rfl, HE.out.trans hx⟩
end Go.Proofs.Ytmehkikkjebnnaa
