/-
  Walks: acts.screen.
-/
import Derived.Test.YtmehkikkjebnnaaActJ
set_option linter.unusedVariables false
set_option linter.unusedSimpArgs false
namespace Go.Proofs.Ytmehkikkjebnnaa
open Go.RowKit
attribute [local go_sem] max2_i min2_i max_two min_two
attribute [local go_sem ↓] Go.wp_at_zero Go.wp_at_succ

/-- The rows from a to below b blank, but row y. -/
def wipe (W : Int) (rows : List (List Cell)) (a b y : Int) : List (List Cell) := rows.mapIdx fun i r => if a ≤ (i : Int) ∧ (i : Int) < b ∧ (i : Int) ≠ y then blankRow W else r
theorem wipe_length (W : Int) (rows : List (List Cell)) (a b y : Int) : (wipe W rows a b y).length = rows.length := by simp [wipe]
theorem wipe_none (W : Int) (rows : List (List Cell)) (a b y : Int) (h : b ≤ a) : wipe W rows a b y = rows := by
  unfold wipe
  apply List.ext_getElem?
  intro i
  rw [List.getElem?_mapIdx]
  cases rows[i]? with
  | none => rfl
  | some r => simp only [Option.map_some]; rw [if_neg (by omega)]
theorem wipe_keep (W : Int) (rows : List (List Cell)) (a y : Int) (k : Nat) (h : (k : Int) = y) : wipe W rows a (k + 1) y = wipe W rows a k y := by
  unfold wipe
  apply List.ext_getElem?
  intro i
  rw [List.getElem?_mapIdx, List.getElem?_mapIdx]
  cases rows[i]? with
  | none => rfl
  | some r =>
    simp only [Option.map_some]
    congr 1
    by_cases h1 : a ≤ (i : Int) ∧ (i : Int) < k ∧ (i : Int) ≠ y
    · rw [if_pos h1, if_pos (by omega)]
    · rw [if_neg h1, if_neg (by omega)]
theorem wipe_next (W : Int) (rows : List (List Cell)) (a y : Int) (k : Nat) (h : (k : Int) ≠ y) (ha : a ≤ k) : wipe W rows a (k + 1) y = (wipe W rows a k y).set k (blankRow W) := by
  unfold wipe
  apply List.ext_getElem?
  intro i
  rw [List.getElem?_set, List.getElem?_mapIdx, List.getElem?_mapIdx, List.length_mapIdx]
  by_cases hi : k = i
  · subst hi
    rw [if_pos rfl]
    by_cases hl : k < rows.length
    · rw [if_pos hl, List.getElem?_eq_getElem hl, Option.map_some, if_pos (by omega)]
    · rw [if_neg hl, List.getElem?_eq_none (by omega)]
      rfl
  · rw [if_neg hi]
    cases rows[i]? with
    | none => rfl
    | some r =>
      simp only [Option.map_some]
      congr 1
      by_cases h1 : a ≤ (i : Int) ∧ (i : Int) < k ∧ (i : Int) ≠ y
      · rw [if_pos h1, if_pos (by omega)]
      · rw [if_neg h1, if_neg (by omega)]
def screenG (g : Grid) (l : List Int) : Grid :=
  let s := spanOf l g.Y g.Rows.length
  rowG { g with Rows := if s.2.2 then wipe g.W g.Rows (max s.1 0) (min s.2.1 g.Rows.length) g.Y else g.Rows } l

theorem row_eq (g h : Grid) (k r : Int) (l : List Int) (ap ar ab : Option Addr) (cp cr cb base : Nat) (w : World) (hh : h = rowG g l) (hg : WFG g) (hpar : ParOk l) (hla : IntsAt w (.slice ap l.length cp) l) (hin : InG w base g ar cr ab cb) (hbase : base ≤ w.heap.size) :
    Calls Try.prog 63 #[.agg #[.int .i64 g.W, .int .i64 g.H, .int .i64 g.X, .int .i64 g.Y, .bool g.Wrap, .int .i64 g.A, .int .i64 g.Top, .int .i64 g.Bottom, .int .i64 g.SX, .int .i64 g.SY, .int .i64 g.SA, .bool g.NoWrap, .bool g.Hidden, .slice ar g.Rows.length cr, .slice ab g.Back.length cb], .agg #[.int .i64 k, .int .i32 r, .slice ap l.length cp]] w (PassR base w h) := hh ▸ row_any g k r l ap ar ab cp cr cb base w hg hpar hla hin hbase
theorem WFG.wiped {g : Grid} (h : WFG g) (a b y : Int) : WFG { g with Rows := wipe g.W g.Rows a b y } :=
  ⟨h.W, h.H, h.X, h.Y, h.SX, h.SY, h.T, by show ((wipe g.W g.Rows a b y).length : Int) = g.H; rw [wipe_length]; exact h.rows, fun r hr => by
    show (r.length : Int) = g.W
    unfold wipe at hr
    rw [List.mem_mapIdx] at hr
    obtain ⟨i, hi, rfl⟩ := hr
    split
    · rw [blankRow_length]
      have := h.W
      omega
    · exact h.wide _ (List.getElem_mem _), h.back, h.far⟩

theorem IntsAt.growR {base : Nat} {w w' : World} {a : Option Addr} {n c : Nat} {l : List Int} (h : IntsAt w (.slice a n c) l) (hg : GrowR base w w') (hb : 0 < l.length → ∀ b o, a = some ⟨b, o, none⟩ → b < base) : IntsAt w' (.slice a n c) l := by
  obtain ⟨a', c', hv, h1, h2, h3⟩ := Holds.form h
  refine ⟨h.len, h.one, a', c', hv, h1, h2, fun hn => ?_⟩
  obtain ⟨b, o, rfl, hc⟩ := h3 hn
  injection hv with e1 _ _
  refine ⟨b, o, rfl, fun j hj => ?_⟩
  have hl : j < (l.map (Value.int .i64)).length := by rw [h.len]; exact hj
  have h5 := hc j hj
  rw [List.getElem?_eq_getElem hl] at h5 ⊢
  have hlt := World.block_lt_of_cell? w _ h5
  have hbk := hg.block b hlt (.inl (hb hn b o e1))
  rw [← h5]
  unfold World.cell?
  simp only [hbk]

set_option maxRecDepth 100000 in
set_option maxHeartbeats 2000000 in
theorem screen_any (g : Grid) (k r : Int) (l : List Int) (ap ar ab : Option Addr) (cp cr cb base : Nat) (w : World) (hg : WFG g) (hpar : ParOk l) (hla : IntsAt w (.slice ap l.length cp) l) (hap : 0 < l.length → ∀ b o, ap = some ⟨b, o, none⟩ → b < base) (hin : InG w base g ar cr ab cb) (hbase : base ≤ w.heap.size) :
    Calls Try.prog 62 #[.agg #[.int .i64 g.W, .int .i64 g.H, .int .i64 g.X, .int .i64 g.Y, .bool g.Wrap, .int .i64 g.A, .int .i64 g.Top, .int .i64 g.Bottom, .int .i64 g.SX, .int .i64 g.SY, .int .i64 g.SA, .bool g.NoWrap, .bool g.Hidden, .slice ar g.Rows.length cr, .slice ab g.Back.length cb], .agg #[.int .i64 k, .int .i32 r, .slice ap l.length cp]] w (PassR base w (screenG g l)) := by
  have HIN := Aside.mk hin
  have HL := Aside.mk hla
  have hl := hpar.1
  clear hla hin
  have hlen : 0 < g.Rows.length := by have := hg.rows; have := hg.H; omega
  have hlen2 : g.Rows.length ≤ 1000 := by have := hg.rows; have := hg.H; omega
  obtain ⟨k1, hk0, hk1, hk2⟩ := HIN.out.rows.head hlen
  subst hk0
  have HA := Aside.mk (((Box.new w 31 #[.int .i64 g.W, .int .i64 g.H, .int .i64 g.X, .int .i64 g.Y, .bool g.Wrap, .int .i64 g.A, .int .i64 g.Top, .int .i64 g.Bottom, .int .i64 g.SX, .int .i64 g.SY, .int .i64 g.SA, .bool g.NoWrap, .bool g.Hidden, .slice (some ⟨k1, 0, none⟩) g.Rows.length cr, .slice ab g.Back.length cb]).alloc (.cells #[.int .i64 k, .int .i32 r, .slice ap l.length cp] 35)).alloc (.cells #[.int .i64 0, .int .i64 0, .int .i64 0, .int .i64 0, .bool false, .int .i64 0, .int .i64 0, .int .i64 0, .int .i64 0, .int .i64 0, .int .i64 0, .bool false, .bool false, .slice none 0 0, .slice none 0 0] 31))
  have HR := Aside.mk ((Box.newAt (w.alloc (.cells #[.int .i64 g.W, .int .i64 g.H, .int .i64 g.X, .int .i64 g.Y, .bool g.Wrap, .int .i64 g.A, .int .i64 g.Top, .int .i64 g.Bottom, .int .i64 g.SX, .int .i64 g.SY, .int .i64 g.SA, .bool g.NoWrap, .bool g.Hidden, .slice (some ⟨k1, 0, none⟩) g.Rows.length cr, .slice ab g.Back.length cb] 31)) 35 #[.int .i64 k, .int .i32 r, .slice ap l.length cp] (w.heap.size + 1) (by simp)).alloc (.cells #[.int .i64 0, .int .i64 0, .int .i64 0, .int .i64 0, .bool false, .int .i64 0, .int .i64 0, .int .i64 0, .int .i64 0, .int .i64 0, .int .i64 0, .bool false, .bool false, .slice none 0 0, .slice none 0 0] 31))
  have HZ := Aside.mk (Box.newAt ((w.alloc (.cells #[.int .i64 g.W, .int .i64 g.H, .int .i64 g.X, .int .i64 g.Y, .bool g.Wrap, .int .i64 g.A, .int .i64 g.Top, .int .i64 g.Bottom, .int .i64 g.SX, .int .i64 g.SY, .int .i64 g.SA, .bool g.NoWrap, .bool g.Hidden, .slice (some ⟨k1, 0, none⟩) g.Rows.length cr, .slice ab g.Back.length cb] 31)).alloc (.cells #[.int .i64 k, .int .i32 r, .slice ap l.length cp] 35)) 31 #[.int .i64 0, .int .i64 0, .int .i64 0, .int .i64 0, .bool false, .int .i64 0, .int .i64 0, .int .i64 0, .int .i64 0, .int .i64 0, .int .i64 0, .bool false, .bool false, .slice none 0 0, .slice none 0 0] (w.heap.size + 2) (by simp))
  have HW := Aside.mk (((Ext.alloc1 w (.cells #[.int .i64 g.W, .int .i64 g.H, .int .i64 g.X, .int .i64 g.Y, .bool g.Wrap, .int .i64 g.A, .int .i64 g.Top, .int .i64 g.Bottom, .int .i64 g.SX, .int .i64 g.SY, .int .i64 g.SA, .bool g.NoWrap, .bool g.Hidden, .slice (some ⟨k1, 0, none⟩) g.Rows.length cr, .slice ab g.Back.length cb] 31)).alloc (.cells #[.int .i64 k, .int .i32 r, .slice ap l.length cp] 35)).alloc (.cells #[.int .i64 0, .int .i64 0, .int .i64 0, .int .i64 0, .bool false, .int .i64 0, .int .i64 0, .int .i64 0, .int .i64 0, .int .i64 0, .int .i64 0, .bool false, .bool false, .slice none 0 0, .slice none 0 0] 31))
  have hY := hg.Y
  have hH := hg.H
  obtain ⟨F, T, ok, hs⟩ : ∃ F T ok, spanOf l g.Y g.Rows.length = (F, T, ok) := ⟨_, _, _, rfl⟩
  have HS := Aside.mk hs
  have hp : screenG g l = rowG { g with Rows := if ok then wipe g.W g.Rows (max F 0) (min T g.Rows.length) g.Y else g.Rows } l := by unfold screenG; rw [hs]
  have HP := Aside.mk hp
  have hFT : F ≤ 1000000 ∧ T ≤ 1000000 := by
    unfold spanOf at hs
    simp only at hs
    split at hs
    · cases hs; omega
    · split at hs
      · cases hs; omega
      · split at hs
        · cases hs; omega
        · cases hs; omega
  clear hs hp
  obtain ⟨k0, hk0⟩ := Int.eq_ofNat_of_zero_le (show 0 ≤ max F 0 from by omega)
  cases ok
  · have hsc : screenG g l = rowG g l := by rw [HP.out]; rfl
    obtain ⟨h, hh⟩ : ∃ h, h = rowG g l := ⟨_, rfl⟩
    have HSC := Aside.mk (hsc.trans hh.symm)
    have HH := Aside.mk hh
    clear hsc hh
    go_enter Try.func62, Try.ntmps62
    go_wp2_with (first
      | (go_at_call 110; refine (span_any k r l ap cp g.Y g.Rows.length F T false _ hl (HL.out.ext HW.out) (by omega) HS.out).mono ?_; rintro e w1 ⟨rfl, he1⟩; have HA1 := Aside.mk (HA.out.ext he1); have HR1 := Aside.mk (HR.out.ext he1); have HZ1 := Aside.mk (HZ.out.ext he1); have HX1 := Aside.mk (HW.out.trans he1); clear he1))
    go_loopw [8] (fun y wr => ∃ (kk : Nat), y = .int .i64 kk ∧ Aside (w1 = wr)) (fun _ _ => 0)
    case atStart => exact ⟨k0, rfl, ⟨rfl⟩⟩
    case round =>
      obtain ⟨kk, rfl, hw1⟩ := hrel
      have hw2 := hw1.out
      subst hw2
      obtain ⟨hc2, hf2⟩ := HA1.out.rules
      obtain ⟨hc3, hf3⟩ := HR1.out.rules
      have hsz := HX1.out.size
      go_wp2_with (first
        | (refine atLoad 31 (.tmp 2) rfl ?_; refine wpList_load_row rfl 31 (.tmp 2) rfl w.heap.size rfl 31 _ (0, 0) _ HA1.out Try.underlying31 rfl size31 ?_)
        | (go_at_call 63; refine (row_eq g h k r l ap _ ab cp cr cb base _ HH.out hg hpar (HL.out.ext HX1.out) (HIN.out.ext HX1.out) (by omega)).mono ?_; rintro e w5 ⟨ar5, cr5, ab5, cb5, rfl, HI5, HG5⟩; have HZ5 := Aside.mk (HZ1.out.growR HG5.out (by decide)))
        | (refine atStore 31 (.tmp 4) (.tmp 47) rfl ?_; refine wpList_store_box _ rfl 31 (.tmp 4) (.tmp 47) rfl (w.heap.size + 2) _ rfl rfl 31 _ HZ5.out size31 rfl rfl ?_; intro w9 hbz hgz; have HZ9 := Aside.mk hbz; have HG9 := Aside.mk hgz; clear hgz hbz))
      refine bodyPost_ret (results_cell_row Try.results62 _ _ (w.heap.size + 2) 31 _ (0, 0) _ rfl HZ9.out Try.underlying31 rfl size31) rfl ?_
      rw [HSC.out]
      exact PassR.of (HI5.out.box HZ5.out HG9.out) (((HX1.out.growR base).trans HG5.out).then_new HG9.out (by omega))
  · go_enter Try.func62, Try.ntmps62
    go_wp2_with (first
      | (go_at_call 110; refine (span_any k r l ap cp g.Y g.Rows.length F T true _ hl (HL.out.ext HW.out) (by omega) HS.out).mono ?_; rintro e w1 ⟨rfl, he1⟩; have HA1 := Aside.mk (HA.out.ext he1); have HR1 := Aside.mk (HR.out.ext he1); have HZ1 := Aside.mk (HZ.out.ext he1); have HX1 := Aside.mk (HW.out.trans he1); clear he1))
    go_loopw [8] (fun y wr => ∃ (kk : Nat), (k0 : Int) ≤ kk ∧ (kk : Int) ≤ max (k0 : Int) (min T g.Rows.length) ∧ y = .int .i64 kk ∧ Aside (InG wr base { g with Rows := wipe g.W g.Rows k0 kk g.Y } (some ⟨k1, 0, none⟩) cr ab cb) ∧ Aside (Box wr w.heap.size 31 #[.int .i64 g.W, .int .i64 g.H, .int .i64 g.X, .int .i64 g.Y, .bool g.Wrap, .int .i64 g.A, .int .i64 g.Top, .int .i64 g.Bottom, .int .i64 g.SX, .int .i64 g.SY, .int .i64 g.SA, .bool g.NoWrap, .bool g.Hidden, .slice (some ⟨k1, 0, none⟩) g.Rows.length cr, .slice ab g.Back.length cb]) ∧ Aside (Box wr (w.heap.size + 1) 35 #[.int .i64 k, .int .i32 r, .slice ap l.length cp]) ∧ Aside (Box wr (w.heap.size + 2) 31 #[.int .i64 0, .int .i64 0, .int .i64 0, .int .i64 0, .bool false, .int .i64 0, .int .i64 0, .int .i64 0, .int .i64 0, .int .i64 0, .int .i64 0, .bool false, .bool false, .slice none 0 0, .slice none 0 0]) ∧ Aside (GrowR base w wr)) (fun y _ => g.Rows.length - (intOf y).toNat)
    case atStart =>
      refine ⟨k0, by omega, by omega, rfl, ⟨?_⟩, HA1, HR1, HZ1, ⟨HX1.out.growR base⟩⟩
      rw [wipe_none _ _ _ _ _ (Int.le_refl _)]
      exact HIN.out.ext HX1.out
    case round =>
      obtain ⟨kk, hkk0, hkk1, rfl, HI2, HA2, HR2, HZ2, HG2⟩ := hrel
      obtain ⟨hc2, hf2⟩ := HA2.out.rules
      by_cases hlt : (kk : Int) < min T g.Rows.length
      · have hd : decide ((kk : Int) < min T g.Rows.length) = true := by simpa using hlt
        have hkl : kk < g.Rows.length := by omega
        have hkI : (kk : Int) < (g.Rows.length : Int) := by omega
        have hkI0 : (0 : Int) ≤ (kk : Int) := by omega
        by_cases hy : (kk : Int) = g.Y
        · have hyd : ((kk : Int) == g.Y) = true := by simpa using hy
          have HYK := Aside.mk hy
          clear hy
          go_wp2
          go_roundw
          case rel =>
            refine ⟨kk + 1, by omega, by omega, by go_num, ⟨?_⟩, HA2, HR2, HZ2, HG2⟩
            rw [show ((kk + 1 : Nat) : Int) = (kk : Int) + 1 from by omega, wipe_keep _ _ _ _ _ HYK.out]
            exact HI2.out
          case measure => simp [intOf]; omega
        · have hyd : ((kk : Int) == g.Y) = false := by simpa using hy
          have HYK := Aside.mk hy
          clear hy
          go_wp2
          refine wp_region_till 100 (fun w' => Box w' w.heap.size 31 #[.int .i64 g.W, .int .i64 g.H, .int .i64 g.X, .int .i64 g.Y, .bool g.Wrap, .int .i64 g.A, .int .i64 g.Top, .int .i64 g.Bottom, .int .i64 g.SX, .int .i64 g.SY, .int .i64 g.SA, .bool g.NoWrap, .bool g.Hidden, .slice (some ⟨k1, 0, none⟩) g.Rows.length cr, .slice ab g.Back.length cb] ∧ Box w' (w.heap.size + 1) 35 #[.int .i64 k, .int .i32 r, .slice ap l.length cp]) (by rfl) ⟨HA2.out.drew, HR2.out.drew⟩ ?_
          intro hS
          refine ⟨kept_none _ rfl, fun hKept => ?_⟩
          refine till_take (i := 0) (oi := _) (v := ?_) rfl (by kernel_rfl) (by kernel_rfl) (by kernel_rfl) (by kernel_rfl) (fun _ _ _ h => h) hKept hS (Or.inl ⟨by rfl, ?_⟩) ?_; rotate_left; (intro wS hSw; obtain ⟨hSa, hSb⟩ := hSw; have hSc := hSa.cell; have hSd := hSb.cell; go_simp; try with_reducible rfl); intro hKept; (try simp only [List.getElem?_toArray, List.getElem?_cons_succ, List.getElem?_cons_zero, List.getElem_toArray, List.getElem_cons_succ, List.getElem_cons_zero, Act.put, List.setIfInBounds_toArray, List.set_cons_zero, List.set_cons_succ])
          refine till_take (i := 1) (oi := _) (v := ?_) rfl (by kernel_rfl) (by kernel_rfl) (by kernel_rfl) (by kernel_rfl) (fun _ _ _ h => h) hKept hS (Or.inl ⟨by rfl, ?_⟩) ?_; rotate_left; (intro wS hSw; obtain ⟨hSa, hSb⟩ := hSw; have hSc := hSa.cell; have hSd := hSb.cell; go_simp; try with_reducible rfl); intro hKept; (try simp only [List.getElem?_toArray, List.getElem?_cons_succ, List.getElem?_cons_zero, List.getElem_toArray, List.getElem_cons_succ, List.getElem_cons_zero, Act.put, List.setIfInBounds_toArray, List.set_cons_zero, List.set_cons_succ])
          refine till_take (i := 2) (oi := _) (v := ?_) rfl (by kernel_rfl) (by kernel_rfl) (by kernel_rfl) (by kernel_rfl) (fun _ _ _ h => h) hKept hS (Or.inl ⟨by rfl, ?_⟩) ?_; rotate_left; (intro wS hSw; obtain ⟨hSa, hSb⟩ := hSw; have hSc := hSa.cell; have hSd := hSb.cell; go_simp; try with_reducible rfl); intro hKept; (try simp only [List.getElem?_toArray, List.getElem?_cons_succ, List.getElem?_cons_zero, List.getElem_toArray, List.getElem_cons_succ, List.getElem_cons_zero, Act.put, List.setIfInBounds_toArray, List.set_cons_zero, List.set_cons_succ])
          refine till_take (i := 3) (oi := _) (v := ?_) rfl (by kernel_rfl) (by kernel_rfl) (by kernel_rfl) (by kernel_rfl) (fun _ _ _ h => h) hKept hS (Or.inl ⟨by rfl, ?_⟩) ?_; rotate_left; (intro wS hSw; obtain ⟨hSa, hSb⟩ := hSw; have hSc := hSa.cell; have hSd := hSb.cell; go_simp; try with_reducible rfl); intro hKept; (try simp only [List.getElem?_toArray, List.getElem?_cons_succ, List.getElem?_cons_zero, List.getElem_toArray, List.getElem_cons_succ, List.getElem_cons_zero, Act.put, List.setIfInBounds_toArray, List.set_cons_zero, List.set_cons_succ])
          refine till_take (i := 4) (oi := _) (v := ?_) rfl (by kernel_rfl) (by kernel_rfl) (by kernel_rfl) (by kernel_rfl) (fun _ _ _ h => h) hKept hS (Or.inl ⟨by rfl, ?_⟩) ?_; rotate_left; (intro wS hSw; obtain ⟨hSa, hSb⟩ := hSw; have hSc := hSa.cell; have hSd := hSb.cell; go_simp; try with_reducible rfl); intro hKept; (try simp only [List.getElem?_toArray, List.getElem?_cons_succ, List.getElem?_cons_zero, List.getElem_toArray, List.getElem_cons_succ, List.getElem_cons_zero, Act.put, List.setIfInBounds_toArray, List.set_cons_zero, List.set_cons_succ])
          refine till_one (i := 5) (by simp only [List.getElem?_toArray, List.getElem?_cons_succ, List.getElem?_cons_zero]; rfl) (by kernel_rfl) hKept ?_; intro K hK; rw [if_pos (by rfl)]
          go_simp
          refine (Blank_any g.W _).mono ?_
          rintro e w3 ⟨a3, c3, rfl, ho3, he3⟩
          have HO3 := Aside.mk ho3
          have HX3 := Aside.mk (((Ext.refl wr).drew).trans he3)
          have HA3 := Aside.mk (HA2.out.ext HX3.out)
          have HR3 := Aside.mk (HR2.out.ext HX3.out)
          have HZ3 := Aside.mk (HZ2.out.ext HX3.out)
          clear ho3 he3
          refine hK.out _ _ (fun _ => ⟨HA3.out, HR3.out⟩) ?_; clear hS; intro hS hKept; replace hS := hS (by decide); (try simp only [List.getElem?_toArray, List.getElem?_cons_succ, List.getElem?_cons_zero, List.getElem_toArray, List.getElem_cons_succ, List.getElem_cons_zero, Act.put, List.setIfInBounds_toArray, List.set_cons_zero, List.set_cons_succ])
          obtain ⟨vs, hv1, hv2⟩ := (HI2.out.rows.ext HX3.out).ex
          have hlw : (wipe g.W g.Rows k0 kk g.Y).length = g.Rows.length := wipe_length _ _ _ _ _
          have hv1' := hv1
          rw [hlw] at hv1'
          have hfz : w3.frozen? ⟨k1, kk, none⟩ = false := World.ownsRow.frozenAt hv1' _
          have hcl0 := World.ownsRow.cellAt hv1' kk (by omega)
          obtain ⟨v0, hv0, _⟩ := hv2.get kk (by rw [hlw]; exact hkl)
          rw [hv0] at hcl0
          have hst := World.ownsRow.stored hv1' kk (.slice a3 (blankRow g.W).length c3)
          have HST := Aside.mk hst.1
          have HGS := Aside.mk hst.2
          have HV1 := Aside.mk hv1'
          have HV2 := Aside.mk hv2
          clear hst hv1 hv2 hv1' hv0
          have HA4 := Aside.mk (HA3.out.grown HGS.out (by intro h; injection h with h; omega))
          have HR4 := Aside.mk (HR3.out.grown HGS.out (by intro h; injection h with h; omega))
          have HZ4 := Aside.mk (HZ3.out.grown HGS.out (by intro h; injection h with h; omega))
          refine till_take (i := 6) (oi := _) (v := ?_) rfl (by kernel_rfl) (by kernel_rfl) (by kernel_rfl) (by kernel_rfl) (fun _ _ _ h => h) hKept hS (Or.inl ⟨by rfl, ?_⟩) ?_; rotate_left; (intro wS hSw; obtain ⟨hSa, hSb⟩ := hSw; have hSc := hSa.cell; have hSd := hSb.cell; go_simp; try with_reducible rfl); intro hKept; (try simp only [List.getElem?_toArray, List.getElem?_cons_succ, List.getElem?_cons_zero, List.getElem_toArray, List.getElem_cons_succ, List.getElem_cons_zero, Act.put, List.setIfInBounds_toArray, List.set_cons_zero, List.set_cons_succ])
          refine till_one (i := 7) (by simp only [List.getElem?_toArray, List.getElem?_cons_succ, List.getElem?_cons_zero]; rfl) (by kernel_rfl) hKept ?_; intro K hK; rw [if_pos (by rfl)]
          go_simp
          refine hK.out _ _ (fun _ => ⟨HA4.out, HR4.out⟩) ?_; clear hS; intro hS hKept; replace hS := hS (by decide); (try simp only [List.getElem?_toArray, List.getElem?_cons_succ, List.getElem?_cons_zero, List.getElem_toArray, List.getElem_cons_succ, List.getElem_cons_zero, Act.put, List.setIfInBounds_toArray, List.set_cons_zero, List.set_cons_succ])
          refine till_done (by kernel_rfl) ?_ _
          go_wp2
          go_roundw
          case rel =>
            refine ⟨kk + 1, by omega, by omega, by go_num, ⟨?_⟩, HA4, HR4, HZ4, ⟨?_⟩⟩
            · rw [show ((kk + 1 : Nat) : Int) = (kk : Int) + 1 from by omega, wipe_next _ _ _ _ _ HYK.out hkk0]
              refine ⟨⟨_, ?_, (HV2.out.imp fun a b hab => hab.grown HV1.out HGS.out).set ((HO3.out.mono (by have := HG2.out.size; simp; omega)).grown HV1.out HGS.out) kk⟩, (HI2.out.back.ext HX3.out).beside HV1.out HGS.out (fun k' hk' hk'' => HI2.out.apart k' hk'' hk'), HI2.out.apart⟩
              show World.ownsRow _ _ _ _ (.slice _ (List.length (List.set _ _ _)) _) (List.length (List.set _ _ _)) _
              rw [List.length_set, hlw]
              exact HST.out
            · exact (HG2.out.trans (HX3.out.growR base)).trans (GrowR.of_row (v := .slice (some ⟨k1, 0, none⟩) g.Rows.length cr) (ll := wipe g.W g.Rows k0 kk g.Y) HGS.out ⟨_, by rw [hlw]; exact HV1.out, HV2.out⟩)
          case measure => simp [intOf]; omega
      · have hd : decide ((kk : Int) < min T g.Rows.length) = false := by simpa using hlt
        obtain ⟨hc3, hf3⟩ := HR2.out.rules
        have hkf : wipe g.W g.Rows k0 kk g.Y = wipe g.W g.Rows k0 (min T g.Rows.length) g.Y := by
          by_cases h1 : (kk : Int) = k0
          · rw [h1, wipe_none _ _ _ _ _ (Int.le_refl _), wipe_none _ _ _ _ _ (by omega)]
          · rw [show (kk : Int) = min T g.Rows.length from by omega]
        obtain ⟨h, hh⟩ : ∃ h, h = rowG { g with Rows := wipe g.W g.Rows k0 kk g.Y } l := ⟨_, rfl⟩
        have hsc : screenG g l = h := by rw [HP.out, hh, hk0, hkf]; rfl
        have HSC := Aside.mk hsc
        have HH := Aside.mk hh
        have hlw := wipe_length g.W g.Rows k0 kk g.Y
        have hwf := hg.wiped k0 kk g.Y
        have HL2 := Aside.mk (IntsAt.growR HL.out HG2.out hap)
        have hsz := HG2.out.size
        have hrow := fun (hbs : base ≤ wr.heap.size) => row_eq { g with Rows := wipe g.W g.Rows k0 kk g.Y } h k r l ap _ ab cp cr cb base wr HH.out hwf hpar HL2.out HI2.out hbs
        simp only [hlw] at hrow
        have HROW := Aside.mk (hrow (by omega))
        clear hrow hsc hh hkf hlw
        go_wp2_with (first
          | (refine atLoad 31 (.tmp 2) rfl ?_; refine wpList_load_row rfl 31 (.tmp 2) rfl w.heap.size rfl 31 _ (0, 0) _ HA2.out Try.underlying31 rfl size31 ?_)
          | (go_at_call 63; refine HROW.out.mono ?_; rintro e w5 ⟨ar5, cr5, ab5, cb5, rfl, HI5, HG5⟩; have HZ5 := Aside.mk (HZ2.out.growR HG5.out (by decide)))
          | (refine atStore 31 (.tmp 4) (.tmp 47) rfl ?_; refine wpList_store_box _ rfl 31 (.tmp 4) (.tmp 47) rfl (w.heap.size + 2) _ rfl rfl 31 _ HZ5.out size31 rfl rfl ?_; intro w9 hbz hgz; have HZ9 := Aside.mk hbz; have HG9 := Aside.mk hgz; clear hgz hbz))
        refine bodyPost_ret (results_cell_row Try.results62 _ _ (w.heap.size + 2) 31 _ (0, 0) _ rfl HZ9.out Try.underlying31 rfl size31) rfl ?_
        rw [HSC.out]
        exact PassR.of (HI5.out.box HZ5.out HG9.out) ((HG2.out.trans HG5.out).then_new HG9.out (by omega))
end Go.Proofs.Ytmehkikkjebnnaa
