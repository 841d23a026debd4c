/-
  Walks: acts.turn, the closures, acts.put.
-/
import Derived.Test.YtmehkikkjebnnaaActC
set_option linter.unusedVariables false
set_option linter.unusedSimpArgs false
namespace Go.Proofs.Ytmehkikkjebnnaa
open Go.RowKit
attribute [local go_sem] max2_i min2_i max_two min_two
attribute [local go_sem ↓] Go.wp_at_zero Go.wp_at_succ

/-- Row y as 'to' turns it. -/
def turnG (g : Grid) (f : List Cell → List Cell) : Grid := if 0 ≤ g.Y ∧ g.Y < g.Rows.length then { g with Rows := g.Rows.set g.Y.toNat (f (g.Rows.getD g.Y.toNat [])) } else g

/-- What a function value does to a row, in whatever world that has grown out of w. -/
def Turns (w : World) (n : Nat) (cap : Array Value) (f : List Cell → List Cell) : Prop :=
  ∀ (w1 : World) (a : Option Addr) (c : Nat) (l : List Cell), Ext w w1 → CellsAt w1 (.slice a l.length c) l → l.length ≤ 1000000 → Calls Try.prog n (#[.slice a l.length c] ++ cap) w1 (MadeC w1 (f l))

set_option maxRecDepth 100000 in
set_option maxHeartbeats 2000000 in
theorem turn_any (g : Grid) (n : Nat) (cap : Array Value) (f : List Cell → List Cell) (ar ab : Option Addr) (cr cb base : Nat) (w : World) (hg : WFG g) (hin : InG w base g ar cr ab cb) (hbase : base ≤ w.heap.size) (hf : Turns w n cap f)
    (hcf : ∀ (args : Array Value) (w : World), (callFunc n args).run Try.prog w = .ok (.enter n args) w) :
    Calls Try.prog 56 #[.agg #[.int .i64 g.W, .int .i64 g.H, .int .i64 g.X, .int .i64 g.Y, .bool g.Wrap, .int .i64 g.A, .int .i64 g.Top, .int .i64 g.Bottom, .int .i64 g.SX, .int .i64 g.SY, .int .i64 g.SA, .bool g.NoWrap, .bool g.Hidden, .slice ar g.Rows.length cr, .slice ab g.Back.length cb], .func (.func n) #[] cap] w (PassA base w (Value.slice ar g.Rows.length cr).ownBlock (turnG g f)) := by
  have HIN := Aside.mk hin
  have HF := Aside.mk hf
  have HG := Aside.mk hg
  clear hin hf
  have HA := Aside.mk ((Box.new w 31 #[.int .i64 g.W, .int .i64 g.H, .int .i64 g.X, .int .i64 g.Y, .bool g.Wrap, .int .i64 g.A, .int .i64 g.Top, .int .i64 g.Bottom, .int .i64 g.SX, .int .i64 g.SY, .int .i64 g.SA, .bool g.NoWrap, .bool g.Hidden, .slice ar g.Rows.length cr, .slice ab g.Back.length cb]).alloc (.cells #[.int .i64 0, .int .i64 0, .int .i64 0, .int .i64 0, .bool false, .int .i64 0, .int .i64 0, .int .i64 0, .int .i64 0, .int .i64 0, .int .i64 0, .bool false, .bool false, .slice none 0 0, .slice none 0 0] 31))
  have HZ := Aside.mk (Box.newAt (w.alloc (.cells #[.int .i64 g.W, .int .i64 g.H, .int .i64 g.X, .int .i64 g.Y, .bool g.Wrap, .int .i64 g.A, .int .i64 g.Top, .int .i64 g.Bottom, .int .i64 g.SX, .int .i64 g.SY, .int .i64 g.SA, .bool g.NoWrap, .bool g.Hidden, .slice ar g.Rows.length cr, .slice ab g.Back.length cb] 31)) 31 #[.int .i64 0, .int .i64 0, .int .i64 0, .int .i64 0, .bool false, .int .i64 0, .int .i64 0, .int .i64 0, .int .i64 0, .int .i64 0, .int .i64 0, .bool false, .bool false, .slice none 0 0, .slice none 0 0] (w.heap.size + 1) (by simp))
  have HW := Aside.mk ((Ext.alloc1 w (.cells #[.int .i64 g.W, .int .i64 g.H, .int .i64 g.X, .int .i64 g.Y, .bool g.Wrap, .int .i64 g.A, .int .i64 g.Top, .int .i64 g.Bottom, .int .i64 g.SX, .int .i64 g.SY, .int .i64 g.SA, .bool g.NoWrap, .bool g.Hidden, .slice ar g.Rows.length cr, .slice ab g.Back.length cb] 31)).alloc (.cells #[.int .i64 0, .int .i64 0, .int .i64 0, .int .i64 0, .bool false, .int .i64 0, .int .i64 0, .int .i64 0, .int .i64 0, .int .i64 0, .int .i64 0, .bool false, .bool false, .slice none 0 0, .slice none 0 0] 31))
  have hyl : g.Y.toNat < g.Rows.length := by have := hg.Y; have := hg.rows; omega
  obtain ⟨k1, hk0, hk1, hk2⟩ := HIN.out.rows.head (by omega)
  subst hk0
  obtain ⟨b, o, a', c', r, ha, hcell, hrow, hr⟩ := HIN.out.rows.at_.at_ g.Y.toNat hyl
  injection ha with ha
  injection ha with ha1 ha2
  subst ha1
  subst ha2
  rw [Nat.zero_add] at hcell
  have HC := Aside.mk hcell
  have HRow := Aside.mk hrow
  have hy0 : 0 ≤ g.Y := hg.Y.1
  have hyI : g.Y < (g.Rows.length : Int) := by omega
  have hh : g.Y < 1000 := by have := hg.H; have := hg.Y; omega
  have hd : (decide ((0 : Int) ≤ g.Y) && decide (g.Y < g.Rows.length)) = true := by simp; omega
  clear hcell hrow
  have hmf : ∀ (fn : Fn) (first cap : Array Value) (w : World), (Instr.makeFunc fn first cap).run Try.prog w = .ok (.func fn first cap) w := fun _ _ _ _ => rfl
  go_enter Try.func56, Try.ntmps56
  go_wp2
  refine wp_region_till 13 (fun w' => Box w' w.heap.size 31 #[.int .i64 g.W, .int .i64 g.H, .int .i64 g.X, .int .i64 g.Y, .bool g.Wrap, .int .i64 g.A, .int .i64 g.Top, .int .i64 g.Bottom, .int .i64 g.SX, .int .i64 g.SY, .int .i64 g.SA, .bool g.NoWrap, .bool g.Hidden, .slice (some ⟨k1, 0, none⟩) g.Rows.length cr, .slice ab g.Back.length cb] ∧ w'.cell? ⟨k1, g.Y.toNat, none⟩ = some (.slice a' r.length c')) (by rfl) ⟨HA.out.drew, HW.out.drew.cell HC.out⟩ ?_
  intro hS
  refine ⟨kept_none _ rfl, fun hKept => ?_⟩
  refine till_take (i := 0) (oi := _) (v := ?_) rfl (by kernel_rfl) (by kernel_rfl) (by kernel_rfl) (by kernel_rfl) (fun _ _ _ h => h) hKept hS (Or.inl ⟨by rfl, ?_⟩) ?_; rotate_left; (intro wS hSw; obtain ⟨hSb, hSc1⟩ := hSw; have hSc := hSb.cell; go_simp; try with_reducible rfl); intro hKept; (try simp only [List.getElem?_toArray, List.getElem?_cons_succ, List.getElem?_cons_zero, List.getElem_toArray, List.getElem_cons_succ, List.getElem_cons_zero, Act.put, List.setIfInBounds_toArray, List.set_cons_zero, List.set_cons_succ])
  refine till_take (i := 1) (oi := _) (v := ?_) rfl (by kernel_rfl) (by kernel_rfl) (by kernel_rfl) (by kernel_rfl) (fun _ _ _ h => h) hKept hS (Or.inl ⟨by rfl, ?_⟩) ?_; rotate_left; (intro wS hSw; obtain ⟨hSb, hSc1⟩ := hSw; have hSc := hSb.cell; go_simp; try with_reducible rfl); intro hKept; (try simp only [List.getElem?_toArray, List.getElem?_cons_succ, List.getElem?_cons_zero, List.getElem_toArray, List.getElem_cons_succ, List.getElem_cons_zero, Act.put, List.setIfInBounds_toArray, List.set_cons_zero, List.set_cons_succ])
  refine till_take (i := 2) (oi := _) (v := ?_) rfl (by kernel_rfl) (by kernel_rfl) (by kernel_rfl) (by kernel_rfl) (fun _ _ _ h => h) hKept hS (Or.inl ⟨by rfl, ?_⟩) ?_; rotate_left; (intro wS hSw; obtain ⟨hSb, hSc1⟩ := hSw; have hSc := hSb.cell; go_simp; try with_reducible rfl); intro hKept; (try simp only [List.getElem?_toArray, List.getElem?_cons_succ, List.getElem?_cons_zero, List.getElem_toArray, List.getElem_cons_succ, List.getElem_cons_zero, Act.put, List.setIfInBounds_toArray, List.set_cons_zero, List.set_cons_succ])
  refine till_take (i := 3) (oi := _) (v := ?_) rfl (by kernel_rfl) (by kernel_rfl) (by kernel_rfl) (by kernel_rfl) (fun _ _ _ h => h) hKept hS (Or.inl ⟨by rfl, ?_⟩) ?_; rotate_left; (intro wS hSw; obtain ⟨hSb, hSc1⟩ := hSw; have hSc := hSb.cell; go_simp; try with_reducible rfl); intro hKept; (try simp only [List.getElem?_toArray, List.getElem?_cons_succ, List.getElem?_cons_zero, List.getElem_toArray, List.getElem_cons_succ, List.getElem_cons_zero, Act.put, List.setIfInBounds_toArray, List.set_cons_zero, List.set_cons_succ])
  refine till_take (i := 4) (oi := _) (v := ?_) rfl (by kernel_rfl) (by kernel_rfl) (by kernel_rfl) (by kernel_rfl) (fun _ _ _ h => h) hKept hS (Or.inl ⟨by rfl, ?_⟩) ?_; rotate_left; (intro wS hSw; obtain ⟨hSb, hSc1⟩ := hSw; have hSc := hSb.cell; go_simp; try with_reducible rfl); intro hKept; (try simp only [List.getElem?_toArray, List.getElem?_cons_succ, List.getElem?_cons_zero, List.getElem_toArray, List.getElem_cons_succ, List.getElem_cons_zero, Act.put, List.setIfInBounds_toArray, List.set_cons_zero, List.set_cons_succ])
  refine till_take (i := 5) (oi := _) (v := ?_) rfl (by kernel_rfl) (by kernel_rfl) (by kernel_rfl) (by kernel_rfl) (fun _ _ _ h => h) hKept hS (Or.inl ⟨by rfl, ?_⟩) ?_; rotate_left; (intro wS hSw; obtain ⟨hSb, hSc1⟩ := hSw; have hSc := hSb.cell; go_simp; try with_reducible rfl); intro hKept; (try simp only [List.getElem?_toArray, List.getElem?_cons_succ, List.getElem?_cons_zero, List.getElem_toArray, List.getElem_cons_succ, List.getElem_cons_zero, Act.put, List.setIfInBounds_toArray, List.set_cons_zero, List.set_cons_succ])
  refine till_take (i := 6) (oi := _) (v := ?_) rfl (by kernel_rfl) (by kernel_rfl) (by kernel_rfl) (by kernel_rfl) (fun _ _ _ h => h) hKept hS (Or.inl ⟨by rfl, ?_⟩) ?_; rotate_left; (intro wS hSw; obtain ⟨hSb, hSc1⟩ := hSw; have hSc := hSb.cell; go_simp; try with_reducible rfl); intro hKept; (try simp only [List.getElem?_toArray, List.getElem?_cons_succ, List.getElem?_cons_zero, List.getElem_toArray, List.getElem_cons_succ, List.getElem_cons_zero, Act.put, List.setIfInBounds_toArray, List.set_cons_zero, List.set_cons_succ])
  refine till_take (i := 7) (oi := _) (v := ?_) rfl (by kernel_rfl) (by kernel_rfl) (by kernel_rfl) (by kernel_rfl) (fun _ _ _ h => h) hKept hS (Or.inl ⟨by rfl, ?_⟩) ?_; rotate_left; (intro wS hSw; obtain ⟨hSb, hSc1⟩ := hSw; have hSc := hSb.cell; go_simp; try with_reducible rfl); intro hKept; (try simp only [List.getElem?_toArray, List.getElem?_cons_succ, List.getElem?_cons_zero, List.getElem_toArray, List.getElem_cons_succ, List.getElem_cons_zero, Act.put, List.setIfInBounds_toArray, List.set_cons_zero, List.set_cons_succ])
  refine till_take (i := 8) (oi := _) (v := ?_) rfl (by kernel_rfl) (by kernel_rfl) (by kernel_rfl) (by kernel_rfl) (fun _ _ _ h => h) hKept hS (Or.inl ⟨by rfl, ?_⟩) ?_; rotate_left; (intro wS hSw; obtain ⟨hSb, hSc1⟩ := hSw; have hSc := hSb.cell; go_simp; try with_reducible rfl); intro hKept; (try simp only [List.getElem?_toArray, List.getElem?_cons_succ, List.getElem?_cons_zero, List.getElem_toArray, List.getElem_cons_succ, List.getElem_cons_zero, Act.put, List.setIfInBounds_toArray, List.set_cons_zero, List.set_cons_succ])
  refine till_take (i := 9) (oi := _) (v := ?_) rfl (by kernel_rfl) (by kernel_rfl) (by kernel_rfl) (by kernel_rfl) (fun _ _ _ h => h) hKept hS (Or.inl ⟨by rfl, ?_⟩) ?_; rotate_left; (intro wS hSw; obtain ⟨hSb, hSc1⟩ := hSw; have hSc := hSb.cell; go_simp; try with_reducible rfl); intro hKept; (try simp only [List.getElem?_toArray, List.getElem?_cons_succ, List.getElem?_cons_zero, List.getElem_toArray, List.getElem_cons_succ, List.getElem_cons_zero, Act.put, List.setIfInBounds_toArray, List.set_cons_zero, List.set_cons_succ])
  refine till_take (i := 10) (oi := _) (v := ?_) rfl (by kernel_rfl) (by kernel_rfl) (by kernel_rfl) (by kernel_rfl) (fun _ _ _ h => h) hKept hS (Or.inl ⟨by rfl, ?_⟩) ?_; rotate_left; (intro wS hSw; obtain ⟨hSb, hSc1⟩ := hSw; have hSc := hSb.cell; go_simp; try with_reducible rfl); intro hKept; (try simp only [List.getElem?_toArray, List.getElem?_cons_succ, List.getElem?_cons_zero, List.getElem_toArray, List.getElem_cons_succ, List.getElem_cons_zero, Act.put, List.setIfInBounds_toArray, List.set_cons_zero, List.set_cons_succ])
  refine till_one (i := 11) (by simp only [List.getElem?_toArray, List.getElem?_cons_succ, List.getElem?_cons_zero]; rfl) (by kernel_rfl) hKept ?_; intro K hK; rw [if_pos (by rfl)]
  go_simp
  refine (HF.out _ _ _ _ HW.out.drew (HRow.out.ext HW.out.drew) (by have := hg.wide r (List.mem_of_getElem? hr.out); have := hg.W; omega)).mono ?_
  rintro e w1 ⟨a1, c1, rfl, ho1, he1⟩
  have HO1 := Aside.mk ho1
  have HE1 := Aside.mk he1
  have HA1 := Aside.mk (HA.out.drew.ext he1)
  have HZ1 := Aside.mk (HZ.out.drew.ext he1)
  have HX1 := Aside.mk (HW.out.drew.trans he1)
  clear ho1 he1
  refine hK.out _ _ (fun _ => ⟨HA1.out, HX1.out.cell HC.out⟩) ?_; clear hS; intro hS hKept; replace hS := hS (by decide); (try simp only [List.getElem?_toArray, List.getElem?_cons_succ, List.getElem?_cons_zero, List.getElem_toArray, List.getElem_cons_succ, List.getElem_cons_zero, Act.put, List.setIfInBounds_toArray, List.set_cons_zero, List.set_cons_succ])
  obtain ⟨vs, hv1, hv2⟩ := (HIN.out.rows.ext HX1.out).ex
  have hfz : w1.frozen? ⟨k1, g.Y.toNat, none⟩ = false := World.ownsRow.frozenAt hv1 _
  have hcl := HX1.out.cell HC.out
  have hst := World.ownsRow.stored hv1 g.Y.toNat (.slice a1 (f r).length c1)
  have HST := Aside.mk hst.1
  have HGS := Aside.mk hst.2
  have HV1 := Aside.mk hv1
  have HV2 := Aside.mk hv2
  clear hst hv1 hv2
  have HA2 := Aside.mk (HA1.out.grown HGS.out (by intro h; injection h with h; omega))
  have HZ2 := Aside.mk (HZ1.out.grown HGS.out (by intro h; injection h with h; omega))
  refine till_take (i := 12) (oi := _) (v := ?_) rfl (by kernel_rfl) (by kernel_rfl) (by kernel_rfl) (by kernel_rfl) (fun _ _ _ h => h) hKept hS (Or.inl ⟨by rfl, ?_⟩) ?_; rotate_left; (intro wS hSw; obtain ⟨hSb, hSc1⟩ := hSw; have hSc := hSb.cell; go_simp; try with_reducible rfl); intro hKept; (try simp only [List.getElem?_toArray, List.getElem?_cons_succ, List.getElem?_cons_zero, List.getElem_toArray, List.getElem_cons_succ, List.getElem_cons_zero, Act.put, List.setIfInBounds_toArray, List.set_cons_zero, List.set_cons_succ])
  refine till_one (i := 13) (by simp only [List.getElem?_toArray, List.getElem?_cons_succ, List.getElem?_cons_zero]; rfl) (by kernel_rfl) hKept ?_; intro K hK; rw [if_pos (by rfl)]
  go_simp
  refine hK.out _ _ (fun h => absurd rfl h) ?_
  intro _ _
  refine till_done (by kernel_rfl) ?_ _
  go_wp2_with (first
    | (refine atLoad 31 (.tmp 2) rfl ?_; refine wpList_load_row rfl 31 (.tmp 2) rfl w.heap.size rfl 31 _ (0, 0) _ HA2.out Try.underlying31 rfl size31 ?_)
    | (refine atStore 31 (.tmp 4) (.tmp 29) rfl ?_; refine wpList_store_box _ rfl 31 (.tmp 4) (.tmp 29) rfl (w.heap.size + 1) _ rfl rfl 31 _ HZ2.out size31 rfl rfl ?_; intro w3 hbz hgz; have HZ3 := Aside.mk hbz; have HG3 := Aside.mk hgz; clear hgz hbz))
  refine bodyPost_ret (results_cell_row Try.results56 _ _ (w.heap.size + 1) 31 _ (0, 0) _ rfl HZ3.out Try.underlying31 rfl size31) rfl ?_
  have hrv : g.Rows.getD g.Y.toNat [] = r := by rw [List.getD_eq_getElem?_getD, hr.out]; rfl
  have htg : turnG g f = { g with Rows := g.Rows.set g.Y.toNat (f r) } := by unfold turnG; rw [if_pos ⟨hy0, hyI⟩, hrv]
  rw [htg]
  have hrow1 : OwnR (w1.setCell ⟨k1, g.Y.toNat, none⟩ (.slice a1 (f r).length c1)) base (.slice (some ⟨k1, 0, none⟩) (g.Rows.set g.Y.toNat (f r)).length cr) (g.Rows.set g.Y.toNat (f r)) := by
    refine ⟨_, ?_, (HV2.out.imp fun a b hab => hab.grown HV1.out HGS.out).set ((HO1.out.mono (by have := HW.out.size; simp at this ⊢; omega)).grown HV1.out HGS.out) g.Y.toNat⟩
    rw [List.length_set]
    exact HST.out
  have hback1 := (HIN.out.back.ext HX1.out).beside HV1.out HGS.out (fun k hk hk' => HIN.out.apart k hk' hk)
  have hz := HZ2.out
  refine ⟨some ⟨k1, 0, none⟩, cr, ab, cb, by simp only [List.length_set], ⟨⟨hrow1.box hz HG3.out, hback1.box hz HG3.out, ?_⟩⟩, ⟨?_⟩⟩
  · intro k hk hk'
    exact HIN.out.apart k hk hk'
  · have h1 : w.grownBy (w1.setCell ⟨k1, g.Y.toNat, none⟩ (.slice a1 (f r).length c1)) (some k1) := ⟨HX1.out.os, HX1.out.tape, HX1.out.output, by simpa using HX1.out.size, fun k hk hne => (HGS.out.block k (Nat.lt_of_lt_of_le hk HX1.out.size) hne).trans (HX1.out.block k hk)⟩
    exact ⟨HG3.out.os.trans h1.os, HG3.out.tape.trans h1.tape, HG3.out.output.trans h1.output, Nat.le_trans h1.size HG3.out.size, fun k hk hne => (HG3.out.block k (Nat.lt_of_lt_of_le hk h1.size) (by intro h; injection h with h; omega)).trans (h1.block k hk hne)⟩

theorem callf57 : ∀ (args : Array Value) (w : World), (callFunc 57 args).run Try.prog w = .ok (.enter 57 args) w := by
  intro args w
  simp [callFunc, go_sem, Try.func57, Try.f57]

set_option maxRecDepth 100000 in
theorem put1_turns (g : Grid) (ar ab : Option Addr) (nr cr nb cb b1 b2 : Nat) (r : Int) (W : World) (ha : Box W b1 31 #[.int .i64 g.W, .int .i64 g.H, .int .i64 g.X, .int .i64 g.Y, .bool g.Wrap, .int .i64 g.A, .int .i64 g.Top, .int .i64 g.Bottom, .int .i64 g.SX, .int .i64 g.SY, .int .i64 g.SA, .bool g.NoWrap, .bool g.Hidden, .slice ar nr cr, .slice ab nb cb]) (hr : Box W b2 21 #[.int .i32 r]) :
    Turns W 57 #[.pointer (some ⟨b1, 0, none⟩), .pointer (some ⟨b2, 0, none⟩)] (fun row => putC row g.X ⟨r, g.A⟩) := by
  intro w1 a c l he hl hn
  rw [show (#[Value.slice a l.length c] ++ #[.pointer (some ⟨b1, 0, none⟩), .pointer (some ⟨b2, 0, none⟩)] : Array Value) = #[.slice a l.length c, .pointer (some ⟨b1, 0, none⟩), .pointer (some ⟨b2, 0, none⟩)] from rfl]
  have HL := Aside.mk hl
  have HA := Aside.mk (ha.ext he)
  have HR := Aside.mk (hr.ext he)
  clear ha hr hl
  obtain ⟨hc1, hf1⟩ := HA.out.rules
  obtain ⟨hc2, hf2⟩ := HR.out.rules
  go_enter Try.func57, Try.ntmps57
  go_wp2_with (go_at_call 58; refine (Put_any _ l _ ⟨r, g.A⟩ _ HL.out hn).mono ?_; rintro e w2 ⟨a2, c2, rfl, ho, he2⟩; have HO := Aside.mk ho; have HE := Aside.mk he2; clear ho he2)
  go_ret
  exact ⟨a2, c2, rfl, HO.out, HE.out⟩
end Go.Proofs.Ytmehkikkjebnnaa
