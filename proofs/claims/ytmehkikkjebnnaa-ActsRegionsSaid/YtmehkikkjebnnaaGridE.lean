/-
  Walks: grid.Up.
-/
import Derived.Test.YtmehkikkjebnnaaGridD
set_option linter.unusedVariables false
set_option linter.unusedSimpArgs false
namespace Go.Proofs.Ytmehkikkjebnnaa
open Go.RowKit
attribute [local go_sem] max2_i min2_i max_two min_two
attribute [local go_sem ↓] Go.wp_at_zero Go.wp_at_succ

theorem OwnR.beside {w w' : World} {base base' n m c : Nat} {a : Option Addr} {ll : List (List Cell)} {v : Value} {vs : List Value} (h : OwnR w base (.slice a n c) ll) (hv : w.ownsRow base' 51 1 v m vs) (hg : w.grownBy w' v.ownBlock)
    (hne : ∀ k, (Value.slice a n c).ownBlock = some k → v.ownBlock ≠ some k) : OwnR w' base (.slice a n c) ll := by
  obtain ⟨xs, h1, h2⟩ := h.ex
  refine ⟨xs, h1.kept hg ?_, h2.imp fun a b hab => hab.grown hv hg⟩
  cases hb : (Value.slice a n c).ownBlock with
  | none => exact .inl rfl
  | some k => exact .inr fun e => hne k hb e.symm

theorem Holds.from_ {w : World} {a : Option Addr} {n c : Nat} {xs : List Value} (h : Holds w 1 (.slice a n c) n xs) (lo : Nat) (hl : lo ≤ n) :
    (c = lo → Holds w 1 (.slice a (n - lo) 0) (n - lo) (xs.drop lo)) ∧ (¬ c = lo → Holds w 1 (.slice (a.map (fun x => x.add lo)) (n - lo) (c - lo)) (n - lo) (xs.drop lo)) := by
  have h1 := h.sliced lo n hl (Nat.le_refl _)
  have h2 := h.len
  unfold Go.sliced at h1
  rw [Nat.mul_one, Nat.mul_one, List.take_of_length_le (by rw [List.length_drop]; omega)] at h1
  constructor
  · intro hc
    subst hc
    rwa [if_pos rfl, Nat.sub_self] at h1
  · intro hc
    rwa [if_neg hc] at h1

set_option maxRecDepth 100000 in
set_option maxHeartbeats 2000000 in
theorem Up_any (g : Grid) (ar ab : Option Addr) (cr cb : Nat) (top bottom n : Int) (w : World) (hr : RowsAt w (.slice ar g.Rows.length cr) g.Rows) (hb : RowsAt w (.slice ab g.Back.length cb) g.Back) (hsr : Small g.Rows) (hsb : Small g.Back)
    (hW : 0 ≤ g.W ∧ g.W ≤ 1000000) (hH : 0 ≤ g.H ∧ g.H ≤ 1000000) :
    Calls Try.prog 71 #[.agg #[.int .i64 g.W, .int .i64 g.H, .int .i64 g.X, .int .i64 g.Y, .bool g.Wrap, .int .i64 g.A, .int .i64 g.Top, .int .i64 g.Bottom, .int .i64 g.SX, .int .i64 g.SY, .int .i64 g.SA, .bool g.NoWrap, .bool g.Hidden, .slice ar g.Rows.length cr, .slice ab g.Back.length cb], .int .i64 top, .int .i64 bottom, .int .i64 n] w (PassG w.heap.size w (upG g top bottom n)) := by
  have hlen : g.Rows.length ≤ 100000 := hsr.1
  have HR := Aside.mk hr
  have HB := Aside.mk hb
  clear hr hb
  have HA := Aside.mk ((Box.new w 31 #[.int .i64 g.W, .int .i64 g.H, .int .i64 g.X, .int .i64 g.Y, .bool g.Wrap, .int .i64 g.A, .int .i64 g.Top, .int .i64 g.Bottom, .int .i64 g.SX, .int .i64 g.SY, .int .i64 g.SA, .bool g.NoWrap, .bool g.Hidden, .slice ar g.Rows.length cr, .slice ab g.Back.length cb]).alloc (.cells #[.int .i64 0, .int .i64 0, .int .i64 0, .int .i64 0, .bool false, .int .i64 0, .int .i64 0, .int .i64 0, .int .i64 0, .int .i64 0, .int .i64 0, .bool false, .bool false, .slice none 0 0, .slice none 0 0] 31))
  have HZ := Aside.mk (Box.newAt (w.alloc (.cells #[.int .i64 g.W, .int .i64 g.H, .int .i64 g.X, .int .i64 g.Y, .bool g.Wrap, .int .i64 g.A, .int .i64 g.Top, .int .i64 g.Bottom, .int .i64 g.SX, .int .i64 g.SY, .int .i64 g.SA, .bool g.NoWrap, .bool g.Hidden, .slice ar g.Rows.length cr, .slice ab g.Back.length cb] 31)) 31 #[.int .i64 0, .int .i64 0, .int .i64 0, .int .i64 0, .bool false, .int .i64 0, .int .i64 0, .int .i64 0, .int .i64 0, .int .i64 0, .int .i64 0, .bool false, .bool false, .slice none 0 0, .slice none 0 0] (w.heap.size + 1) (by simp))
  have HW := Aside.mk ((Ext.alloc1 w (.cells #[.int .i64 g.W, .int .i64 g.H, .int .i64 g.X, .int .i64 g.Y, .bool g.Wrap, .int .i64 g.A, .int .i64 g.Top, .int .i64 g.Bottom, .int .i64 g.SX, .int .i64 g.SY, .int .i64 g.SA, .bool g.NoWrap, .bool g.Hidden, .slice ar g.Rows.length cr, .slice ab g.Back.length cb] 31)).alloc (.cells #[.int .i64 0, .int .i64 0, .int .i64 0, .int .i64 0, .bool false, .int .i64 0, .int .i64 0, .int .i64 0, .int .i64 0, .int .i64 0, .int .i64 0, .bool false, .bool false, .slice none 0 0, .slice none 0 0] 31))
  obtain ⟨T, hT⟩ := Int.eq_ofNat_of_zero_le (show 0 ≤ heldY g top from by unfold heldY; omega)
  obtain ⟨B, hB⟩ := Int.eq_ofNat_of_zero_le (show 0 ≤ heldY g bottom from by unfold heldY; omega)
  have hB1 : B ≤ 1000000 := by unfold heldY at hB; omega
  have hT1 : T ≤ 1000000 := by unfold heldY at hT; omega
  have hK0 : min (max n 0) ((B : Int) - T + 1) ≤ 1000001 := by omega
  obtain ⟨ok, hok⟩ : ∃ ok, (decide ((T : Int) ≤ B) && decide ((B : Int) < g.Rows.length)) = ok := ⟨_, rfl⟩
  obtain ⟨K, hK⟩ : ∃ K, min (max n 0) ((B : Int) - T + 1) = K := ⟨_, rfl⟩
  have HTT := Aside.mk hT
  have HBB := Aside.mk hB
  have HK := Aside.mk hK
  have HOK := Aside.mk hok
  clear hT hB hK hok
  have hs2 : w.heap.size + 2 ≤ w.heap.size + 2 := Nat.le_refl _
  cases ok
  · have hdn : upG g top bottom n = g := by
      have h1 := HOK.out
      unfold upG
      rw [HTT.out, HBB.out]
      simp only [Int.toNat_natCast]
      rw [if_neg]
      intro h2
      simp at h1
      omega
    rw [hdn]
    go_enter Try.func71, Try.ntmps71
    go_wp2_with (first
      | (refine atLoad 31 (.tmp 4) rfl ?_; refine wpList_load_row rfl 31 (.tmp 4) rfl w.heap.size rfl 31 #[.int .i64 g.W, .int .i64 g.H, .int .i64 g.X, .int .i64 g.Y, .bool g.Wrap, .int .i64 g.A, .int .i64 g.Top, .int .i64 g.Bottom, .int .i64 g.SX, .int .i64 g.SY, .int .i64 g.SA, .bool g.NoWrap, .bool g.Hidden, .slice ar g.Rows.length cr, .slice ab g.Back.length cb] (0, 0) _ HA.out Try.underlying31 rfl size31 ?_)
      | (go_at_call 33; refine (Still_any g _ _ _ _ _ (HR.out.ext HW.out) (HB.out.ext HW.out) hsr hsb).mono ?_; rintro e w1 ⟨g1, ar1, cr1, ab1, cb1, rfl, hg1, HO1, HP1, HN1, HE1⟩; obtain ⟨rfl⟩ := hg1; have HA1 := Aside.mk (HA.out.ext HE1.out); have HZ1 := Aside.mk (HZ.out.ext HE1.out))
      | (refine atStore 31 (.tmp 4) (.tmp 11) rfl ?_; refine wpList_store_box _ rfl 31 (.tmp 4) (.tmp 11) rfl w.heap.size _ rfl rfl 31 _ HA1.out size31 rfl rfl ?_; intro w2 ha2 hg2; have HA2 := Aside.mk ha2; have HG2 := Aside.mk hg2; have HZ2 := Aside.mk (HZ1.out.grown hg2 (by simp)); clear hg2 ha2)
      | (refine atLoad 31 (.tmp 4) rfl ?_; refine wpList_load_row rfl 31 (.tmp 4) rfl w.heap.size rfl 31 #[.int .i64 g1.W, .int .i64 g1.H, .int .i64 g1.X, .int .i64 g1.Y, .bool g1.Wrap, .int .i64 g1.A, .int .i64 g1.Top, .int .i64 g1.Bottom, .int .i64 g1.SX, .int .i64 g1.SY, .int .i64 g1.SA, .bool g1.NoWrap, .bool g1.Hidden, .slice ar1 g1.Rows.length cr1, .slice ab1 g1.Back.length cb1] (0, 0) _ HA2.out Try.underlying31 rfl size31 ?_)
      | (go_at_call 114; refine (part_eq g1 _ _ _ _ _ _ T B _ _ _ hW hH (by omega) HTT.out HBB.out HK.out HOK.out).mono ?_; rintro e w3 ⟨rfl, he3⟩; have HE3 := Aside.mk he3; have HA3 := Aside.mk (HA2.out.ext he3); have HZ3 := Aside.mk (HZ2.out.ext he3); clear he3)
      | (refine atLoad 31 (.tmp 4) rfl ?_; refine wpList_load_row rfl 31 (.tmp 4) rfl w.heap.size rfl 31 #[.int .i64 g1.W, .int .i64 g1.H, .int .i64 g1.X, .int .i64 g1.Y, .bool g1.Wrap, .int .i64 g1.A, .int .i64 g1.Top, .int .i64 g1.Bottom, .int .i64 g1.SX, .int .i64 g1.SY, .int .i64 g1.SA, .bool g1.NoWrap, .bool g1.Hidden, .slice ar1 g1.Rows.length cr1, .slice ab1 g1.Back.length cb1] (0, 0) _ HA3.out Try.underlying31 rfl size31 ?_)
      | (refine atStore 31 (.tmp 8) (.tmp 24) rfl ?_; refine wpList_store_box _ rfl 31 (.tmp 8) (.tmp 24) rfl (w.heap.size + 1) _ rfl rfl 31 _ HZ3.out size31 rfl rfl ?_; intro w4 hb4 hg4; have HZ4 := Aside.mk hb4; have HG4 := Aside.mk hg4; clear hg4 hb4))
    refine bodyPost_ret (results_cell_row Try.results71 _ _ (w.heap.size + 1) 31 _ (0, 0) _ rfl HZ4.out Try.underlying31 rfl size31) rfl ?_
    have hst : ((w.alloc (.cells #[.int .i64 g1.W, .int .i64 g1.H, .int .i64 g1.X, .int .i64 g1.Y, .bool g1.Wrap, .int .i64 g1.A, .int .i64 g1.Top, .int .i64 g1.Bottom, .int .i64 g1.SX, .int .i64 g1.SY, .int .i64 g1.SA, .bool g1.NoWrap, .bool g1.Hidden, .slice ar g1.Rows.length cr, .slice ab g1.Back.length cb] 31)).alloc (.cells #[.int .i64 0, .int .i64 0, .int .i64 0, .int .i64 0, .bool false, .int .i64 0, .int .i64 0, .int .i64 0, .int .i64 0, .int .i64 0, .int .i64 0, .bool false, .bool false, .slice none 0 0, .slice none 0 0] 31)).heap.size = w.heap.size + 2 := by simp
    rw [hst] at HO1 HP1
    refine PassG.mk' g1 (OwnR.mono (base := w.heap.size + 2) (((HO1.out.keep HG2.out (by intro j hj hk; omega)).ext HE3.out).keep HG4.out (by intro j hj hk; omega)) (by omega)) (OwnR.mono (base := w.heap.size + 2) (((HP1.out.keep HG2.out (by intro j hj hk; omega)).ext HE3.out).keep HG4.out (by intro j hj hk; omega)) (by omega)) HN1.out ?_
    exact (((HW.out.trans HE1.out).of_grown HG2.out (by intro k hk; cases hk; omega)).trans HE3.out).of_grown HG4.out (by intro k hk; cases hk; omega)
  · have h1 := HOK.out
    simp only [Bool.and_eq_true, decide_eq_true_eq] at h1
    obtain ⟨h1, h2⟩ := h1
    obtain ⟨N, hN⟩ := Int.eq_ofNat_of_zero_le (show 0 ≤ K from by have := HK.out; omega)
    subst hN
    obtain ⟨Q, hQ⟩ : ∃ Q, Q = B + 1 := ⟨_, rfl⟩
    have hNQ : (N : Int) ≤ Q - T := by have := HK.out; omega
    obtain ⟨E, hE⟩ : ∃ E, E = Q - N := ⟨_, rfl⟩
    have hdn : upG g top bottom n = { g with Rows := upRows g T B N, Back := if T = 0 then lastFifty (g.Back ++ g.Rows.take N) else g.Back } := by
      unfold upG
      rw [HTT.out, HBB.out]
      simp only [Int.toNat_natCast]
      rw [if_pos (by omega), HK.out, Int.toNat_natCast]
    have HDN := Aside.mk hdn
    clear hdn
    have hw1 : IntKind.i64.wrap ((B : Int) + 1) = (Q : Int) := by rw [show (B : Int) + 1 = (Q : Int) from by omega]; exact IntWalk.i64_in _ (by omega)
    have hw2 : IntKind.i64.wrap ((Q : Int) - (N : Int)) = (E : Int) := by rw [show (Q : Int) - N = (E : Int) from by omega]; exact IntWalk.i64_in _ (by omega)
    have hT0 : (0 : Int) ≤ (T : Int) := by omega
    have hQ0 : (0 : Int) ≤ (Q : Int) := by omega
    have hE0 : (0 : Int) ≤ (E : Int) := by omega
    have hTE' : T + (E - T) = E := by omega
    have hTE : (T : Int) ≤ (E : Int) := by omega
    have HSUM := Aside.mk (show T + (N + ((E - T) + (g.Rows.length - Q))) = g.Rows.length from by omega)
    have hEQ1 : (E : Int) ≤ (Q : Int) := by omega
    have hTQ1 : (T : Int) < (Q : Int) := by omega
    have hQn : Q ≤ g.Rows.length := by omega
    have HQ := Aside.mk hQ
    have HEQ := Aside.mk hE
    have hQl : (Q : Int) ≤ (g.Rows.length : Int) := by omega
    clear hQ hE
    by_cases hTz : T = 0
    · have hTd1 : ((T : Int) == 0) = true := by simp [hTz]
      have HTZ := Aside.mk hTz
      clear hTz
      go_enter Try.func71, Try.ntmps71
      go_wp2_with (first
        | (refine atLoad 31 (.tmp 4) rfl ?_; refine wpList_load_row rfl 31 (.tmp 4) rfl w.heap.size rfl 31 #[.int .i64 g.W, .int .i64 g.H, .int .i64 g.X, .int .i64 g.Y, .bool g.Wrap, .int .i64 g.A, .int .i64 g.Top, .int .i64 g.Bottom, .int .i64 g.SX, .int .i64 g.SY, .int .i64 g.SA, .bool g.NoWrap, .bool g.Hidden, .slice ar g.Rows.length cr, .slice ab g.Back.length cb] (0, 0) _ HA.out Try.underlying31 rfl size31 ?_)
        | (go_at_call 33; refine (Still_any g _ _ _ _ _ (HR.out.ext HW.out) (HB.out.ext HW.out) hsr hsb).mono ?_; rintro e w1 ⟨g1, ar1, cr1, ab1, cb1, rfl, hg1, HO1, HP1, HN1, HE1⟩; obtain ⟨rfl⟩ := hg1; have HA1 := Aside.mk (HA.out.ext HE1.out); have HZ1 := Aside.mk (HZ.out.ext HE1.out))
        | (refine atStore 31 (.tmp 4) (.tmp 11) rfl ?_; refine wpList_store_box _ rfl 31 (.tmp 4) (.tmp 11) rfl w.heap.size _ rfl rfl 31 _ HA1.out size31 rfl rfl ?_; intro w2 ha2 hg2; have HA2 := Aside.mk ha2; have HG2 := Aside.mk hg2; have HZ2 := Aside.mk (HZ1.out.grown hg2 (by simp)); clear hg2 ha2)
        | (refine atLoad 31 (.tmp 4) rfl ?_; refine wpList_load_row rfl 31 (.tmp 4) rfl w.heap.size rfl 31 #[.int .i64 g1.W, .int .i64 g1.H, .int .i64 g1.X, .int .i64 g1.Y, .bool g1.Wrap, .int .i64 g1.A, .int .i64 g1.Top, .int .i64 g1.Bottom, .int .i64 g1.SX, .int .i64 g1.SY, .int .i64 g1.SA, .bool g1.NoWrap, .bool g1.Hidden, .slice ar1 g1.Rows.length cr1, .slice ab1 g1.Back.length cb1] (0, 0) _ HA2.out Try.underlying31 rfl size31 ?_)
        | (go_at_call 114; refine (part_eq g1 _ _ _ _ _ _ T B _ _ _ hW hH (by omega) HTT.out HBB.out HK.out HOK.out).mono ?_; rintro e w3 ⟨rfl, he3⟩; have HE3 := Aside.mk he3; have HA3 := Aside.mk (HA2.out.ext he3); have HZ3 := Aside.mk (HZ2.out.ext he3); clear he3)
        | (refine atLoad 31 (.tmp 4) rfl ?_; refine wpList_load_row rfl 31 (.tmp 4) rfl w.heap.size rfl 31 #[.int .i64 g1.W, .int .i64 g1.H, .int .i64 g1.X, .int .i64 g1.Y, .bool g1.Wrap, .int .i64 g1.A, .int .i64 g1.Top, .int .i64 g1.Bottom, .int .i64 g1.SX, .int .i64 g1.SY, .int .i64 g1.SA, .bool g1.NoWrap, .bool g1.Hidden, .slice ar1 g1.Rows.length cr1, .slice ab1 g1.Back.length cb1] (0, 0) _ HA3.out Try.underlying31 rfl size31 ?_)
        | (refine atStore 31 (.tmp 8) (.tmp 24) rfl ?_; refine wpList_store_box _ rfl 31 (.tmp 8) (.tmp 24) rfl (w.heap.size + 1) _ rfl rfl 31 _ HZ3.out size31 rfl rfl ?_; intro w4 hb4 hg4; have HZ4 := Aside.mk hb4; have HG4 := Aside.mk hg4; clear hg4 hb4))
      have hcap : g1.Rows.length ≤ cr1 := by obtain ⟨_, _, hv, hle, _⟩ := HO1.out.at_.slice; injection hv with _ _ e3; omega
      have hQc : (Q : Int) ≤ (cr1 : Int) := by omega
      have hEc : (E : Int) ≤ (cr1 : Int) := by omega
      have hTc : (T : Int) ≤ (cr1 : Int) := by omega
      have hcT : ¬ (cr1 = T) := by omega
      have hst : ((w.alloc (.cells #[.int .i64 g1.W, .int .i64 g1.H, .int .i64 g1.X, .int .i64 g1.Y, .bool g1.Wrap, .int .i64 g1.A, .int .i64 g1.Top, .int .i64 g1.Bottom, .int .i64 g1.SX, .int .i64 g1.SY, .int .i64 g1.SA, .bool g1.NoWrap, .bool g1.Hidden, .slice ar g1.Rows.length cr, .slice ab g1.Back.length cb] 31)).alloc (.cells #[.int .i64 0, .int .i64 0, .int .i64 0, .int .i64 0, .bool false, .int .i64 0, .int .i64 0, .int .i64 0, .int .i64 0, .int .i64 0, .int .i64 0, .bool false, .bool false, .slice none 0 0, .slice none 0 0] 31)).heap.size = w.heap.size + 2 := by simp
      rw [hst] at HO1 HP1
      obtain ⟨k1, hk0, hk1, hk2⟩ := HO1.out.head (by omega)
      subst hk0
      have HO3 := Aside.mk ((HO1.out.keep HG2.out (by intro j hj hk; omega)).ext HE3.out)
      have HP3 := Aside.mk ((HP1.out.keep HG2.out (by intro j hj hk; omega)).ext HE3.out)
      have HE3 := Aside.mk (((HW.out.trans HE1.out).of_grown HG2.out (by intro k hk; cases hk; omega)).trans HE3.out)
      obtain ⟨vs, hv1, hv2⟩ := HO3.out.ex
      have hv3 := Holds.of_own hv1 (all2_one (fun a b hab => hab.oneCell) hv2)
      have HVW := Aside.mk hv3
      have HV1 := Aside.mk (pieceLow hv3 T (by omega))
      have HV2 := Aside.mk (pieceMid hv3 T (E - T) (by omega))
      have HV3 := Aside.mk (pieceHigh hv3 Q (by omega))
      have HVS := Aside.mk hv2
      clear hv1 hv2 hv3
      obtain ⟨hc3, hf3⟩ := HA3.out.rules
      have hN0 : (0 : Int) ≤ (N : Int) := by omega
      have hNl : N ≤ g1.Rows.length := by have h1 := HQ.out; omega
      have hNc : (N : Int) ≤ (cr1 : Int) := by omega
      have hlb : g1.Back.length ≤ 100000 := hsb.1
      obtain ⟨bs, hbs1, hbs2⟩ := HP3.out.ex
      have HBS1 := Aside.mk hbs1
      have HBS2 := Aside.mk hbs2
      clear hbs1 hbs2
      have HNP := Aside.mk (pieceLow HVW.out N hNl)
      obtain ⟨i0, hi, hz0, hz1, hz2⟩ := info_parts info51
      have hi' := Aside.mk hi
      clear hi
      generalize (.agg #[.int .i64 g1.W, .int .i64 g1.H, .int .i64 g1.X, .int .i64 g1.Y, .bool g1.Wrap, .int .i64 g1.A, .int .i64 g1.Top, .int .i64 g1.Bottom, .int .i64 g1.SX, .int .i64 g1.SY, .int .i64 g1.SA, .bool g1.NoWrap, .bool g1.Hidden, .slice ar g1.Rows.length cr, .slice ab g1.Back.length cb] : Value) = G0
      generalize (.agg #[.int .i64 g1.W, .int .i64 g1.H, .int .i64 g1.X, .int .i64 g1.Y, .bool g1.Wrap, .int .i64 g1.A, .int .i64 g1.Top, .int .i64 g1.Bottom, .int .i64 g1.SX, .int .i64 g1.SY, .int .i64 g1.SA, .bool g1.NoWrap, .bool g1.Hidden, .slice (some ⟨k1, 0, none⟩) g1.Rows.length cr1, .slice ab1 g1.Back.length cb1] : Value) = G1
      refine wp_region_till 8 (fun w' => Box w' w.heap.size 31 #[.int .i64 g1.W, .int .i64 g1.H, .int .i64 g1.X, .int .i64 g1.Y, .bool g1.Wrap, .int .i64 g1.A, .int .i64 g1.Top, .int .i64 g1.Bottom, .int .i64 g1.SX, .int .i64 g1.SY, .int .i64 g1.SA, .bool g1.NoWrap, .bool g1.Hidden, .slice (some ⟨k1, 0, none⟩) g1.Rows.length cr1, .slice ab1 g1.Back.length cb1]) (by rfl) HA3.out.drew ?_
      intro hS
      refine ⟨kept_none _ rfl, fun hKept => ?_⟩
      refine till_take (i := 0) (oi := _) (v := ?_) rfl (by kernel_rfl) (by kernel_rfl) (by kernel_rfl) (by kernel_rfl) (fun _ _ _ h => h) hKept hS (Or.inl ⟨by rfl, ?_⟩) ?_; rotate_left; (intro wS hSw; have hSc := hSw.cell; go_simp; try with_reducible rfl); intro hKept; (try simp only [List.getElem?_toArray, List.getElem?_cons_succ, List.getElem?_cons_zero, List.getElem_toArray, List.getElem_cons_succ, List.getElem_cons_zero, Act.put, List.setIfInBounds_toArray, List.set_cons_zero, List.set_cons_succ])
      refine till_take (i := 1) (oi := _) (v := ?_) rfl (by kernel_rfl) (by kernel_rfl) (by kernel_rfl) (by kernel_rfl) (fun _ _ _ h => h) hKept hS (Or.inl ⟨by rfl, ?_⟩) ?_; rotate_left; (intro wS hSw; have hSc := hSw.cell; go_simp; try with_reducible rfl); intro hKept; (try simp only [List.getElem?_toArray, List.getElem?_cons_succ, List.getElem?_cons_zero, List.getElem_toArray, List.getElem_cons_succ, List.getElem_cons_zero, Act.put, List.setIfInBounds_toArray, List.set_cons_zero, List.set_cons_succ])
      refine till_take (i := 2) (oi := _) (v := ?_) rfl (by kernel_rfl) (by kernel_rfl) (by kernel_rfl) (by kernel_rfl) (fun _ _ _ h => h) hKept hS (Or.inl ⟨by rfl, ?_⟩) ?_; rotate_left; (intro wS hSw; have hSc := hSw.cell; go_simp; try with_reducible rfl); intro hKept; (try simp only [List.getElem?_toArray, List.getElem?_cons_succ, List.getElem?_cons_zero, List.getElem_toArray, List.getElem_cons_succ, List.getElem_cons_zero, Act.put, List.setIfInBounds_toArray, List.set_cons_zero, List.set_cons_succ])
      refine till_take (i := 3) (oi := _) (v := ?_) rfl (by kernel_rfl) (by kernel_rfl) (by kernel_rfl) (by kernel_rfl) (fun _ _ _ h => h) hKept hS (Or.inl ⟨by rfl, ?_⟩) ?_; rotate_left; (intro wS hSw; have hSc := hSw.cell; go_simp; try with_reducible rfl); intro hKept; (try simp only [List.getElem?_toArray, List.getElem?_cons_succ, List.getElem?_cons_zero, List.getElem_toArray, List.getElem_cons_succ, List.getElem_cons_zero, Act.put, List.setIfInBounds_toArray, List.set_cons_zero, List.set_cons_succ])
      refine till_take (i := 4) (oi := _) (v := ?_) rfl (by kernel_rfl) (by kernel_rfl) (by kernel_rfl) (by kernel_rfl) (fun _ _ _ h => h) hKept hS (Or.inl ⟨by rfl, ?_⟩) ?_; rotate_left; (intro wS hSw; have hSc := hSw.cell; go_simp; try with_reducible rfl); intro hKept; (try simp only [List.getElem?_toArray, List.getElem?_cons_succ, List.getElem?_cons_zero, List.getElem_toArray, List.getElem_cons_succ, List.getElem_cons_zero, Act.put, List.setIfInBounds_toArray, List.set_cons_zero, List.set_cons_succ])
      refine till_take (i := 5) (oi := _) (v := ?_) rfl (by kernel_rfl) (by kernel_rfl) (by kernel_rfl) (by kernel_rfl) (fun _ _ _ h => h) hKept hS (Or.inl ⟨by rfl, ?_⟩) ?_; rotate_left; (intro wS hSw; have hSc := hSw.cell; go_simp; try with_reducible rfl); intro hKept; (try simp only [List.getElem?_toArray, List.getElem?_cons_succ, List.getElem?_cons_zero, List.getElem_toArray, List.getElem_cons_succ, List.getElem_cons_zero, Act.put, List.setIfInBounds_toArray, List.set_cons_zero, List.set_cons_succ])
      refine till_one (i := 6) (by simp only [List.getElem?_toArray, List.getElem?_cons_succ, List.getElem?_cons_zero]; rfl) (by kernel_rfl) hKept ?_; intro K hK
      refine step_append_holds _ (by rfl) _ _ 29 (by rfl) (w.heap.size + 2) 51 i0 (.slice none 0 0) 1 24 Try.underlying29 hi'.out hz0 hz1 hz2 rfl (by decide) _ g1.Back.length bs (by rfl) (own_ext HBS1.out (Ext.refl _).drew) _ N _ (by rfl) (HNP.out.ext (Ext.refl _).drew) (by unfold maxLen; omega) (by omega) (by have := HZ3.out.lt; simp; omega) ?_
      intro v' w4 hown hg hwh
      obtain ⟨av, cv, rfl⟩ := own_slice hown
      have HO4 := Aside.mk hown
      have HG4 := Aside.mk hg
      have HWH := Aside.mk hwh
      clear hown hg hwh
      go_simp
      have HA4 := Aside.mk (HA3.out.drew.grown HG4.out (fun e => by have h1 := own_base HBS1.out _ e.symm; omega))
      obtain ⟨hc4, hf4⟩ := HA4.out.rules
      clear hc3 hf3
      refine hK.out _ _ (fun _ => HA4.out) ?_; clear hS; intro hS hKept; replace hS := hS (by decide); (try simp only [List.getElem?_toArray, List.getElem?_cons_succ, List.getElem?_cons_zero, List.getElem_toArray, List.getElem_cons_succ, List.getElem_cons_zero, Act.put, List.setIfInBounds_toArray, List.set_cons_zero, List.set_cons_succ])
      refine till_take (i := 7) (oi := _) (v := ?_) rfl (by kernel_rfl) (by kernel_rfl) (by kernel_rfl) (by kernel_rfl) (fun _ _ _ h => h) hKept hS (Or.inl ⟨by rfl, ?_⟩) ?_; rotate_left; (intro wS hSw; have hSc := hSw.cell; go_simp; try with_reducible rfl); intro hKept; (try simp only [List.getElem?_toArray, List.getElem?_cons_succ, List.getElem?_cons_zero, List.getElem_toArray, List.getElem_cons_succ, List.getElem_cons_zero, Act.put, List.setIfInBounds_toArray, List.set_cons_zero, List.set_cons_succ])
      refine till_one (i := 8) (by simp only [List.getElem?_toArray, List.getElem?_cons_succ, List.getElem?_cons_zero]; rfl) (by kernel_rfl) hKept ?_; intro K hK; rw [if_pos (by rfl)]
      go_simp
      refine hK.out _ _ (fun h => absurd rfl h) ?_
      intro _ _
      refine till_done (by kernel_rfl) ?_ _
      have HZ4 := Aside.mk (HZ3.out.drew.grown HG4.out (fun e => by have h1 := own_base HBS1.out _ e.symm; omega))
      have HS1 := Aside.mk (HA4.out.set 14 (.slice av (g1.Back.length + N) cv))
      have HA5 : Aside (Box _ w.heap.size 31 #[.int .i64 g1.W, .int .i64 g1.H, .int .i64 g1.X, .int .i64 g1.Y, .bool g1.Wrap, .int .i64 g1.A, .int .i64 g1.Top, .int .i64 g1.Bottom, .int .i64 g1.SX, .int .i64 g1.SY, .int .i64 g1.SA, .bool g1.NoWrap, .bool g1.Hidden, .slice (some ⟨k1, 0, none⟩) g1.Rows.length cr1, .slice av (g1.Back.length + N) cv]) := ⟨HS1.out.1⟩
      have HZ5 := Aside.mk (HZ4.out.grown HS1.out.2 (by simp))
      clear hc4 hf4
      obtain ⟨hc5, hf5⟩ := HA5.out.rules
      obtain ⟨LB, hLB⟩ : ∃ LB, g1.Back.length + N = LB := ⟨_, rfl⟩
      obtain ⟨M, hM⟩ : ∃ M, M = LB - 50 := ⟨_, rfl⟩
      have hLB1 : LB ≤ 300000 := by omega
      rw [hLB] at HS1 HA5 HZ5 hc5 hf5 HO4 ⊢
      have hmx : max ((LB : Int) - 50) 0 = (M : Int) := by omega
      have hmw : IntKind.i64.wrap ((LB : Int) - 50) = (LB : Int) - 50 := IntWalk.i64_in _ (by omega)
      have hM0 : (0 : Int) ≤ (M : Int) := by omega
      have hML : (M : Int) ≤ (LB : Int) := by omega
      have hML' : M ≤ LB := by omega
      have HLB := Aside.mk hLB
      have HM := Aside.mk hM
      clear hLB hM
      have HAB := Aside.mk ((HBS2.out.imp fun a b hab => (hab.ext (Ext.refl _).drew).grown (own_ext HBS1.out (Ext.refl _).drew) HG4.out).append ((HVS.out.take N).imp fun a b hab => (hab.ext (Ext.refl _).drew).grown (own_ext HBS1.out (Ext.refl _).drew) HG4.out))
      have HO5 := Aside.mk (OwnR.keep (base := w.heap.size + 2) (ll := g1.Back ++ g1.Rows.take N) (v := .slice av LB cv) ⟨_, by rw [List.length_append, List.length_take, Nat.min_eq_left hNl, HLB.out]; exact HO4.out, HAB.out⟩ HS1.out.2 (by intro j hj hk; omega))
      have HR4 := Aside.mk (OwnR.beside (HO3.out.ext (Ext.refl w3).drew) (own_ext HBS1.out (Ext.refl _).drew) HG4.out HN1.out)
      have HR5 := Aside.mk (HR4.out.keep HS1.out.2 (by intro j hj hk; omega))
      have HE5 := Aside.mk (((HE3.out.drew.of_grown HG4.out (by intro k hk; have := own_base HBS1.out k hk; omega))).of_grown HS1.out.2 (by intro k hk; cases hk; omega))
      obtain ⟨cs, hcs1, hcs2⟩ := HO5.out.ex
      rw [show (g1.Back ++ g1.Rows.take N).length = LB from by rw [List.length_append, List.length_take, Nat.min_eq_left hNl, HLB.out]] at hcs1
      have hfr := Holds.from_ (Holds.of_own hcs1 (all2_one (fun a b hab => hab.oneCell) hcs2)) M hML'
      have HCS2 := Aside.mk hcs2
      clear hcs1 hcs2
      by_cases hcv : cv = M
      · subst hcv
        have HF := Aside.mk (hfr.1 rfl)
        clear hfr
        go_wp2_with (go_at_call 115; refine (clone_rows _ (LB - cv) _ (cs.drop cv) _ HF.out (by omega)).mono ?_; rintro e w6 ⟨a6, c6, rfl, ho6, he6⟩; have HO6 := Aside.mk ho6; have HE6 := Aside.mk he6; have HA6 := Aside.mk (HA5.out.ext he6); clear hc5 hf5; obtain ⟨hc6, hf6⟩ := HA6.out.rules; clear ho6 he6)
        have HS6 := Aside.mk (HA6.out.set 14 (.slice a6 (LB - cv) c6))
        have hbl : (lastFifty (g1.Back ++ g1.Rows.take N)).length = LB - cv := by
          unfold lastFifty
          rw [List.length_drop, List.length_append, List.length_take, Nat.min_eq_left hNl, HLB.out, ← HM.out]
        have hcs : All2 (OwnC w6 (w.heap.size + 2)) (cs.drop cv) (lastFifty (g1.Back ++ g1.Rows.take N)) := by
          unfold lastFifty
          rw [List.length_append, List.length_take, Nat.min_eq_left hNl, HLB.out, ← HM.out]
          exact (HCS2.out.imp fun a b hab => hab.ext HE6.out).drop cv
        have hz5 := HZ5.out.lt
        have HBX : Aside (OwnR _ (w.heap.size + 2) (.slice a6 (LB - cv) c6) (lastFifty (g1.Back ++ g1.Rows.take N))) := ⟨OwnR.keep (base := w.heap.size + 2) ⟨_, by rw [hbl]; exact own_mono HO6.out (by simp at hz5 ⊢; omega), hcs⟩ HS6.out.2 (by intro j hj hk; omega)⟩
        have HAX : Aside (Box _ w.heap.size 31 #[.int .i64 g1.W, .int .i64 g1.H, .int .i64 g1.X, .int .i64 g1.Y, .bool g1.Wrap, .int .i64 g1.A, .int .i64 g1.Top, .int .i64 g1.Bottom, .int .i64 g1.SX, .int .i64 g1.SY, .int .i64 g1.SA, .bool g1.NoWrap, .bool g1.Hidden, .slice (some ⟨k1, 0, none⟩) g1.Rows.length cr1, .slice a6 (LB - cv) c6]) := ⟨HS6.out.1⟩
        have HZX := Aside.mk ((HZ5.out.ext HE6.out).grown HS6.out.2 (by simp))
        have HRX := Aside.mk ((HR5.out.ext HE6.out).keep HS6.out.2 (by intro j hj hk; omega))
        have HEX := Aside.mk ((HE5.out.trans HE6.out).of_grown HS6.out.2 (by intro k hk; cases hk; omega))
        have HDX : Aside (upG g1 top bottom n = { g1 with Rows := upRows g1 T B N, Back := lastFifty (g1.Back ++ g1.Rows.take N) }) := ⟨by rw [HDN.out, if_pos HTZ.out]⟩
        clear hc6 hf6
        obtain ⟨hcx, hfx⟩ := HAX.out.rules
        have HBL := Aside.mk hbl
        clear hbl hcs hz5
        obtain ⟨D, hD⟩ : ∃ D, D = T + N := ⟨_, rfl⟩
        have hwD : IntKind.i64.wrap ((T : Int) + (N : Int)) = (D : Int) := by rw [hD]; rw [IntWalk.i64_in _ (by omega)]; omega
        have hD0 : (0 : Int) ≤ (D : Int) := by omega
        have hDQ : (D : Int) ≤ (Q : Int) := by omega
        have hDc : (D : Int) ≤ (cr1 : Int) := by omega
        have hDs : D + (Q - D) = Q := by omega
        have HSU := Aside.mk (show T + ((Q - D) + (N + (g1.Rows.length - Q))) = g1.Rows.length from by omega)
        have HD := Aside.mk hD
        clear hD
        obtain ⟨us, hv1, hv2⟩ := HRX.out.ex
        have hv3 := Holds.of_own hv1 (all2_one (fun a b hab => hab.oneCell) hv2)
        have HU1 := Aside.mk (pieceLow hv3 T (by omega))
        have HU2 := Aside.mk (pieceMid hv3 D (Q - D) (by omega))
        have HU3 := Aside.mk (pieceHigh hv3 Q (by omega))
        have HUS := Aside.mk hv2
        clear hv1 hv2 hv3
        by_cases hcQ : cr1 = Q
        · subst hcQ
          by_cases hcD : cr1 = D
          · subst hcD
            refine wp_region_till 24 (fun w' => Box w' w.heap.size 31 #[.int .i64 g1.W, .int .i64 g1.H, .int .i64 g1.X, .int .i64 g1.Y, .bool g1.Wrap, .int .i64 g1.A, .int .i64 g1.Top, .int .i64 g1.Bottom, .int .i64 g1.SX, .int .i64 g1.SY, .int .i64 g1.SA, .bool g1.NoWrap, .bool g1.Hidden, .slice (some ⟨k1, 0, none⟩) g1.Rows.length cr1, .slice a6 (LB - cv) c6]) (by rfl) HAX.out.drew ?_
            intro hS
            refine ⟨kept_none _ rfl, fun hKept => ?_⟩
            refine till_take (i := 0) (oi := _) (v := ?_) rfl (by kernel_rfl) (by kernel_rfl) (by kernel_rfl) (by kernel_rfl) (fun _ _ _ h => h) hKept hS (Or.inl ⟨by rfl, ?_⟩) ?_; rotate_left; (intro wS hSw; have hSc := hSw.cell; go_simp; try with_reducible rfl); intro hKept; (try simp only [List.getElem?_toArray, List.getElem?_cons_succ, List.getElem?_cons_zero, List.getElem_toArray, List.getElem_cons_succ, List.getElem_cons_zero, Act.put, List.setIfInBounds_toArray, List.set_cons_zero, List.set_cons_succ])
            refine till_take (i := 1) (oi := _) (v := ?_) rfl (by kernel_rfl) (by kernel_rfl) (by kernel_rfl) (by kernel_rfl) (fun _ _ _ h => h) hKept hS (Or.inl ⟨by rfl, ?_⟩) ?_; rotate_left; (intro wS hSw; have hSc := hSw.cell; go_simp; try with_reducible rfl); intro hKept; (try simp only [List.getElem?_toArray, List.getElem?_cons_succ, List.getElem?_cons_zero, List.getElem_toArray, List.getElem_cons_succ, List.getElem_cons_zero, Act.put, List.setIfInBounds_toArray, List.set_cons_zero, List.set_cons_succ])
            refine till_take (i := 2) (oi := _) (v := ?_) rfl (by kernel_rfl) (by kernel_rfl) (by kernel_rfl) (by kernel_rfl) (fun _ _ _ h => h) hKept hS (Or.inl ⟨by rfl, ?_⟩) ?_; rotate_left; (intro wS hSw; have hSc := hSw.cell; go_simp; try with_reducible rfl); intro hKept; (try simp only [List.getElem?_toArray, List.getElem?_cons_succ, List.getElem?_cons_zero, List.getElem_toArray, List.getElem_cons_succ, List.getElem_cons_zero, Act.put, List.setIfInBounds_toArray, List.set_cons_zero, List.set_cons_succ])
            refine till_take (i := 3) (oi := _) (v := ?_) rfl (by kernel_rfl) (by kernel_rfl) (by kernel_rfl) (by kernel_rfl) (fun _ _ _ h => h) hKept hS (Or.inl ⟨by rfl, ?_⟩) ?_; rotate_left; (intro wS hSw; have hSc := hSw.cell; go_simp; try with_reducible rfl); intro hKept; (try simp only [List.getElem?_toArray, List.getElem?_cons_succ, List.getElem?_cons_zero, List.getElem_toArray, List.getElem_cons_succ, List.getElem_cons_zero, Act.put, List.setIfInBounds_toArray, List.set_cons_zero, List.set_cons_succ])
            refine till_take (i := 4) (oi := _) (v := ?_) rfl (by kernel_rfl) (by kernel_rfl) (by kernel_rfl) (by kernel_rfl) (fun _ _ _ h => h) hKept hS (Or.inl ⟨by rfl, ?_⟩) ?_; rotate_left; (intro wS hSw; have hSc := hSw.cell; go_simp; try with_reducible rfl); intro hKept; (try simp only [List.getElem?_toArray, List.getElem?_cons_succ, List.getElem?_cons_zero, List.getElem_toArray, List.getElem_cons_succ, List.getElem_cons_zero, Act.put, List.setIfInBounds_toArray, List.set_cons_zero, List.set_cons_succ])
            refine till_take (i := 5) (oi := _) (v := ?_) rfl (by kernel_rfl) (by kernel_rfl) (by kernel_rfl) (by kernel_rfl) (fun _ _ _ h => h) hKept hS (Or.inl ⟨by rfl, ?_⟩) ?_; rotate_left; (intro wS hSw; have hSc := hSw.cell; go_simp; try with_reducible rfl); intro hKept; (try simp only [List.getElem?_toArray, List.getElem?_cons_succ, List.getElem?_cons_zero, List.getElem_toArray, List.getElem_cons_succ, List.getElem_cons_zero, Act.put, List.setIfInBounds_toArray, List.set_cons_zero, List.set_cons_succ])
            refine till_take (i := 6) (oi := _) (v := ?_) rfl (by kernel_rfl) (by kernel_rfl) (by kernel_rfl) (by kernel_rfl) (fun _ _ _ h => h) hKept hS (Or.inl ⟨by rfl, ?_⟩) ?_; rotate_left; (intro wS hSw; have hSc := hSw.cell; go_simp; try with_reducible rfl); intro hKept; (try simp only [List.getElem?_toArray, List.getElem?_cons_succ, List.getElem?_cons_zero, List.getElem_toArray, List.getElem_cons_succ, List.getElem_cons_zero, Act.put, List.setIfInBounds_toArray, List.set_cons_zero, List.set_cons_succ])
            refine till_take (i := 7) (oi := _) (v := ?_) rfl (by kernel_rfl) (by kernel_rfl) (by kernel_rfl) (by kernel_rfl) (fun _ _ _ h => h) hKept hS (Or.inl ⟨by rfl, ?_⟩) ?_; rotate_left; (intro wS hSw; have hSc := hSw.cell; go_simp; try with_reducible rfl); intro hKept; (try simp only [List.getElem?_toArray, List.getElem?_cons_succ, List.getElem?_cons_zero, List.getElem_toArray, List.getElem_cons_succ, List.getElem_cons_zero, Act.put, List.setIfInBounds_toArray, List.set_cons_zero, List.set_cons_succ])
            refine till_take (i := 8) (oi := _) (v := ?_) rfl (by kernel_rfl) (by kernel_rfl) (by kernel_rfl) (by kernel_rfl) (fun _ _ _ h => h) hKept hS (Or.inl ⟨by rfl, ?_⟩) ?_; rotate_left; (intro wS hSw; have hSc := hSw.cell; go_simp; try with_reducible rfl); intro hKept; (try simp only [List.getElem?_toArray, List.getElem?_cons_succ, List.getElem?_cons_zero, List.getElem_toArray, List.getElem_cons_succ, List.getElem_cons_zero, Act.put, List.setIfInBounds_toArray, List.set_cons_zero, List.set_cons_succ])
            refine till_take (i := 9) (oi := _) (v := ?_) rfl (by kernel_rfl) (by kernel_rfl) (by kernel_rfl) (by kernel_rfl) (fun _ _ _ h => h) hKept hS (Or.inl ⟨by rfl, ?_⟩) ?_; rotate_left; (intro wS hSw; have hSc := hSw.cell; go_simp; try with_reducible rfl); intro hKept; (try simp only [List.getElem?_toArray, List.getElem?_cons_succ, List.getElem?_cons_zero, List.getElem_toArray, List.getElem_cons_succ, List.getElem_cons_zero, Act.put, List.setIfInBounds_toArray, List.set_cons_zero, List.set_cons_succ])
            refine till_take (i := 10) (oi := _) (v := ?_) rfl (by kernel_rfl) (by kernel_rfl) (by kernel_rfl) (by kernel_rfl) (fun _ _ _ h => h) hKept hS (Or.inl ⟨by rfl, ?_⟩) ?_; rotate_left; (intro wS hSw; have hSc := hSw.cell; go_simp; try with_reducible rfl); intro hKept; (try simp only [List.getElem?_toArray, List.getElem?_cons_succ, List.getElem?_cons_zero, List.getElem_toArray, List.getElem_cons_succ, List.getElem_cons_zero, Act.put, List.setIfInBounds_toArray, List.set_cons_zero, List.set_cons_succ])
            refine till_take (i := 11) (oi := _) (v := ?_) rfl (by kernel_rfl) (by kernel_rfl) (by kernel_rfl) (by kernel_rfl) (fun _ _ _ h => h) hKept hS (Or.inl ⟨by rfl, ?_⟩) ?_; rotate_left; (intro wS hSw; have hSc := hSw.cell; go_simp; try with_reducible rfl); intro hKept; (try simp only [List.getElem?_toArray, List.getElem?_cons_succ, List.getElem?_cons_zero, List.getElem_toArray, List.getElem_cons_succ, List.getElem_cons_zero, Act.put, List.setIfInBounds_toArray, List.set_cons_zero, List.set_cons_succ])
            refine till_take (i := 12) (oi := _) (v := ?_) rfl (by kernel_rfl) (by kernel_rfl) (by kernel_rfl) (by kernel_rfl) (fun _ _ _ h => h) hKept hS (Or.inl ⟨by rfl, ?_⟩) ?_; rotate_left; (intro wS hSw; have hSc := hSw.cell; go_simp; try with_reducible rfl); intro hKept; (try simp only [List.getElem?_toArray, List.getElem?_cons_succ, List.getElem?_cons_zero, List.getElem_toArray, List.getElem_cons_succ, List.getElem_cons_zero, Act.put, List.setIfInBounds_toArray, List.set_cons_zero, List.set_cons_succ])
            refine till_take (i := 13) (oi := _) (v := ?_) rfl (by kernel_rfl) (by kernel_rfl) (by kernel_rfl) (by kernel_rfl) (fun _ _ _ h => h) hKept hS (Or.inl ⟨by rfl, ?_⟩) ?_; rotate_left; (intro wS hSw; have hSc := hSw.cell; go_simp; try with_reducible rfl); intro hKept; (try simp only [List.getElem?_toArray, List.getElem?_cons_succ, List.getElem?_cons_zero, List.getElem_toArray, List.getElem_cons_succ, List.getElem_cons_zero, Act.put, List.setIfInBounds_toArray, List.set_cons_zero, List.set_cons_succ])
            refine till_take (i := 14) (oi := _) (v := ?_) rfl (by kernel_rfl) (by kernel_rfl) (by kernel_rfl) (by kernel_rfl) (fun _ _ _ h => h) hKept hS (Or.inl ⟨by rfl, ?_⟩) ?_; rotate_left; (intro wS hSw; have hSc := hSw.cell; go_simp; try with_reducible rfl); intro hKept; (try simp only [List.getElem?_toArray, List.getElem?_cons_succ, List.getElem?_cons_zero, List.getElem_toArray, List.getElem_cons_succ, List.getElem_cons_zero, Act.put, List.setIfInBounds_toArray, List.set_cons_zero, List.set_cons_succ])
            refine till_take (i := 16) (oi := _) (v := ?_) rfl (by kernel_rfl) (by kernel_rfl) (by kernel_rfl) (by kernel_rfl) (fun _ _ _ h => h) hKept hS (Or.inl ⟨by rfl, ?_⟩) ?_; rotate_left; (intro wS hSw; have hSc := hSw.cell; go_simp; try with_reducible rfl); intro hKept; (try simp only [List.getElem?_toArray, List.getElem?_cons_succ, List.getElem?_cons_zero, List.getElem_toArray, List.getElem_cons_succ, List.getElem_cons_zero, Act.put, List.setIfInBounds_toArray, List.set_cons_zero, List.set_cons_succ])
            refine till_take (i := 17) (oi := _) (v := ?_) rfl (by kernel_rfl) (by kernel_rfl) (by kernel_rfl) (by kernel_rfl) (fun _ _ _ h => h) hKept hS (Or.inl ⟨by rfl, ?_⟩) ?_; rotate_left; (intro wS hSw; have hSc := hSw.cell; go_simp; try with_reducible rfl); intro hKept; (try simp only [List.getElem?_toArray, List.getElem?_cons_succ, List.getElem?_cons_zero, List.getElem_toArray, List.getElem_cons_succ, List.getElem_cons_zero, Act.put, List.setIfInBounds_toArray, List.set_cons_zero, List.set_cons_succ])
            refine till_take (i := 18) (oi := _) (v := ?_) rfl (by kernel_rfl) (by kernel_rfl) (by kernel_rfl) (by kernel_rfl) (fun _ _ _ h => h) hKept hS (Or.inl ⟨by rfl, ?_⟩) ?_; rotate_left; (intro wS hSw; have hSc := hSw.cell; go_simp; try with_reducible rfl); intro hKept; (try simp only [List.getElem?_toArray, List.getElem?_cons_succ, List.getElem?_cons_zero, List.getElem_toArray, List.getElem_cons_succ, List.getElem_cons_zero, Act.put, List.setIfInBounds_toArray, List.set_cons_zero, List.set_cons_succ])
            refine till_take (i := 19) (oi := _) (v := ?_) rfl (by kernel_rfl) (by kernel_rfl) (by kernel_rfl) (by kernel_rfl) (fun _ _ _ h => h) hKept hS (Or.inl ⟨by rfl, ?_⟩) ?_; rotate_left; (intro wS hSw; have hSc := hSw.cell; go_simp; try with_reducible rfl); intro hKept; (try simp only [List.getElem?_toArray, List.getElem?_cons_succ, List.getElem?_cons_zero, List.getElem_toArray, List.getElem_cons_succ, List.getElem_cons_zero, Act.put, List.setIfInBounds_toArray, List.set_cons_zero, List.set_cons_succ])
            refine till_take (i := 20) (oi := _) (v := ?_) rfl (by kernel_rfl) (by kernel_rfl) (by kernel_rfl) (by kernel_rfl) (fun _ _ _ h => h) hKept hS (Or.inl ⟨by rfl, ?_⟩) ?_; rotate_left; (intro wS hSw; have hSc := hSw.cell; go_simp; try with_reducible rfl); intro hKept; (try simp only [List.getElem?_toArray, List.getElem?_cons_succ, List.getElem?_cons_zero, List.getElem_toArray, List.getElem_cons_succ, List.getElem_cons_zero, Act.put, List.setIfInBounds_toArray, List.set_cons_zero, List.set_cons_succ])
            refine till_one (i := 15) (by simp only [List.getElem?_toArray, List.getElem?_cons_succ, List.getElem?_cons_zero]; rfl) (by kernel_rfl) hKept ?_; intro K hK; rw [if_pos (by rfl)]
            go_simp
            refine (blanks_nat g1.W N _ (by omega)).mono ?_
            rintro e w8 ⟨a4, c4, ws, rfl, ho4, hw4, he4⟩
            have HO8 := Aside.mk ho4
            have HW8 := Aside.mk hw4
            have HA8 := Aside.mk (HAX.out.drew.ext he4)
            have HZ8 := Aside.mk (HZX.out.drew.ext he4)
            have HX4 := Aside.mk (((Ext.refl _).drew).trans he4)
            have HY8 := Aside.mk (HEX.out.drew.trans he4)
            clear ho4 hw4 he4 hcx hfx
            refine hK.out _ _ (fun _ => HA8.out) ?_; clear hS; intro hS hKept; replace hS := hS (by decide); (try simp only [List.getElem?_toArray, List.getElem?_cons_succ, List.getElem?_cons_zero, List.getElem_toArray, List.getElem_cons_succ, List.getElem_cons_zero, Act.put, List.setIfInBounds_toArray, List.set_cons_zero, List.set_cons_succ])
            refine till_one (i := 21) (by simp only [List.getElem?_toArray, List.getElem?_cons_succ, List.getElem?_cons_zero]; rfl) (by kernel_rfl) hKept ?_; intro K hK; rw [if_pos (by rfl)]
            go_simp
            refine hK.out _ _ (fun _ => HA8.out.alloc _) ?_; clear hS; intro hS hKept; replace hS := hS (by decide); (try simp only [List.getElem?_toArray, List.getElem?_cons_succ, List.getElem?_cons_zero, List.getElem_toArray, List.getElem_cons_succ, List.getElem_cons_zero, Act.put, List.setIfInBounds_toArray, List.set_cons_zero, List.set_cons_succ])
            refine till_one (i := 22) (by simp only [List.getElem?_toArray, List.getElem?_cons_succ, List.getElem?_cons_zero]; rfl) (by kernel_rfl) hKept ?_; intro K hK; rw [if_pos (by rfl)]
            go_simp
            refine (concat_at _ _ [_, _, _, _] [us.take T, [], ws, []] _ 4 g1.Rows.length _ rfl rfl (by have h1 := HU1.out.len; have h2 := HO8.out.1; have h3 := HU2.out.len; have h4 := HSU.out; have h5 := HU3.out.len; simp only [List.flatten_cons, List.flatten_nil, List.length_append, List.length_nil, h1, h2, h3]; omega) (Holds.newN _ _ 1 4 [_, _, _, _] rfl (by omega) (by intro u hu; simp only [List.mem_cons, List.not_mem_nil, or_false] at hu; rcases hu with rfl | rfl | rfl | rfl <;> rfl)) (.cons (HU1.out.ext (HX4.out.alloc _)).self (.cons (Holds.zero _ 1 _ 0 (by unfold maxLen; omega)) (.cons (Holds.of_own HO8.out (all2_one (fun a b hab => hab.oneCell) HW8.out) |>.ext (Ext.alloc1 _ _)).self (.cons (Holds.zero _ 1 _ 0 (by unfold maxLen; omega)) .nil)))) (by omega) (by omega)).mono ?_
            rintro e w9 ⟨a9, c9, rfl, ho5, he5⟩
            have HO9 := Aside.mk ho5
            have HX5 := Aside.mk ((HX4.out.alloc _).trans he5)
            have HA9 := Aside.mk ((HA8.out.alloc _).ext he5)
            have HZ9 := Aside.mk ((HZ8.out.alloc _).ext he5)
            have HE9 := Aside.mk he5
            clear ho5 he5
            obtain ⟨hc9, hf9⟩ := HA9.out.rules
            refine hK.out _ _ (fun _ => HA9.out) ?_; clear hS; intro hS hKept; replace hS := hS (by decide); (try simp only [List.getElem?_toArray, List.getElem?_cons_succ, List.getElem?_cons_zero, List.getElem_toArray, List.getElem_cons_succ, List.getElem_cons_zero, Act.put, List.setIfInBounds_toArray, List.set_cons_zero, List.set_cons_succ])
            refine till_take (i := 23) (oi := _) (v := ?_) rfl (by kernel_rfl) (by kernel_rfl) (by kernel_rfl) (by kernel_rfl) (fun _ _ _ h => h) hKept hS (Or.inl ⟨by rfl, ?_⟩) ?_; rotate_left; (intro wS hSw; have hSc := hSw.cell; go_simp; try with_reducible rfl); intro hKept; (try simp only [List.getElem?_toArray, List.getElem?_cons_succ, List.getElem?_cons_zero, List.getElem_toArray, List.getElem_cons_succ, List.getElem_cons_zero, Act.put, List.setIfInBounds_toArray, List.set_cons_zero, List.set_cons_succ])
            refine till_one (i := 24) (by simp only [List.getElem?_toArray, List.getElem?_cons_succ, List.getElem?_cons_zero]; rfl) (by kernel_rfl) hKept ?_; intro K hK; rw [if_pos (by rfl)]
            go_simp
            refine hK.out _ _ (fun h => absurd rfl h) ?_
            intro _ _
            refine till_done (by kernel_rfl) ?_ _
            have HS1' := Aside.mk (HA9.out.set 13 (.slice a9 g1.Rows.length c9))
            have HA10 : Aside (Box _ w.heap.size 31 #[.int .i64 g1.W, .int .i64 g1.H, .int .i64 g1.X, .int .i64 g1.Y, .bool g1.Wrap, .int .i64 g1.A, .int .i64 g1.Top, .int .i64 g1.Bottom, .int .i64 g1.SX, .int .i64 g1.SY, .int .i64 g1.SA, .bool g1.NoWrap, .bool g1.Hidden, .slice a9 g1.Rows.length c9, .slice a6 (LB - cv) c6]) := ⟨HS1'.out.1⟩
            have HZ10 := Aside.mk (HZ9.out.grown HS1'.out.2 (by simp))
            go_wp2_with (first
              | (refine atLoad 31 (.tmp 4) rfl ?_; refine wpList_load_row rfl 31 (.tmp 4) rfl w.heap.size rfl 31 _ (0, 0) _ HA10.out Try.underlying31 rfl size31 ?_)
              | (refine atStore 31 (.tmp 8) (.tmp 69) rfl ?_; refine wpList_store_box _ rfl 31 (.tmp 8) (.tmp 69) rfl (w.heap.size + 1) _ rfl rfl 31 _ HZ10.out size31 rfl rfl ?_; intro w11 hb7 hg7; have HZ11 := Aside.mk hb7; have HG11 := Aside.mk hg7; clear hg7 hb7))
            refine bodyPost_ret (results_cell_row Try.results71 _ _ (w.heap.size + 1) 31 _ (0, 0) _ rfl HZ11.out Try.underlying31 rfl size31) rfl ?_
            rw [HDX.out]
            have hQ := HQ.out
            have hE := HEQ.out
            have hD := HD.out
            have hz3 := HZX.out.lt
            have hz4 := HX4.out.size
            have hlD := upRows_length g1 T B N (by omega) (by omega)
            have ha2 : All2 (OwnC w9 (w.heap.size + 2)) [us.take T, [], ws, []].flatten (upRows g1 T B N) := by
              unfold upRows
              refine rows4 ((HUS.out.imp fun a b hab => hab.ext HX5.out).take T) ?_ (HW8.out.imp fun a b hab => (hab.ext ((Ext.alloc1 _ _).trans HE9.out)).mono (by simp at hz3 hz4 ⊢; omega)) ?_
              · (rw [show B + 1 - (T + N) = 0 from by omega, List.take_zero]; exact .nil)
              · (rw [List.drop_eq_nil_of_le (by omega)]; exact .nil)
            have hown : OwnR w9 (w.heap.size + 2) (.slice a9 (upRows g1 T B N).length c9) (upRows g1 T B N) := by
              refine ⟨_, ?_, ha2⟩
              rw [hlD]
              exact own_mono HO9.out (by simp at hz3 hz4 ⊢; omega)
            refine ⟨_, a9, c9, a6, c6, by simp only [hlD, HBL.out], ⟨rfl⟩, ⟨OwnR.mono (base := w.heap.size + 2) ((hown.keep HS1'.out.2 (by intro j hj hk; omega)).keep HG11.out (by intro j hj hk; omega)) (by omega)⟩, ⟨OwnR.mono (base := w.heap.size + 2) ?_ (by omega)⟩, ⟨?_⟩, ⟨?_⟩⟩
            · have h1 := ((HBX.out.ext HX5.out).keep HS1'.out.2 (by intro j hj hk; omega)).keep HG11.out (by intro j hj hk; omega)
              (try rw [HBL.out])
              exact h1
            · intro k hk hk'
              have h1 := own_base HO9.out k (by rw [hlD] at hk; exact hk)
              obtain ⟨_, h2, _⟩ := HBX.out.ex
              (try simp only [HBL.out] at hk')
              have h3 := own_lt h2 k hk'
              simp at h1 h3 hz4
              omega
            · exact ((HEX.out.trans HX5.out).of_grown HS1'.out.2 (by intro k hk; cases hk; omega)).of_grown HG11.out (by intro k hk; cases hk; omega)
          · have hcD' := hcD
            refine wp_region_till 24 (fun w' => Box w' w.heap.size 31 #[.int .i64 g1.W, .int .i64 g1.H, .int .i64 g1.X, .int .i64 g1.Y, .bool g1.Wrap, .int .i64 g1.A, .int .i64 g1.Top, .int .i64 g1.Bottom, .int .i64 g1.SX, .int .i64 g1.SY, .int .i64 g1.SA, .bool g1.NoWrap, .bool g1.Hidden, .slice (some ⟨k1, 0, none⟩) g1.Rows.length cr1, .slice a6 (LB - cv) c6]) (by rfl) HAX.out.drew ?_
            intro hS
            refine ⟨kept_none _ rfl, fun hKept => ?_⟩
            refine till_take (i := 0) (oi := _) (v := ?_) rfl (by kernel_rfl) (by kernel_rfl) (by kernel_rfl) (by kernel_rfl) (fun _ _ _ h => h) hKept hS (Or.inl ⟨by rfl, ?_⟩) ?_; rotate_left; (intro wS hSw; have hSc := hSw.cell; go_simp; try with_reducible rfl); intro hKept; (try simp only [List.getElem?_toArray, List.getElem?_cons_succ, List.getElem?_cons_zero, List.getElem_toArray, List.getElem_cons_succ, List.getElem_cons_zero, Act.put, List.setIfInBounds_toArray, List.set_cons_zero, List.set_cons_succ])
            refine till_take (i := 1) (oi := _) (v := ?_) rfl (by kernel_rfl) (by kernel_rfl) (by kernel_rfl) (by kernel_rfl) (fun _ _ _ h => h) hKept hS (Or.inl ⟨by rfl, ?_⟩) ?_; rotate_left; (intro wS hSw; have hSc := hSw.cell; go_simp; try with_reducible rfl); intro hKept; (try simp only [List.getElem?_toArray, List.getElem?_cons_succ, List.getElem?_cons_zero, List.getElem_toArray, List.getElem_cons_succ, List.getElem_cons_zero, Act.put, List.setIfInBounds_toArray, List.set_cons_zero, List.set_cons_succ])
            refine till_take (i := 2) (oi := _) (v := ?_) rfl (by kernel_rfl) (by kernel_rfl) (by kernel_rfl) (by kernel_rfl) (fun _ _ _ h => h) hKept hS (Or.inl ⟨by rfl, ?_⟩) ?_; rotate_left; (intro wS hSw; have hSc := hSw.cell; go_simp; try with_reducible rfl); intro hKept; (try simp only [List.getElem?_toArray, List.getElem?_cons_succ, List.getElem?_cons_zero, List.getElem_toArray, List.getElem_cons_succ, List.getElem_cons_zero, Act.put, List.setIfInBounds_toArray, List.set_cons_zero, List.set_cons_succ])
            refine till_take (i := 3) (oi := _) (v := ?_) rfl (by kernel_rfl) (by kernel_rfl) (by kernel_rfl) (by kernel_rfl) (fun _ _ _ h => h) hKept hS (Or.inl ⟨by rfl, ?_⟩) ?_; rotate_left; (intro wS hSw; have hSc := hSw.cell; go_simp; try with_reducible rfl); intro hKept; (try simp only [List.getElem?_toArray, List.getElem?_cons_succ, List.getElem?_cons_zero, List.getElem_toArray, List.getElem_cons_succ, List.getElem_cons_zero, Act.put, List.setIfInBounds_toArray, List.set_cons_zero, List.set_cons_succ])
            refine till_take (i := 4) (oi := _) (v := ?_) rfl (by kernel_rfl) (by kernel_rfl) (by kernel_rfl) (by kernel_rfl) (fun _ _ _ h => h) hKept hS (Or.inl ⟨by rfl, ?_⟩) ?_; rotate_left; (intro wS hSw; have hSc := hSw.cell; go_simp; try with_reducible rfl); intro hKept; (try simp only [List.getElem?_toArray, List.getElem?_cons_succ, List.getElem?_cons_zero, List.getElem_toArray, List.getElem_cons_succ, List.getElem_cons_zero, Act.put, List.setIfInBounds_toArray, List.set_cons_zero, List.set_cons_succ])
            refine till_take (i := 5) (oi := _) (v := ?_) rfl (by kernel_rfl) (by kernel_rfl) (by kernel_rfl) (by kernel_rfl) (fun _ _ _ h => h) hKept hS (Or.inl ⟨by rfl, ?_⟩) ?_; rotate_left; (intro wS hSw; have hSc := hSw.cell; go_simp; try with_reducible rfl); intro hKept; (try simp only [List.getElem?_toArray, List.getElem?_cons_succ, List.getElem?_cons_zero, List.getElem_toArray, List.getElem_cons_succ, List.getElem_cons_zero, Act.put, List.setIfInBounds_toArray, List.set_cons_zero, List.set_cons_succ])
            refine till_take (i := 6) (oi := _) (v := ?_) rfl (by kernel_rfl) (by kernel_rfl) (by kernel_rfl) (by kernel_rfl) (fun _ _ _ h => h) hKept hS (Or.inl ⟨by rfl, ?_⟩) ?_; rotate_left; (intro wS hSw; have hSc := hSw.cell; go_simp; try with_reducible rfl); intro hKept; (try simp only [List.getElem?_toArray, List.getElem?_cons_succ, List.getElem?_cons_zero, List.getElem_toArray, List.getElem_cons_succ, List.getElem_cons_zero, Act.put, List.setIfInBounds_toArray, List.set_cons_zero, List.set_cons_succ])
            refine till_take (i := 7) (oi := _) (v := ?_) rfl (by kernel_rfl) (by kernel_rfl) (by kernel_rfl) (by kernel_rfl) (fun _ _ _ h => h) hKept hS (Or.inl ⟨by rfl, ?_⟩) ?_; rotate_left; (intro wS hSw; have hSc := hSw.cell; go_simp; try with_reducible rfl); intro hKept; (try simp only [List.getElem?_toArray, List.getElem?_cons_succ, List.getElem?_cons_zero, List.getElem_toArray, List.getElem_cons_succ, List.getElem_cons_zero, Act.put, List.setIfInBounds_toArray, List.set_cons_zero, List.set_cons_succ])
            refine till_take (i := 8) (oi := _) (v := ?_) rfl (by kernel_rfl) (by kernel_rfl) (by kernel_rfl) (by kernel_rfl) (fun _ _ _ h => h) hKept hS (Or.inl ⟨by rfl, ?_⟩) ?_; rotate_left; (intro wS hSw; have hSc := hSw.cell; go_simp; try with_reducible rfl); intro hKept; (try simp only [List.getElem?_toArray, List.getElem?_cons_succ, List.getElem?_cons_zero, List.getElem_toArray, List.getElem_cons_succ, List.getElem_cons_zero, Act.put, List.setIfInBounds_toArray, List.set_cons_zero, List.set_cons_succ])
            refine till_take (i := 9) (oi := _) (v := ?_) rfl (by kernel_rfl) (by kernel_rfl) (by kernel_rfl) (by kernel_rfl) (fun _ _ _ h => h) hKept hS (Or.inl ⟨by rfl, ?_⟩) ?_; rotate_left; (intro wS hSw; have hSc := hSw.cell; go_simp; try with_reducible rfl); intro hKept; (try simp only [List.getElem?_toArray, List.getElem?_cons_succ, List.getElem?_cons_zero, List.getElem_toArray, List.getElem_cons_succ, List.getElem_cons_zero, Act.put, List.setIfInBounds_toArray, List.set_cons_zero, List.set_cons_succ])
            refine till_take (i := 10) (oi := _) (v := ?_) rfl (by kernel_rfl) (by kernel_rfl) (by kernel_rfl) (by kernel_rfl) (fun _ _ _ h => h) hKept hS (Or.inl ⟨by rfl, ?_⟩) ?_; rotate_left; (intro wS hSw; have hSc := hSw.cell; go_simp; try with_reducible rfl); intro hKept; (try simp only [List.getElem?_toArray, List.getElem?_cons_succ, List.getElem?_cons_zero, List.getElem_toArray, List.getElem_cons_succ, List.getElem_cons_zero, Act.put, List.setIfInBounds_toArray, List.set_cons_zero, List.set_cons_succ])
            refine till_take (i := 11) (oi := _) (v := ?_) rfl (by kernel_rfl) (by kernel_rfl) (by kernel_rfl) (by kernel_rfl) (fun _ _ _ h => h) hKept hS (Or.inl ⟨by rfl, ?_⟩) ?_; rotate_left; (intro wS hSw; have hSc := hSw.cell; go_simp; try with_reducible rfl); intro hKept; (try simp only [List.getElem?_toArray, List.getElem?_cons_succ, List.getElem?_cons_zero, List.getElem_toArray, List.getElem_cons_succ, List.getElem_cons_zero, Act.put, List.setIfInBounds_toArray, List.set_cons_zero, List.set_cons_succ])
            refine till_take (i := 12) (oi := _) (v := ?_) rfl (by kernel_rfl) (by kernel_rfl) (by kernel_rfl) (by kernel_rfl) (fun _ _ _ h => h) hKept hS (Or.inl ⟨by rfl, ?_⟩) ?_; rotate_left; (intro wS hSw; have hSc := hSw.cell; go_simp; try with_reducible rfl); intro hKept; (try simp only [List.getElem?_toArray, List.getElem?_cons_succ, List.getElem?_cons_zero, List.getElem_toArray, List.getElem_cons_succ, List.getElem_cons_zero, Act.put, List.setIfInBounds_toArray, List.set_cons_zero, List.set_cons_succ])
            refine till_take (i := 13) (oi := _) (v := ?_) rfl (by kernel_rfl) (by kernel_rfl) (by kernel_rfl) (by kernel_rfl) (fun _ _ _ h => h) hKept hS (Or.inl ⟨by rfl, ?_⟩) ?_; rotate_left; (intro wS hSw; have hSc := hSw.cell; go_simp; try with_reducible rfl); intro hKept; (try simp only [List.getElem?_toArray, List.getElem?_cons_succ, List.getElem?_cons_zero, List.getElem_toArray, List.getElem_cons_succ, List.getElem_cons_zero, Act.put, List.setIfInBounds_toArray, List.set_cons_zero, List.set_cons_succ])
            refine till_take (i := 14) (oi := _) (v := ?_) rfl (by kernel_rfl) (by kernel_rfl) (by kernel_rfl) (by kernel_rfl) (fun _ _ _ h => h) hKept hS (Or.inl ⟨by rfl, ?_⟩) ?_; rotate_left; (intro wS hSw; have hSc := hSw.cell; go_simp; try with_reducible rfl); intro hKept; (try simp only [List.getElem?_toArray, List.getElem?_cons_succ, List.getElem?_cons_zero, List.getElem_toArray, List.getElem_cons_succ, List.getElem_cons_zero, Act.put, List.setIfInBounds_toArray, List.set_cons_zero, List.set_cons_succ])
            refine till_take (i := 16) (oi := _) (v := ?_) rfl (by kernel_rfl) (by kernel_rfl) (by kernel_rfl) (by kernel_rfl) (fun _ _ _ h => h) hKept hS (Or.inl ⟨by rfl, ?_⟩) ?_; rotate_left; (intro wS hSw; have hSc := hSw.cell; go_simp; try with_reducible rfl); intro hKept; (try simp only [List.getElem?_toArray, List.getElem?_cons_succ, List.getElem?_cons_zero, List.getElem_toArray, List.getElem_cons_succ, List.getElem_cons_zero, Act.put, List.setIfInBounds_toArray, List.set_cons_zero, List.set_cons_succ])
            refine till_take (i := 17) (oi := _) (v := ?_) rfl (by kernel_rfl) (by kernel_rfl) (by kernel_rfl) (by kernel_rfl) (fun _ _ _ h => h) hKept hS (Or.inl ⟨by rfl, ?_⟩) ?_; rotate_left; (intro wS hSw; have hSc := hSw.cell; go_simp; try with_reducible rfl); intro hKept; (try simp only [List.getElem?_toArray, List.getElem?_cons_succ, List.getElem?_cons_zero, List.getElem_toArray, List.getElem_cons_succ, List.getElem_cons_zero, Act.put, List.setIfInBounds_toArray, List.set_cons_zero, List.set_cons_succ])
            refine till_take (i := 18) (oi := _) (v := ?_) rfl (by kernel_rfl) (by kernel_rfl) (by kernel_rfl) (by kernel_rfl) (fun _ _ _ h => h) hKept hS (Or.inl ⟨by rfl, ?_⟩) ?_; rotate_left; (intro wS hSw; have hSc := hSw.cell; go_simp; try with_reducible rfl); intro hKept; (try simp only [List.getElem?_toArray, List.getElem?_cons_succ, List.getElem?_cons_zero, List.getElem_toArray, List.getElem_cons_succ, List.getElem_cons_zero, Act.put, List.setIfInBounds_toArray, List.set_cons_zero, List.set_cons_succ])
            refine till_take (i := 19) (oi := _) (v := ?_) rfl (by kernel_rfl) (by kernel_rfl) (by kernel_rfl) (by kernel_rfl) (fun _ _ _ h => h) hKept hS (Or.inl ⟨by rfl, ?_⟩) ?_; rotate_left; (intro wS hSw; have hSc := hSw.cell; go_simp; try with_reducible rfl); intro hKept; (try simp only [List.getElem?_toArray, List.getElem?_cons_succ, List.getElem?_cons_zero, List.getElem_toArray, List.getElem_cons_succ, List.getElem_cons_zero, Act.put, List.setIfInBounds_toArray, List.set_cons_zero, List.set_cons_succ])
            refine till_take (i := 20) (oi := _) (v := ?_) rfl (by kernel_rfl) (by kernel_rfl) (by kernel_rfl) (by kernel_rfl) (fun _ _ _ h => h) hKept hS (Or.inl ⟨by rfl, ?_⟩) ?_; rotate_left; (intro wS hSw; have hSc := hSw.cell; go_simp; try with_reducible rfl); intro hKept; (try simp only [List.getElem?_toArray, List.getElem?_cons_succ, List.getElem?_cons_zero, List.getElem_toArray, List.getElem_cons_succ, List.getElem_cons_zero, Act.put, List.setIfInBounds_toArray, List.set_cons_zero, List.set_cons_succ])
            refine till_one (i := 15) (by simp only [List.getElem?_toArray, List.getElem?_cons_succ, List.getElem?_cons_zero]; rfl) (by kernel_rfl) hKept ?_; intro K hK; rw [if_pos (by rfl)]
            go_simp
            refine (blanks_nat g1.W N _ (by omega)).mono ?_
            rintro e w8 ⟨a4, c4, ws, rfl, ho4, hw4, he4⟩
            have HO8 := Aside.mk ho4
            have HW8 := Aside.mk hw4
            have HA8 := Aside.mk (HAX.out.drew.ext he4)
            have HZ8 := Aside.mk (HZX.out.drew.ext he4)
            have HX4 := Aside.mk (((Ext.refl _).drew).trans he4)
            have HY8 := Aside.mk (HEX.out.drew.trans he4)
            clear ho4 hw4 he4 hcx hfx
            refine hK.out _ _ (fun _ => HA8.out) ?_; clear hS; intro hS hKept; replace hS := hS (by decide); (try simp only [List.getElem?_toArray, List.getElem?_cons_succ, List.getElem?_cons_zero, List.getElem_toArray, List.getElem_cons_succ, List.getElem_cons_zero, Act.put, List.setIfInBounds_toArray, List.set_cons_zero, List.set_cons_succ])
            refine till_one (i := 21) (by simp only [List.getElem?_toArray, List.getElem?_cons_succ, List.getElem?_cons_zero]; rfl) (by kernel_rfl) hKept ?_; intro K hK; rw [if_pos (by rfl)]
            go_simp
            refine hK.out _ _ (fun _ => HA8.out.alloc _) ?_; clear hS; intro hS hKept; replace hS := hS (by decide); (try simp only [List.getElem?_toArray, List.getElem?_cons_succ, List.getElem?_cons_zero, List.getElem_toArray, List.getElem_cons_succ, List.getElem_cons_zero, Act.put, List.setIfInBounds_toArray, List.set_cons_zero, List.set_cons_succ])
            refine till_one (i := 22) (by simp only [List.getElem?_toArray, List.getElem?_cons_succ, List.getElem?_cons_zero]; rfl) (by kernel_rfl) hKept ?_; intro K hK; rw [if_pos (by rfl)]
            go_simp
            refine (concat_at _ _ [_, _, _, _] [us.take T, (us.drop D).take (cr1 - D), ws, []] _ 4 g1.Rows.length _ rfl rfl (by have h1 := HU1.out.len; have h2 := HO8.out.1; have h3 := HU2.out.len; have h4 := HSU.out; have h5 := HU3.out.len; simp only [List.flatten_cons, List.flatten_nil, List.length_append, List.length_nil, h1, h2, h3]; omega) (Holds.newN _ _ 1 4 [_, _, _, _] rfl (by omega) (by intro u hu; simp only [List.mem_cons, List.not_mem_nil, or_false] at hu; rcases hu with rfl | rfl | rfl | rfl <;> rfl)) (.cons (HU1.out.ext (HX4.out.alloc _)).self (.cons (HU2.out.ext (HX4.out.alloc _)).self (.cons (Holds.of_own HO8.out (all2_one (fun a b hab => hab.oneCell) HW8.out) |>.ext (Ext.alloc1 _ _)).self (.cons (Holds.zero _ 1 _ 0 (by unfold maxLen; omega)) .nil)))) (by omega) (by omega)).mono ?_
            rintro e w9 ⟨a9, c9, rfl, ho5, he5⟩
            have HO9 := Aside.mk ho5
            have HX5 := Aside.mk ((HX4.out.alloc _).trans he5)
            have HA9 := Aside.mk ((HA8.out.alloc _).ext he5)
            have HZ9 := Aside.mk ((HZ8.out.alloc _).ext he5)
            have HE9 := Aside.mk he5
            clear ho5 he5
            obtain ⟨hc9, hf9⟩ := HA9.out.rules
            refine hK.out _ _ (fun _ => HA9.out) ?_; clear hS; intro hS hKept; replace hS := hS (by decide); (try simp only [List.getElem?_toArray, List.getElem?_cons_succ, List.getElem?_cons_zero, List.getElem_toArray, List.getElem_cons_succ, List.getElem_cons_zero, Act.put, List.setIfInBounds_toArray, List.set_cons_zero, List.set_cons_succ])
            refine till_take (i := 23) (oi := _) (v := ?_) rfl (by kernel_rfl) (by kernel_rfl) (by kernel_rfl) (by kernel_rfl) (fun _ _ _ h => h) hKept hS (Or.inl ⟨by rfl, ?_⟩) ?_; rotate_left; (intro wS hSw; have hSc := hSw.cell; go_simp; try with_reducible rfl); intro hKept; (try simp only [List.getElem?_toArray, List.getElem?_cons_succ, List.getElem?_cons_zero, List.getElem_toArray, List.getElem_cons_succ, List.getElem_cons_zero, Act.put, List.setIfInBounds_toArray, List.set_cons_zero, List.set_cons_succ])
            refine till_one (i := 24) (by simp only [List.getElem?_toArray, List.getElem?_cons_succ, List.getElem?_cons_zero]; rfl) (by kernel_rfl) hKept ?_; intro K hK; rw [if_pos (by rfl)]
            go_simp
            refine hK.out _ _ (fun h => absurd rfl h) ?_
            intro _ _
            refine till_done (by kernel_rfl) ?_ _
            have HS1' := Aside.mk (HA9.out.set 13 (.slice a9 g1.Rows.length c9))
            have HA10 : Aside (Box _ w.heap.size 31 #[.int .i64 g1.W, .int .i64 g1.H, .int .i64 g1.X, .int .i64 g1.Y, .bool g1.Wrap, .int .i64 g1.A, .int .i64 g1.Top, .int .i64 g1.Bottom, .int .i64 g1.SX, .int .i64 g1.SY, .int .i64 g1.SA, .bool g1.NoWrap, .bool g1.Hidden, .slice a9 g1.Rows.length c9, .slice a6 (LB - cv) c6]) := ⟨HS1'.out.1⟩
            have HZ10 := Aside.mk (HZ9.out.grown HS1'.out.2 (by simp))
            go_wp2_with (first
              | (refine atLoad 31 (.tmp 4) rfl ?_; refine wpList_load_row rfl 31 (.tmp 4) rfl w.heap.size rfl 31 _ (0, 0) _ HA10.out Try.underlying31 rfl size31 ?_)
              | (refine atStore 31 (.tmp 8) (.tmp 69) rfl ?_; refine wpList_store_box _ rfl 31 (.tmp 8) (.tmp 69) rfl (w.heap.size + 1) _ rfl rfl 31 _ HZ10.out size31 rfl rfl ?_; intro w11 hb7 hg7; have HZ11 := Aside.mk hb7; have HG11 := Aside.mk hg7; clear hg7 hb7))
            refine bodyPost_ret (results_cell_row Try.results71 _ _ (w.heap.size + 1) 31 _ (0, 0) _ rfl HZ11.out Try.underlying31 rfl size31) rfl ?_
            rw [HDX.out]
            have hQ := HQ.out
            have hE := HEQ.out
            have hD := HD.out
            have hz3 := HZX.out.lt
            have hz4 := HX4.out.size
            have hlD := upRows_length g1 T B N (by omega) (by omega)
            have ha2 : All2 (OwnC w9 (w.heap.size + 2)) [us.take T, (us.drop D).take (cr1 - D), ws, []].flatten (upRows g1 T B N) := by
              unfold upRows
              refine rows4 ((HUS.out.imp fun a b hab => hab.ext HX5.out).take T) ?_ (HW8.out.imp fun a b hab => (hab.ext ((Ext.alloc1 _ _).trans HE9.out)).mono (by simp at hz3 hz4 ⊢; omega)) ?_
              · (rw [show B + 1 - (T + N) = cr1 - D from by omega, show T + N = D from by omega]; exact ((HUS.out.imp fun a b hab => hab.ext HX5.out).drop D).take (cr1 - D))
              · (rw [List.drop_eq_nil_of_le (by omega)]; exact .nil)
            have hown : OwnR w9 (w.heap.size + 2) (.slice a9 (upRows g1 T B N).length c9) (upRows g1 T B N) := by
              refine ⟨_, ?_, ha2⟩
              rw [hlD]
              exact own_mono HO9.out (by simp at hz3 hz4 ⊢; omega)
            refine ⟨_, a9, c9, a6, c6, by simp only [hlD, HBL.out], ⟨rfl⟩, ⟨OwnR.mono (base := w.heap.size + 2) ((hown.keep HS1'.out.2 (by intro j hj hk; omega)).keep HG11.out (by intro j hj hk; omega)) (by omega)⟩, ⟨OwnR.mono (base := w.heap.size + 2) ?_ (by omega)⟩, ⟨?_⟩, ⟨?_⟩⟩
            · have h1 := ((HBX.out.ext HX5.out).keep HS1'.out.2 (by intro j hj hk; omega)).keep HG11.out (by intro j hj hk; omega)
              (try rw [HBL.out])
              exact h1
            · intro k hk hk'
              have h1 := own_base HO9.out k (by rw [hlD] at hk; exact hk)
              obtain ⟨_, h2, _⟩ := HBX.out.ex
              (try simp only [HBL.out] at hk')
              have h3 := own_lt h2 k hk'
              simp at h1 h3 hz4
              omega
            · exact ((HEX.out.trans HX5.out).of_grown HS1'.out.2 (by intro k hk; cases hk; omega)).of_grown HG11.out (by intro k hk; cases hk; omega)
        · have hcD : ¬ cr1 = D := by omega
          refine wp_region_till 24 (fun w' => Box w' w.heap.size 31 #[.int .i64 g1.W, .int .i64 g1.H, .int .i64 g1.X, .int .i64 g1.Y, .bool g1.Wrap, .int .i64 g1.A, .int .i64 g1.Top, .int .i64 g1.Bottom, .int .i64 g1.SX, .int .i64 g1.SY, .int .i64 g1.SA, .bool g1.NoWrap, .bool g1.Hidden, .slice (some ⟨k1, 0, none⟩) g1.Rows.length cr1, .slice a6 (LB - cv) c6]) (by rfl) HAX.out.drew ?_
          intro hS
          refine ⟨kept_none _ rfl, fun hKept => ?_⟩
          refine till_take (i := 0) (oi := _) (v := ?_) rfl (by kernel_rfl) (by kernel_rfl) (by kernel_rfl) (by kernel_rfl) (fun _ _ _ h => h) hKept hS (Or.inl ⟨by rfl, ?_⟩) ?_; rotate_left; (intro wS hSw; have hSc := hSw.cell; go_simp; try with_reducible rfl); intro hKept; (try simp only [List.getElem?_toArray, List.getElem?_cons_succ, List.getElem?_cons_zero, List.getElem_toArray, List.getElem_cons_succ, List.getElem_cons_zero, Act.put, List.setIfInBounds_toArray, List.set_cons_zero, List.set_cons_succ])
          refine till_take (i := 1) (oi := _) (v := ?_) rfl (by kernel_rfl) (by kernel_rfl) (by kernel_rfl) (by kernel_rfl) (fun _ _ _ h => h) hKept hS (Or.inl ⟨by rfl, ?_⟩) ?_; rotate_left; (intro wS hSw; have hSc := hSw.cell; go_simp; try with_reducible rfl); intro hKept; (try simp only [List.getElem?_toArray, List.getElem?_cons_succ, List.getElem?_cons_zero, List.getElem_toArray, List.getElem_cons_succ, List.getElem_cons_zero, Act.put, List.setIfInBounds_toArray, List.set_cons_zero, List.set_cons_succ])
          refine till_take (i := 2) (oi := _) (v := ?_) rfl (by kernel_rfl) (by kernel_rfl) (by kernel_rfl) (by kernel_rfl) (fun _ _ _ h => h) hKept hS (Or.inl ⟨by rfl, ?_⟩) ?_; rotate_left; (intro wS hSw; have hSc := hSw.cell; go_simp; try with_reducible rfl); intro hKept; (try simp only [List.getElem?_toArray, List.getElem?_cons_succ, List.getElem?_cons_zero, List.getElem_toArray, List.getElem_cons_succ, List.getElem_cons_zero, Act.put, List.setIfInBounds_toArray, List.set_cons_zero, List.set_cons_succ])
          refine till_take (i := 3) (oi := _) (v := ?_) rfl (by kernel_rfl) (by kernel_rfl) (by kernel_rfl) (by kernel_rfl) (fun _ _ _ h => h) hKept hS (Or.inl ⟨by rfl, ?_⟩) ?_; rotate_left; (intro wS hSw; have hSc := hSw.cell; go_simp; try with_reducible rfl); intro hKept; (try simp only [List.getElem?_toArray, List.getElem?_cons_succ, List.getElem?_cons_zero, List.getElem_toArray, List.getElem_cons_succ, List.getElem_cons_zero, Act.put, List.setIfInBounds_toArray, List.set_cons_zero, List.set_cons_succ])
          refine till_take (i := 4) (oi := _) (v := ?_) rfl (by kernel_rfl) (by kernel_rfl) (by kernel_rfl) (by kernel_rfl) (fun _ _ _ h => h) hKept hS (Or.inl ⟨by rfl, ?_⟩) ?_; rotate_left; (intro wS hSw; have hSc := hSw.cell; go_simp; try with_reducible rfl); intro hKept; (try simp only [List.getElem?_toArray, List.getElem?_cons_succ, List.getElem?_cons_zero, List.getElem_toArray, List.getElem_cons_succ, List.getElem_cons_zero, Act.put, List.setIfInBounds_toArray, List.set_cons_zero, List.set_cons_succ])
          refine till_take (i := 5) (oi := _) (v := ?_) rfl (by kernel_rfl) (by kernel_rfl) (by kernel_rfl) (by kernel_rfl) (fun _ _ _ h => h) hKept hS (Or.inl ⟨by rfl, ?_⟩) ?_; rotate_left; (intro wS hSw; have hSc := hSw.cell; go_simp; try with_reducible rfl); intro hKept; (try simp only [List.getElem?_toArray, List.getElem?_cons_succ, List.getElem?_cons_zero, List.getElem_toArray, List.getElem_cons_succ, List.getElem_cons_zero, Act.put, List.setIfInBounds_toArray, List.set_cons_zero, List.set_cons_succ])
          refine till_take (i := 6) (oi := _) (v := ?_) rfl (by kernel_rfl) (by kernel_rfl) (by kernel_rfl) (by kernel_rfl) (fun _ _ _ h => h) hKept hS (Or.inl ⟨by rfl, ?_⟩) ?_; rotate_left; (intro wS hSw; have hSc := hSw.cell; go_simp; try with_reducible rfl); intro hKept; (try simp only [List.getElem?_toArray, List.getElem?_cons_succ, List.getElem?_cons_zero, List.getElem_toArray, List.getElem_cons_succ, List.getElem_cons_zero, Act.put, List.setIfInBounds_toArray, List.set_cons_zero, List.set_cons_succ])
          refine till_take (i := 7) (oi := _) (v := ?_) rfl (by kernel_rfl) (by kernel_rfl) (by kernel_rfl) (by kernel_rfl) (fun _ _ _ h => h) hKept hS (Or.inl ⟨by rfl, ?_⟩) ?_; rotate_left; (intro wS hSw; have hSc := hSw.cell; go_simp; try with_reducible rfl); intro hKept; (try simp only [List.getElem?_toArray, List.getElem?_cons_succ, List.getElem?_cons_zero, List.getElem_toArray, List.getElem_cons_succ, List.getElem_cons_zero, Act.put, List.setIfInBounds_toArray, List.set_cons_zero, List.set_cons_succ])
          refine till_take (i := 8) (oi := _) (v := ?_) rfl (by kernel_rfl) (by kernel_rfl) (by kernel_rfl) (by kernel_rfl) (fun _ _ _ h => h) hKept hS (Or.inl ⟨by rfl, ?_⟩) ?_; rotate_left; (intro wS hSw; have hSc := hSw.cell; go_simp; try with_reducible rfl); intro hKept; (try simp only [List.getElem?_toArray, List.getElem?_cons_succ, List.getElem?_cons_zero, List.getElem_toArray, List.getElem_cons_succ, List.getElem_cons_zero, Act.put, List.setIfInBounds_toArray, List.set_cons_zero, List.set_cons_succ])
          refine till_take (i := 9) (oi := _) (v := ?_) rfl (by kernel_rfl) (by kernel_rfl) (by kernel_rfl) (by kernel_rfl) (fun _ _ _ h => h) hKept hS (Or.inl ⟨by rfl, ?_⟩) ?_; rotate_left; (intro wS hSw; have hSc := hSw.cell; go_simp; try with_reducible rfl); intro hKept; (try simp only [List.getElem?_toArray, List.getElem?_cons_succ, List.getElem?_cons_zero, List.getElem_toArray, List.getElem_cons_succ, List.getElem_cons_zero, Act.put, List.setIfInBounds_toArray, List.set_cons_zero, List.set_cons_succ])
          refine till_take (i := 10) (oi := _) (v := ?_) rfl (by kernel_rfl) (by kernel_rfl) (by kernel_rfl) (by kernel_rfl) (fun _ _ _ h => h) hKept hS (Or.inl ⟨by rfl, ?_⟩) ?_; rotate_left; (intro wS hSw; have hSc := hSw.cell; go_simp; try with_reducible rfl); intro hKept; (try simp only [List.getElem?_toArray, List.getElem?_cons_succ, List.getElem?_cons_zero, List.getElem_toArray, List.getElem_cons_succ, List.getElem_cons_zero, Act.put, List.setIfInBounds_toArray, List.set_cons_zero, List.set_cons_succ])
          refine till_take (i := 11) (oi := _) (v := ?_) rfl (by kernel_rfl) (by kernel_rfl) (by kernel_rfl) (by kernel_rfl) (fun _ _ _ h => h) hKept hS (Or.inl ⟨by rfl, ?_⟩) ?_; rotate_left; (intro wS hSw; have hSc := hSw.cell; go_simp; try with_reducible rfl); intro hKept; (try simp only [List.getElem?_toArray, List.getElem?_cons_succ, List.getElem?_cons_zero, List.getElem_toArray, List.getElem_cons_succ, List.getElem_cons_zero, Act.put, List.setIfInBounds_toArray, List.set_cons_zero, List.set_cons_succ])
          refine till_take (i := 12) (oi := _) (v := ?_) rfl (by kernel_rfl) (by kernel_rfl) (by kernel_rfl) (by kernel_rfl) (fun _ _ _ h => h) hKept hS (Or.inl ⟨by rfl, ?_⟩) ?_; rotate_left; (intro wS hSw; have hSc := hSw.cell; go_simp; try with_reducible rfl); intro hKept; (try simp only [List.getElem?_toArray, List.getElem?_cons_succ, List.getElem?_cons_zero, List.getElem_toArray, List.getElem_cons_succ, List.getElem_cons_zero, Act.put, List.setIfInBounds_toArray, List.set_cons_zero, List.set_cons_succ])
          refine till_take (i := 13) (oi := _) (v := ?_) rfl (by kernel_rfl) (by kernel_rfl) (by kernel_rfl) (by kernel_rfl) (fun _ _ _ h => h) hKept hS (Or.inl ⟨by rfl, ?_⟩) ?_; rotate_left; (intro wS hSw; have hSc := hSw.cell; go_simp; try with_reducible rfl); intro hKept; (try simp only [List.getElem?_toArray, List.getElem?_cons_succ, List.getElem?_cons_zero, List.getElem_toArray, List.getElem_cons_succ, List.getElem_cons_zero, Act.put, List.setIfInBounds_toArray, List.set_cons_zero, List.set_cons_succ])
          refine till_take (i := 14) (oi := _) (v := ?_) rfl (by kernel_rfl) (by kernel_rfl) (by kernel_rfl) (by kernel_rfl) (fun _ _ _ h => h) hKept hS (Or.inl ⟨by rfl, ?_⟩) ?_; rotate_left; (intro wS hSw; have hSc := hSw.cell; go_simp; try with_reducible rfl); intro hKept; (try simp only [List.getElem?_toArray, List.getElem?_cons_succ, List.getElem?_cons_zero, List.getElem_toArray, List.getElem_cons_succ, List.getElem_cons_zero, Act.put, List.setIfInBounds_toArray, List.set_cons_zero, List.set_cons_succ])
          refine till_take (i := 16) (oi := _) (v := ?_) rfl (by kernel_rfl) (by kernel_rfl) (by kernel_rfl) (by kernel_rfl) (fun _ _ _ h => h) hKept hS (Or.inl ⟨by rfl, ?_⟩) ?_; rotate_left; (intro wS hSw; have hSc := hSw.cell; go_simp; try with_reducible rfl); intro hKept; (try simp only [List.getElem?_toArray, List.getElem?_cons_succ, List.getElem?_cons_zero, List.getElem_toArray, List.getElem_cons_succ, List.getElem_cons_zero, Act.put, List.setIfInBounds_toArray, List.set_cons_zero, List.set_cons_succ])
          refine till_take (i := 17) (oi := _) (v := ?_) rfl (by kernel_rfl) (by kernel_rfl) (by kernel_rfl) (by kernel_rfl) (fun _ _ _ h => h) hKept hS (Or.inl ⟨by rfl, ?_⟩) ?_; rotate_left; (intro wS hSw; have hSc := hSw.cell; go_simp; try with_reducible rfl); intro hKept; (try simp only [List.getElem?_toArray, List.getElem?_cons_succ, List.getElem?_cons_zero, List.getElem_toArray, List.getElem_cons_succ, List.getElem_cons_zero, Act.put, List.setIfInBounds_toArray, List.set_cons_zero, List.set_cons_succ])
          refine till_take (i := 18) (oi := _) (v := ?_) rfl (by kernel_rfl) (by kernel_rfl) (by kernel_rfl) (by kernel_rfl) (fun _ _ _ h => h) hKept hS (Or.inl ⟨by rfl, ?_⟩) ?_; rotate_left; (intro wS hSw; have hSc := hSw.cell; go_simp; try with_reducible rfl); intro hKept; (try simp only [List.getElem?_toArray, List.getElem?_cons_succ, List.getElem?_cons_zero, List.getElem_toArray, List.getElem_cons_succ, List.getElem_cons_zero, Act.put, List.setIfInBounds_toArray, List.set_cons_zero, List.set_cons_succ])
          refine till_take (i := 19) (oi := _) (v := ?_) rfl (by kernel_rfl) (by kernel_rfl) (by kernel_rfl) (by kernel_rfl) (fun _ _ _ h => h) hKept hS (Or.inl ⟨by rfl, ?_⟩) ?_; rotate_left; (intro wS hSw; have hSc := hSw.cell; go_simp; try with_reducible rfl); intro hKept; (try simp only [List.getElem?_toArray, List.getElem?_cons_succ, List.getElem?_cons_zero, List.getElem_toArray, List.getElem_cons_succ, List.getElem_cons_zero, Act.put, List.setIfInBounds_toArray, List.set_cons_zero, List.set_cons_succ])
          refine till_take (i := 20) (oi := _) (v := ?_) rfl (by kernel_rfl) (by kernel_rfl) (by kernel_rfl) (by kernel_rfl) (fun _ _ _ h => h) hKept hS (Or.inl ⟨by rfl, ?_⟩) ?_; rotate_left; (intro wS hSw; have hSc := hSw.cell; go_simp; try with_reducible rfl); intro hKept; (try simp only [List.getElem?_toArray, List.getElem?_cons_succ, List.getElem?_cons_zero, List.getElem_toArray, List.getElem_cons_succ, List.getElem_cons_zero, Act.put, List.setIfInBounds_toArray, List.set_cons_zero, List.set_cons_succ])
          refine till_one (i := 15) (by simp only [List.getElem?_toArray, List.getElem?_cons_succ, List.getElem?_cons_zero]; rfl) (by kernel_rfl) hKept ?_; intro K hK; rw [if_pos (by rfl)]
          go_simp
          refine (blanks_nat g1.W N _ (by omega)).mono ?_
          rintro e w8 ⟨a4, c4, ws, rfl, ho4, hw4, he4⟩
          have HO8 := Aside.mk ho4
          have HW8 := Aside.mk hw4
          have HA8 := Aside.mk (HAX.out.drew.ext he4)
          have HZ8 := Aside.mk (HZX.out.drew.ext he4)
          have HX4 := Aside.mk (((Ext.refl _).drew).trans he4)
          have HY8 := Aside.mk (HEX.out.drew.trans he4)
          clear ho4 hw4 he4 hcx hfx
          refine hK.out _ _ (fun _ => HA8.out) ?_; clear hS; intro hS hKept; replace hS := hS (by decide); (try simp only [List.getElem?_toArray, List.getElem?_cons_succ, List.getElem?_cons_zero, List.getElem_toArray, List.getElem_cons_succ, List.getElem_cons_zero, Act.put, List.setIfInBounds_toArray, List.set_cons_zero, List.set_cons_succ])
          refine till_one (i := 21) (by simp only [List.getElem?_toArray, List.getElem?_cons_succ, List.getElem?_cons_zero]; rfl) (by kernel_rfl) hKept ?_; intro K hK; rw [if_pos (by rfl)]
          go_simp
          refine hK.out _ _ (fun _ => HA8.out.alloc _) ?_; clear hS; intro hS hKept; replace hS := hS (by decide); (try simp only [List.getElem?_toArray, List.getElem?_cons_succ, List.getElem?_cons_zero, List.getElem_toArray, List.getElem_cons_succ, List.getElem_cons_zero, Act.put, List.setIfInBounds_toArray, List.set_cons_zero, List.set_cons_succ])
          refine till_one (i := 22) (by simp only [List.getElem?_toArray, List.getElem?_cons_succ, List.getElem?_cons_zero]; rfl) (by kernel_rfl) hKept ?_; intro K hK; rw [if_pos (by rfl)]
          go_simp
          refine (concat_at _ _ [_, _, _, _] [us.take T, (us.drop D).take (Q - D), ws, us.drop Q] _ 4 g1.Rows.length _ rfl rfl (by have h1 := HU1.out.len; have h2 := HO8.out.1; have h3 := HU2.out.len; have h4 := HSU.out; have h5 := HU3.out.len; simp only [List.flatten_cons, List.flatten_nil, List.length_append, List.length_nil, h1, h2, h3]; omega) (Holds.newN _ _ 1 4 [_, _, _, _] rfl (by omega) (by intro u hu; simp only [List.mem_cons, List.not_mem_nil, or_false] at hu; rcases hu with rfl | rfl | rfl | rfl <;> rfl)) (.cons (HU1.out.ext (HX4.out.alloc _)).self (.cons (HU2.out.ext (HX4.out.alloc _)).self (.cons (Holds.of_own HO8.out (all2_one (fun a b hab => hab.oneCell) HW8.out) |>.ext (Ext.alloc1 _ _)).self (.cons (HU3.out.ext (HX4.out.alloc _)).self .nil)))) (by omega) (by omega)).mono ?_
          rintro e w9 ⟨a9, c9, rfl, ho5, he5⟩
          have HO9 := Aside.mk ho5
          have HX5 := Aside.mk ((HX4.out.alloc _).trans he5)
          have HA9 := Aside.mk ((HA8.out.alloc _).ext he5)
          have HZ9 := Aside.mk ((HZ8.out.alloc _).ext he5)
          have HE9 := Aside.mk he5
          clear ho5 he5
          obtain ⟨hc9, hf9⟩ := HA9.out.rules
          refine hK.out _ _ (fun _ => HA9.out) ?_; clear hS; intro hS hKept; replace hS := hS (by decide); (try simp only [List.getElem?_toArray, List.getElem?_cons_succ, List.getElem?_cons_zero, List.getElem_toArray, List.getElem_cons_succ, List.getElem_cons_zero, Act.put, List.setIfInBounds_toArray, List.set_cons_zero, List.set_cons_succ])
          refine till_take (i := 23) (oi := _) (v := ?_) rfl (by kernel_rfl) (by kernel_rfl) (by kernel_rfl) (by kernel_rfl) (fun _ _ _ h => h) hKept hS (Or.inl ⟨by rfl, ?_⟩) ?_; rotate_left; (intro wS hSw; have hSc := hSw.cell; go_simp; try with_reducible rfl); intro hKept; (try simp only [List.getElem?_toArray, List.getElem?_cons_succ, List.getElem?_cons_zero, List.getElem_toArray, List.getElem_cons_succ, List.getElem_cons_zero, Act.put, List.setIfInBounds_toArray, List.set_cons_zero, List.set_cons_succ])
          refine till_one (i := 24) (by simp only [List.getElem?_toArray, List.getElem?_cons_succ, List.getElem?_cons_zero]; rfl) (by kernel_rfl) hKept ?_; intro K hK; rw [if_pos (by rfl)]
          go_simp
          refine hK.out _ _ (fun h => absurd rfl h) ?_
          intro _ _
          refine till_done (by kernel_rfl) ?_ _
          have HS1' := Aside.mk (HA9.out.set 13 (.slice a9 g1.Rows.length c9))
          have HA10 : Aside (Box _ w.heap.size 31 #[.int .i64 g1.W, .int .i64 g1.H, .int .i64 g1.X, .int .i64 g1.Y, .bool g1.Wrap, .int .i64 g1.A, .int .i64 g1.Top, .int .i64 g1.Bottom, .int .i64 g1.SX, .int .i64 g1.SY, .int .i64 g1.SA, .bool g1.NoWrap, .bool g1.Hidden, .slice a9 g1.Rows.length c9, .slice a6 (LB - cv) c6]) := ⟨HS1'.out.1⟩
          have HZ10 := Aside.mk (HZ9.out.grown HS1'.out.2 (by simp))
          go_wp2_with (first
            | (refine atLoad 31 (.tmp 4) rfl ?_; refine wpList_load_row rfl 31 (.tmp 4) rfl w.heap.size rfl 31 _ (0, 0) _ HA10.out Try.underlying31 rfl size31 ?_)
            | (refine atStore 31 (.tmp 8) (.tmp 69) rfl ?_; refine wpList_store_box _ rfl 31 (.tmp 8) (.tmp 69) rfl (w.heap.size + 1) _ rfl rfl 31 _ HZ10.out size31 rfl rfl ?_; intro w11 hb7 hg7; have HZ11 := Aside.mk hb7; have HG11 := Aside.mk hg7; clear hg7 hb7))
          refine bodyPost_ret (results_cell_row Try.results71 _ _ (w.heap.size + 1) 31 _ (0, 0) _ rfl HZ11.out Try.underlying31 rfl size31) rfl ?_
          rw [HDX.out]
          have hQ := HQ.out
          have hE := HEQ.out
          have hD := HD.out
          have hz3 := HZX.out.lt
          have hz4 := HX4.out.size
          have hlD := upRows_length g1 T B N (by omega) (by omega)
          have ha2 : All2 (OwnC w9 (w.heap.size + 2)) [us.take T, (us.drop D).take (Q - D), ws, us.drop Q].flatten (upRows g1 T B N) := by
            unfold upRows
            refine rows4 ((HUS.out.imp fun a b hab => hab.ext HX5.out).take T) ?_ (HW8.out.imp fun a b hab => (hab.ext ((Ext.alloc1 _ _).trans HE9.out)).mono (by simp at hz3 hz4 ⊢; omega)) ?_
            · (rw [show B + 1 - (T + N) = Q - D from by omega, show T + N = D from by omega]; exact ((HUS.out.imp fun a b hab => hab.ext HX5.out).drop D).take (Q - D))
            · (rw [show B + 1 = Q from by omega]; exact (HUS.out.imp fun a b hab => hab.ext HX5.out).drop Q)
          have hown : OwnR w9 (w.heap.size + 2) (.slice a9 (upRows g1 T B N).length c9) (upRows g1 T B N) := by
            refine ⟨_, ?_, ha2⟩
            rw [hlD]
            exact own_mono HO9.out (by simp at hz3 hz4 ⊢; omega)
          refine ⟨_, a9, c9, a6, c6, by simp only [hlD, HBL.out], ⟨rfl⟩, ⟨OwnR.mono (base := w.heap.size + 2) ((hown.keep HS1'.out.2 (by intro j hj hk; omega)).keep HG11.out (by intro j hj hk; omega)) (by omega)⟩, ⟨OwnR.mono (base := w.heap.size + 2) ?_ (by omega)⟩, ⟨?_⟩, ⟨?_⟩⟩
          · have h1 := ((HBX.out.ext HX5.out).keep HS1'.out.2 (by intro j hj hk; omega)).keep HG11.out (by intro j hj hk; omega)
            (try rw [HBL.out])
            exact h1
          · intro k hk hk'
            have h1 := own_base HO9.out k (by rw [hlD] at hk; exact hk)
            obtain ⟨_, h2, _⟩ := HBX.out.ex
            (try simp only [HBL.out] at hk')
            have h3 := own_lt h2 k hk'
            simp at h1 h3 hz4
            omega
          · exact ((HEX.out.trans HX5.out).of_grown HS1'.out.2 (by intro k hk; cases hk; omega)).of_grown HG11.out (by intro k hk; cases hk; omega)
      · have HF := Aside.mk (hfr.2 hcv)
        clear hfr
        go_wp2_with (go_at_call 115; refine (clone_rows _ (LB - M) _ (cs.drop M) _ HF.out (by omega)).mono ?_; rintro e w6 ⟨a6, c6, rfl, ho6, he6⟩; have HO6 := Aside.mk ho6; have HE6 := Aside.mk he6; have HA6 := Aside.mk (HA5.out.ext he6); clear hc5 hf5; obtain ⟨hc6, hf6⟩ := HA6.out.rules; clear ho6 he6)
        have HS6 := Aside.mk (HA6.out.set 14 (.slice a6 (LB - M) c6))
        have hbl : (lastFifty (g1.Back ++ g1.Rows.take N)).length = LB - M := by
          unfold lastFifty
          rw [List.length_drop, List.length_append, List.length_take, Nat.min_eq_left hNl, HLB.out, ← HM.out]
        have hcs : All2 (OwnC w6 (w.heap.size + 2)) (cs.drop M) (lastFifty (g1.Back ++ g1.Rows.take N)) := by
          unfold lastFifty
          rw [List.length_append, List.length_take, Nat.min_eq_left hNl, HLB.out, ← HM.out]
          exact (HCS2.out.imp fun a b hab => hab.ext HE6.out).drop M
        have hz5 := HZ5.out.lt
        have HBX : Aside (OwnR _ (w.heap.size + 2) (.slice a6 (LB - M) c6) (lastFifty (g1.Back ++ g1.Rows.take N))) := ⟨OwnR.keep (base := w.heap.size + 2) ⟨_, by rw [hbl]; exact own_mono HO6.out (by simp at hz5 ⊢; omega), hcs⟩ HS6.out.2 (by intro j hj hk; omega)⟩
        have HAX : Aside (Box _ w.heap.size 31 #[.int .i64 g1.W, .int .i64 g1.H, .int .i64 g1.X, .int .i64 g1.Y, .bool g1.Wrap, .int .i64 g1.A, .int .i64 g1.Top, .int .i64 g1.Bottom, .int .i64 g1.SX, .int .i64 g1.SY, .int .i64 g1.SA, .bool g1.NoWrap, .bool g1.Hidden, .slice (some ⟨k1, 0, none⟩) g1.Rows.length cr1, .slice a6 (LB - M) c6]) := ⟨HS6.out.1⟩
        have HZX := Aside.mk ((HZ5.out.ext HE6.out).grown HS6.out.2 (by simp))
        have HRX := Aside.mk ((HR5.out.ext HE6.out).keep HS6.out.2 (by intro j hj hk; omega))
        have HEX := Aside.mk ((HE5.out.trans HE6.out).of_grown HS6.out.2 (by intro k hk; cases hk; omega))
        have HDX : Aside (upG g1 top bottom n = { g1 with Rows := upRows g1 T B N, Back := lastFifty (g1.Back ++ g1.Rows.take N) }) := ⟨by rw [HDN.out, if_pos HTZ.out]⟩
        clear hc6 hf6
        obtain ⟨hcx, hfx⟩ := HAX.out.rules
        have HBL := Aside.mk hbl
        clear hbl hcs hz5
        obtain ⟨D, hD⟩ : ∃ D, D = T + N := ⟨_, rfl⟩
        have hwD : IntKind.i64.wrap ((T : Int) + (N : Int)) = (D : Int) := by rw [hD]; rw [IntWalk.i64_in _ (by omega)]; omega
        have hD0 : (0 : Int) ≤ (D : Int) := by omega
        have hDQ : (D : Int) ≤ (Q : Int) := by omega
        have hDc : (D : Int) ≤ (cr1 : Int) := by omega
        have hDs : D + (Q - D) = Q := by omega
        have HSU := Aside.mk (show T + ((Q - D) + (N + (g1.Rows.length - Q))) = g1.Rows.length from by omega)
        have HD := Aside.mk hD
        clear hD
        obtain ⟨us, hv1, hv2⟩ := HRX.out.ex
        have hv3 := Holds.of_own hv1 (all2_one (fun a b hab => hab.oneCell) hv2)
        have HU1 := Aside.mk (pieceLow hv3 T (by omega))
        have HU2 := Aside.mk (pieceMid hv3 D (Q - D) (by omega))
        have HU3 := Aside.mk (pieceHigh hv3 Q (by omega))
        have HUS := Aside.mk hv2
        clear hv1 hv2 hv3
        by_cases hcQ : cr1 = Q
        · subst hcQ
          by_cases hcD : cr1 = D
          · subst hcD
            refine wp_region_till 24 (fun w' => Box w' w.heap.size 31 #[.int .i64 g1.W, .int .i64 g1.H, .int .i64 g1.X, .int .i64 g1.Y, .bool g1.Wrap, .int .i64 g1.A, .int .i64 g1.Top, .int .i64 g1.Bottom, .int .i64 g1.SX, .int .i64 g1.SY, .int .i64 g1.SA, .bool g1.NoWrap, .bool g1.Hidden, .slice (some ⟨k1, 0, none⟩) g1.Rows.length cr1, .slice a6 (LB - M) c6]) (by rfl) HAX.out.drew ?_
            intro hS
            refine ⟨kept_none _ rfl, fun hKept => ?_⟩
            refine till_take (i := 0) (oi := _) (v := ?_) rfl (by kernel_rfl) (by kernel_rfl) (by kernel_rfl) (by kernel_rfl) (fun _ _ _ h => h) hKept hS (Or.inl ⟨by rfl, ?_⟩) ?_; rotate_left; (intro wS hSw; have hSc := hSw.cell; go_simp; try with_reducible rfl); intro hKept; (try simp only [List.getElem?_toArray, List.getElem?_cons_succ, List.getElem?_cons_zero, List.getElem_toArray, List.getElem_cons_succ, List.getElem_cons_zero, Act.put, List.setIfInBounds_toArray, List.set_cons_zero, List.set_cons_succ])
            refine till_take (i := 1) (oi := _) (v := ?_) rfl (by kernel_rfl) (by kernel_rfl) (by kernel_rfl) (by kernel_rfl) (fun _ _ _ h => h) hKept hS (Or.inl ⟨by rfl, ?_⟩) ?_; rotate_left; (intro wS hSw; have hSc := hSw.cell; go_simp; try with_reducible rfl); intro hKept; (try simp only [List.getElem?_toArray, List.getElem?_cons_succ, List.getElem?_cons_zero, List.getElem_toArray, List.getElem_cons_succ, List.getElem_cons_zero, Act.put, List.setIfInBounds_toArray, List.set_cons_zero, List.set_cons_succ])
            refine till_take (i := 2) (oi := _) (v := ?_) rfl (by kernel_rfl) (by kernel_rfl) (by kernel_rfl) (by kernel_rfl) (fun _ _ _ h => h) hKept hS (Or.inl ⟨by rfl, ?_⟩) ?_; rotate_left; (intro wS hSw; have hSc := hSw.cell; go_simp; try with_reducible rfl); intro hKept; (try simp only [List.getElem?_toArray, List.getElem?_cons_succ, List.getElem?_cons_zero, List.getElem_toArray, List.getElem_cons_succ, List.getElem_cons_zero, Act.put, List.setIfInBounds_toArray, List.set_cons_zero, List.set_cons_succ])
            refine till_take (i := 3) (oi := _) (v := ?_) rfl (by kernel_rfl) (by kernel_rfl) (by kernel_rfl) (by kernel_rfl) (fun _ _ _ h => h) hKept hS (Or.inl ⟨by rfl, ?_⟩) ?_; rotate_left; (intro wS hSw; have hSc := hSw.cell; go_simp; try with_reducible rfl); intro hKept; (try simp only [List.getElem?_toArray, List.getElem?_cons_succ, List.getElem?_cons_zero, List.getElem_toArray, List.getElem_cons_succ, List.getElem_cons_zero, Act.put, List.setIfInBounds_toArray, List.set_cons_zero, List.set_cons_succ])
            refine till_take (i := 4) (oi := _) (v := ?_) rfl (by kernel_rfl) (by kernel_rfl) (by kernel_rfl) (by kernel_rfl) (fun _ _ _ h => h) hKept hS (Or.inl ⟨by rfl, ?_⟩) ?_; rotate_left; (intro wS hSw; have hSc := hSw.cell; go_simp; try with_reducible rfl); intro hKept; (try simp only [List.getElem?_toArray, List.getElem?_cons_succ, List.getElem?_cons_zero, List.getElem_toArray, List.getElem_cons_succ, List.getElem_cons_zero, Act.put, List.setIfInBounds_toArray, List.set_cons_zero, List.set_cons_succ])
            refine till_take (i := 5) (oi := _) (v := ?_) rfl (by kernel_rfl) (by kernel_rfl) (by kernel_rfl) (by kernel_rfl) (fun _ _ _ h => h) hKept hS (Or.inl ⟨by rfl, ?_⟩) ?_; rotate_left; (intro wS hSw; have hSc := hSw.cell; go_simp; try with_reducible rfl); intro hKept; (try simp only [List.getElem?_toArray, List.getElem?_cons_succ, List.getElem?_cons_zero, List.getElem_toArray, List.getElem_cons_succ, List.getElem_cons_zero, Act.put, List.setIfInBounds_toArray, List.set_cons_zero, List.set_cons_succ])
            refine till_take (i := 6) (oi := _) (v := ?_) rfl (by kernel_rfl) (by kernel_rfl) (by kernel_rfl) (by kernel_rfl) (fun _ _ _ h => h) hKept hS (Or.inl ⟨by rfl, ?_⟩) ?_; rotate_left; (intro wS hSw; have hSc := hSw.cell; go_simp; try with_reducible rfl); intro hKept; (try simp only [List.getElem?_toArray, List.getElem?_cons_succ, List.getElem?_cons_zero, List.getElem_toArray, List.getElem_cons_succ, List.getElem_cons_zero, Act.put, List.setIfInBounds_toArray, List.set_cons_zero, List.set_cons_succ])
            refine till_take (i := 7) (oi := _) (v := ?_) rfl (by kernel_rfl) (by kernel_rfl) (by kernel_rfl) (by kernel_rfl) (fun _ _ _ h => h) hKept hS (Or.inl ⟨by rfl, ?_⟩) ?_; rotate_left; (intro wS hSw; have hSc := hSw.cell; go_simp; try with_reducible rfl); intro hKept; (try simp only [List.getElem?_toArray, List.getElem?_cons_succ, List.getElem?_cons_zero, List.getElem_toArray, List.getElem_cons_succ, List.getElem_cons_zero, Act.put, List.setIfInBounds_toArray, List.set_cons_zero, List.set_cons_succ])
            refine till_take (i := 8) (oi := _) (v := ?_) rfl (by kernel_rfl) (by kernel_rfl) (by kernel_rfl) (by kernel_rfl) (fun _ _ _ h => h) hKept hS (Or.inl ⟨by rfl, ?_⟩) ?_; rotate_left; (intro wS hSw; have hSc := hSw.cell; go_simp; try with_reducible rfl); intro hKept; (try simp only [List.getElem?_toArray, List.getElem?_cons_succ, List.getElem?_cons_zero, List.getElem_toArray, List.getElem_cons_succ, List.getElem_cons_zero, Act.put, List.setIfInBounds_toArray, List.set_cons_zero, List.set_cons_succ])
            refine till_take (i := 9) (oi := _) (v := ?_) rfl (by kernel_rfl) (by kernel_rfl) (by kernel_rfl) (by kernel_rfl) (fun _ _ _ h => h) hKept hS (Or.inl ⟨by rfl, ?_⟩) ?_; rotate_left; (intro wS hSw; have hSc := hSw.cell; go_simp; try with_reducible rfl); intro hKept; (try simp only [List.getElem?_toArray, List.getElem?_cons_succ, List.getElem?_cons_zero, List.getElem_toArray, List.getElem_cons_succ, List.getElem_cons_zero, Act.put, List.setIfInBounds_toArray, List.set_cons_zero, List.set_cons_succ])
            refine till_take (i := 10) (oi := _) (v := ?_) rfl (by kernel_rfl) (by kernel_rfl) (by kernel_rfl) (by kernel_rfl) (fun _ _ _ h => h) hKept hS (Or.inl ⟨by rfl, ?_⟩) ?_; rotate_left; (intro wS hSw; have hSc := hSw.cell; go_simp; try with_reducible rfl); intro hKept; (try simp only [List.getElem?_toArray, List.getElem?_cons_succ, List.getElem?_cons_zero, List.getElem_toArray, List.getElem_cons_succ, List.getElem_cons_zero, Act.put, List.setIfInBounds_toArray, List.set_cons_zero, List.set_cons_succ])
            refine till_take (i := 11) (oi := _) (v := ?_) rfl (by kernel_rfl) (by kernel_rfl) (by kernel_rfl) (by kernel_rfl) (fun _ _ _ h => h) hKept hS (Or.inl ⟨by rfl, ?_⟩) ?_; rotate_left; (intro wS hSw; have hSc := hSw.cell; go_simp; try with_reducible rfl); intro hKept; (try simp only [List.getElem?_toArray, List.getElem?_cons_succ, List.getElem?_cons_zero, List.getElem_toArray, List.getElem_cons_succ, List.getElem_cons_zero, Act.put, List.setIfInBounds_toArray, List.set_cons_zero, List.set_cons_succ])
            refine till_take (i := 12) (oi := _) (v := ?_) rfl (by kernel_rfl) (by kernel_rfl) (by kernel_rfl) (by kernel_rfl) (fun _ _ _ h => h) hKept hS (Or.inl ⟨by rfl, ?_⟩) ?_; rotate_left; (intro wS hSw; have hSc := hSw.cell; go_simp; try with_reducible rfl); intro hKept; (try simp only [List.getElem?_toArray, List.getElem?_cons_succ, List.getElem?_cons_zero, List.getElem_toArray, List.getElem_cons_succ, List.getElem_cons_zero, Act.put, List.setIfInBounds_toArray, List.set_cons_zero, List.set_cons_succ])
            refine till_take (i := 13) (oi := _) (v := ?_) rfl (by kernel_rfl) (by kernel_rfl) (by kernel_rfl) (by kernel_rfl) (fun _ _ _ h => h) hKept hS (Or.inl ⟨by rfl, ?_⟩) ?_; rotate_left; (intro wS hSw; have hSc := hSw.cell; go_simp; try with_reducible rfl); intro hKept; (try simp only [List.getElem?_toArray, List.getElem?_cons_succ, List.getElem?_cons_zero, List.getElem_toArray, List.getElem_cons_succ, List.getElem_cons_zero, Act.put, List.setIfInBounds_toArray, List.set_cons_zero, List.set_cons_succ])
            refine till_take (i := 14) (oi := _) (v := ?_) rfl (by kernel_rfl) (by kernel_rfl) (by kernel_rfl) (by kernel_rfl) (fun _ _ _ h => h) hKept hS (Or.inl ⟨by rfl, ?_⟩) ?_; rotate_left; (intro wS hSw; have hSc := hSw.cell; go_simp; try with_reducible rfl); intro hKept; (try simp only [List.getElem?_toArray, List.getElem?_cons_succ, List.getElem?_cons_zero, List.getElem_toArray, List.getElem_cons_succ, List.getElem_cons_zero, Act.put, List.setIfInBounds_toArray, List.set_cons_zero, List.set_cons_succ])
            refine till_take (i := 16) (oi := _) (v := ?_) rfl (by kernel_rfl) (by kernel_rfl) (by kernel_rfl) (by kernel_rfl) (fun _ _ _ h => h) hKept hS (Or.inl ⟨by rfl, ?_⟩) ?_; rotate_left; (intro wS hSw; have hSc := hSw.cell; go_simp; try with_reducible rfl); intro hKept; (try simp only [List.getElem?_toArray, List.getElem?_cons_succ, List.getElem?_cons_zero, List.getElem_toArray, List.getElem_cons_succ, List.getElem_cons_zero, Act.put, List.setIfInBounds_toArray, List.set_cons_zero, List.set_cons_succ])
            refine till_take (i := 17) (oi := _) (v := ?_) rfl (by kernel_rfl) (by kernel_rfl) (by kernel_rfl) (by kernel_rfl) (fun _ _ _ h => h) hKept hS (Or.inl ⟨by rfl, ?_⟩) ?_; rotate_left; (intro wS hSw; have hSc := hSw.cell; go_simp; try with_reducible rfl); intro hKept; (try simp only [List.getElem?_toArray, List.getElem?_cons_succ, List.getElem?_cons_zero, List.getElem_toArray, List.getElem_cons_succ, List.getElem_cons_zero, Act.put, List.setIfInBounds_toArray, List.set_cons_zero, List.set_cons_succ])
            refine till_take (i := 18) (oi := _) (v := ?_) rfl (by kernel_rfl) (by kernel_rfl) (by kernel_rfl) (by kernel_rfl) (fun _ _ _ h => h) hKept hS (Or.inl ⟨by rfl, ?_⟩) ?_; rotate_left; (intro wS hSw; have hSc := hSw.cell; go_simp; try with_reducible rfl); intro hKept; (try simp only [List.getElem?_toArray, List.getElem?_cons_succ, List.getElem?_cons_zero, List.getElem_toArray, List.getElem_cons_succ, List.getElem_cons_zero, Act.put, List.setIfInBounds_toArray, List.set_cons_zero, List.set_cons_succ])
            refine till_take (i := 19) (oi := _) (v := ?_) rfl (by kernel_rfl) (by kernel_rfl) (by kernel_rfl) (by kernel_rfl) (fun _ _ _ h => h) hKept hS (Or.inl ⟨by rfl, ?_⟩) ?_; rotate_left; (intro wS hSw; have hSc := hSw.cell; go_simp; try with_reducible rfl); intro hKept; (try simp only [List.getElem?_toArray, List.getElem?_cons_succ, List.getElem?_cons_zero, List.getElem_toArray, List.getElem_cons_succ, List.getElem_cons_zero, Act.put, List.setIfInBounds_toArray, List.set_cons_zero, List.set_cons_succ])
            refine till_take (i := 20) (oi := _) (v := ?_) rfl (by kernel_rfl) (by kernel_rfl) (by kernel_rfl) (by kernel_rfl) (fun _ _ _ h => h) hKept hS (Or.inl ⟨by rfl, ?_⟩) ?_; rotate_left; (intro wS hSw; have hSc := hSw.cell; go_simp; try with_reducible rfl); intro hKept; (try simp only [List.getElem?_toArray, List.getElem?_cons_succ, List.getElem?_cons_zero, List.getElem_toArray, List.getElem_cons_succ, List.getElem_cons_zero, Act.put, List.setIfInBounds_toArray, List.set_cons_zero, List.set_cons_succ])
            refine till_one (i := 15) (by simp only [List.getElem?_toArray, List.getElem?_cons_succ, List.getElem?_cons_zero]; rfl) (by kernel_rfl) hKept ?_; intro K hK; rw [if_pos (by rfl)]
            go_simp
            refine (blanks_nat g1.W N _ (by omega)).mono ?_
            rintro e w8 ⟨a4, c4, ws, rfl, ho4, hw4, he4⟩
            have HO8 := Aside.mk ho4
            have HW8 := Aside.mk hw4
            have HA8 := Aside.mk (HAX.out.drew.ext he4)
            have HZ8 := Aside.mk (HZX.out.drew.ext he4)
            have HX4 := Aside.mk (((Ext.refl _).drew).trans he4)
            have HY8 := Aside.mk (HEX.out.drew.trans he4)
            clear ho4 hw4 he4 hcx hfx
            refine hK.out _ _ (fun _ => HA8.out) ?_; clear hS; intro hS hKept; replace hS := hS (by decide); (try simp only [List.getElem?_toArray, List.getElem?_cons_succ, List.getElem?_cons_zero, List.getElem_toArray, List.getElem_cons_succ, List.getElem_cons_zero, Act.put, List.setIfInBounds_toArray, List.set_cons_zero, List.set_cons_succ])
            refine till_one (i := 21) (by simp only [List.getElem?_toArray, List.getElem?_cons_succ, List.getElem?_cons_zero]; rfl) (by kernel_rfl) hKept ?_; intro K hK; rw [if_pos (by rfl)]
            go_simp
            refine hK.out _ _ (fun _ => HA8.out.alloc _) ?_; clear hS; intro hS hKept; replace hS := hS (by decide); (try simp only [List.getElem?_toArray, List.getElem?_cons_succ, List.getElem?_cons_zero, List.getElem_toArray, List.getElem_cons_succ, List.getElem_cons_zero, Act.put, List.setIfInBounds_toArray, List.set_cons_zero, List.set_cons_succ])
            refine till_one (i := 22) (by simp only [List.getElem?_toArray, List.getElem?_cons_succ, List.getElem?_cons_zero]; rfl) (by kernel_rfl) hKept ?_; intro K hK; rw [if_pos (by rfl)]
            go_simp
            refine (concat_at _ _ [_, _, _, _] [us.take T, [], ws, []] _ 4 g1.Rows.length _ rfl rfl (by have h1 := HU1.out.len; have h2 := HO8.out.1; have h3 := HU2.out.len; have h4 := HSU.out; have h5 := HU3.out.len; simp only [List.flatten_cons, List.flatten_nil, List.length_append, List.length_nil, h1, h2, h3]; omega) (Holds.newN _ _ 1 4 [_, _, _, _] rfl (by omega) (by intro u hu; simp only [List.mem_cons, List.not_mem_nil, or_false] at hu; rcases hu with rfl | rfl | rfl | rfl <;> rfl)) (.cons (HU1.out.ext (HX4.out.alloc _)).self (.cons (Holds.zero _ 1 _ 0 (by unfold maxLen; omega)) (.cons (Holds.of_own HO8.out (all2_one (fun a b hab => hab.oneCell) HW8.out) |>.ext (Ext.alloc1 _ _)).self (.cons (Holds.zero _ 1 _ 0 (by unfold maxLen; omega)) .nil)))) (by omega) (by omega)).mono ?_
            rintro e w9 ⟨a9, c9, rfl, ho5, he5⟩
            have HO9 := Aside.mk ho5
            have HX5 := Aside.mk ((HX4.out.alloc _).trans he5)
            have HA9 := Aside.mk ((HA8.out.alloc _).ext he5)
            have HZ9 := Aside.mk ((HZ8.out.alloc _).ext he5)
            have HE9 := Aside.mk he5
            clear ho5 he5
            obtain ⟨hc9, hf9⟩ := HA9.out.rules
            refine hK.out _ _ (fun _ => HA9.out) ?_; clear hS; intro hS hKept; replace hS := hS (by decide); (try simp only [List.getElem?_toArray, List.getElem?_cons_succ, List.getElem?_cons_zero, List.getElem_toArray, List.getElem_cons_succ, List.getElem_cons_zero, Act.put, List.setIfInBounds_toArray, List.set_cons_zero, List.set_cons_succ])
            refine till_take (i := 23) (oi := _) (v := ?_) rfl (by kernel_rfl) (by kernel_rfl) (by kernel_rfl) (by kernel_rfl) (fun _ _ _ h => h) hKept hS (Or.inl ⟨by rfl, ?_⟩) ?_; rotate_left; (intro wS hSw; have hSc := hSw.cell; go_simp; try with_reducible rfl); intro hKept; (try simp only [List.getElem?_toArray, List.getElem?_cons_succ, List.getElem?_cons_zero, List.getElem_toArray, List.getElem_cons_succ, List.getElem_cons_zero, Act.put, List.setIfInBounds_toArray, List.set_cons_zero, List.set_cons_succ])
            refine till_one (i := 24) (by simp only [List.getElem?_toArray, List.getElem?_cons_succ, List.getElem?_cons_zero]; rfl) (by kernel_rfl) hKept ?_; intro K hK; rw [if_pos (by rfl)]
            go_simp
            refine hK.out _ _ (fun h => absurd rfl h) ?_
            intro _ _
            refine till_done (by kernel_rfl) ?_ _
            have HS1' := Aside.mk (HA9.out.set 13 (.slice a9 g1.Rows.length c9))
            have HA10 : Aside (Box _ w.heap.size 31 #[.int .i64 g1.W, .int .i64 g1.H, .int .i64 g1.X, .int .i64 g1.Y, .bool g1.Wrap, .int .i64 g1.A, .int .i64 g1.Top, .int .i64 g1.Bottom, .int .i64 g1.SX, .int .i64 g1.SY, .int .i64 g1.SA, .bool g1.NoWrap, .bool g1.Hidden, .slice a9 g1.Rows.length c9, .slice a6 (LB - M) c6]) := ⟨HS1'.out.1⟩
            have HZ10 := Aside.mk (HZ9.out.grown HS1'.out.2 (by simp))
            go_wp2_with (first
              | (refine atLoad 31 (.tmp 4) rfl ?_; refine wpList_load_row rfl 31 (.tmp 4) rfl w.heap.size rfl 31 _ (0, 0) _ HA10.out Try.underlying31 rfl size31 ?_)
              | (refine atStore 31 (.tmp 8) (.tmp 69) rfl ?_; refine wpList_store_box _ rfl 31 (.tmp 8) (.tmp 69) rfl (w.heap.size + 1) _ rfl rfl 31 _ HZ10.out size31 rfl rfl ?_; intro w11 hb7 hg7; have HZ11 := Aside.mk hb7; have HG11 := Aside.mk hg7; clear hg7 hb7))
            refine bodyPost_ret (results_cell_row Try.results71 _ _ (w.heap.size + 1) 31 _ (0, 0) _ rfl HZ11.out Try.underlying31 rfl size31) rfl ?_
            rw [HDX.out]
            have hQ := HQ.out
            have hE := HEQ.out
            have hD := HD.out
            have hz3 := HZX.out.lt
            have hz4 := HX4.out.size
            have hlD := upRows_length g1 T B N (by omega) (by omega)
            have ha2 : All2 (OwnC w9 (w.heap.size + 2)) [us.take T, [], ws, []].flatten (upRows g1 T B N) := by
              unfold upRows
              refine rows4 ((HUS.out.imp fun a b hab => hab.ext HX5.out).take T) ?_ (HW8.out.imp fun a b hab => (hab.ext ((Ext.alloc1 _ _).trans HE9.out)).mono (by simp at hz3 hz4 ⊢; omega)) ?_
              · (rw [show B + 1 - (T + N) = 0 from by omega, List.take_zero]; exact .nil)
              · (rw [List.drop_eq_nil_of_le (by omega)]; exact .nil)
            have hown : OwnR w9 (w.heap.size + 2) (.slice a9 (upRows g1 T B N).length c9) (upRows g1 T B N) := by
              refine ⟨_, ?_, ha2⟩
              rw [hlD]
              exact own_mono HO9.out (by simp at hz3 hz4 ⊢; omega)
            refine ⟨_, a9, c9, a6, c6, by simp only [hlD, HBL.out], ⟨rfl⟩, ⟨OwnR.mono (base := w.heap.size + 2) ((hown.keep HS1'.out.2 (by intro j hj hk; omega)).keep HG11.out (by intro j hj hk; omega)) (by omega)⟩, ⟨OwnR.mono (base := w.heap.size + 2) ?_ (by omega)⟩, ⟨?_⟩, ⟨?_⟩⟩
            · have h1 := ((HBX.out.ext HX5.out).keep HS1'.out.2 (by intro j hj hk; omega)).keep HG11.out (by intro j hj hk; omega)
              (try rw [HBL.out])
              exact h1
            · intro k hk hk'
              have h1 := own_base HO9.out k (by rw [hlD] at hk; exact hk)
              obtain ⟨_, h2, _⟩ := HBX.out.ex
              (try simp only [HBL.out] at hk')
              have h3 := own_lt h2 k hk'
              simp at h1 h3 hz4
              omega
            · exact ((HEX.out.trans HX5.out).of_grown HS1'.out.2 (by intro k hk; cases hk; omega)).of_grown HG11.out (by intro k hk; cases hk; omega)
          · have hcD' := hcD
            refine wp_region_till 24 (fun w' => Box w' w.heap.size 31 #[.int .i64 g1.W, .int .i64 g1.H, .int .i64 g1.X, .int .i64 g1.Y, .bool g1.Wrap, .int .i64 g1.A, .int .i64 g1.Top, .int .i64 g1.Bottom, .int .i64 g1.SX, .int .i64 g1.SY, .int .i64 g1.SA, .bool g1.NoWrap, .bool g1.Hidden, .slice (some ⟨k1, 0, none⟩) g1.Rows.length cr1, .slice a6 (LB - M) c6]) (by rfl) HAX.out.drew ?_
            intro hS
            refine ⟨kept_none _ rfl, fun hKept => ?_⟩
            refine till_take (i := 0) (oi := _) (v := ?_) rfl (by kernel_rfl) (by kernel_rfl) (by kernel_rfl) (by kernel_rfl) (fun _ _ _ h => h) hKept hS (Or.inl ⟨by rfl, ?_⟩) ?_; rotate_left; (intro wS hSw; have hSc := hSw.cell; go_simp; try with_reducible rfl); intro hKept; (try simp only [List.getElem?_toArray, List.getElem?_cons_succ, List.getElem?_cons_zero, List.getElem_toArray, List.getElem_cons_succ, List.getElem_cons_zero, Act.put, List.setIfInBounds_toArray, List.set_cons_zero, List.set_cons_succ])
            refine till_take (i := 1) (oi := _) (v := ?_) rfl (by kernel_rfl) (by kernel_rfl) (by kernel_rfl) (by kernel_rfl) (fun _ _ _ h => h) hKept hS (Or.inl ⟨by rfl, ?_⟩) ?_; rotate_left; (intro wS hSw; have hSc := hSw.cell; go_simp; try with_reducible rfl); intro hKept; (try simp only [List.getElem?_toArray, List.getElem?_cons_succ, List.getElem?_cons_zero, List.getElem_toArray, List.getElem_cons_succ, List.getElem_cons_zero, Act.put, List.setIfInBounds_toArray, List.set_cons_zero, List.set_cons_succ])
            refine till_take (i := 2) (oi := _) (v := ?_) rfl (by kernel_rfl) (by kernel_rfl) (by kernel_rfl) (by kernel_rfl) (fun _ _ _ h => h) hKept hS (Or.inl ⟨by rfl, ?_⟩) ?_; rotate_left; (intro wS hSw; have hSc := hSw.cell; go_simp; try with_reducible rfl); intro hKept; (try simp only [List.getElem?_toArray, List.getElem?_cons_succ, List.getElem?_cons_zero, List.getElem_toArray, List.getElem_cons_succ, List.getElem_cons_zero, Act.put, List.setIfInBounds_toArray, List.set_cons_zero, List.set_cons_succ])
            refine till_take (i := 3) (oi := _) (v := ?_) rfl (by kernel_rfl) (by kernel_rfl) (by kernel_rfl) (by kernel_rfl) (fun _ _ _ h => h) hKept hS (Or.inl ⟨by rfl, ?_⟩) ?_; rotate_left; (intro wS hSw; have hSc := hSw.cell; go_simp; try with_reducible rfl); intro hKept; (try simp only [List.getElem?_toArray, List.getElem?_cons_succ, List.getElem?_cons_zero, List.getElem_toArray, List.getElem_cons_succ, List.getElem_cons_zero, Act.put, List.setIfInBounds_toArray, List.set_cons_zero, List.set_cons_succ])
            refine till_take (i := 4) (oi := _) (v := ?_) rfl (by kernel_rfl) (by kernel_rfl) (by kernel_rfl) (by kernel_rfl) (fun _ _ _ h => h) hKept hS (Or.inl ⟨by rfl, ?_⟩) ?_; rotate_left; (intro wS hSw; have hSc := hSw.cell; go_simp; try with_reducible rfl); intro hKept; (try simp only [List.getElem?_toArray, List.getElem?_cons_succ, List.getElem?_cons_zero, List.getElem_toArray, List.getElem_cons_succ, List.getElem_cons_zero, Act.put, List.setIfInBounds_toArray, List.set_cons_zero, List.set_cons_succ])
            refine till_take (i := 5) (oi := _) (v := ?_) rfl (by kernel_rfl) (by kernel_rfl) (by kernel_rfl) (by kernel_rfl) (fun _ _ _ h => h) hKept hS (Or.inl ⟨by rfl, ?_⟩) ?_; rotate_left; (intro wS hSw; have hSc := hSw.cell; go_simp; try with_reducible rfl); intro hKept; (try simp only [List.getElem?_toArray, List.getElem?_cons_succ, List.getElem?_cons_zero, List.getElem_toArray, List.getElem_cons_succ, List.getElem_cons_zero, Act.put, List.setIfInBounds_toArray, List.set_cons_zero, List.set_cons_succ])
            refine till_take (i := 6) (oi := _) (v := ?_) rfl (by kernel_rfl) (by kernel_rfl) (by kernel_rfl) (by kernel_rfl) (fun _ _ _ h => h) hKept hS (Or.inl ⟨by rfl, ?_⟩) ?_; rotate_left; (intro wS hSw; have hSc := hSw.cell; go_simp; try with_reducible rfl); intro hKept; (try simp only [List.getElem?_toArray, List.getElem?_cons_succ, List.getElem?_cons_zero, List.getElem_toArray, List.getElem_cons_succ, List.getElem_cons_zero, Act.put, List.setIfInBounds_toArray, List.set_cons_zero, List.set_cons_succ])
            refine till_take (i := 7) (oi := _) (v := ?_) rfl (by kernel_rfl) (by kernel_rfl) (by kernel_rfl) (by kernel_rfl) (fun _ _ _ h => h) hKept hS (Or.inl ⟨by rfl, ?_⟩) ?_; rotate_left; (intro wS hSw; have hSc := hSw.cell; go_simp; try with_reducible rfl); intro hKept; (try simp only [List.getElem?_toArray, List.getElem?_cons_succ, List.getElem?_cons_zero, List.getElem_toArray, List.getElem_cons_succ, List.getElem_cons_zero, Act.put, List.setIfInBounds_toArray, List.set_cons_zero, List.set_cons_succ])
            refine till_take (i := 8) (oi := _) (v := ?_) rfl (by kernel_rfl) (by kernel_rfl) (by kernel_rfl) (by kernel_rfl) (fun _ _ _ h => h) hKept hS (Or.inl ⟨by rfl, ?_⟩) ?_; rotate_left; (intro wS hSw; have hSc := hSw.cell; go_simp; try with_reducible rfl); intro hKept; (try simp only [List.getElem?_toArray, List.getElem?_cons_succ, List.getElem?_cons_zero, List.getElem_toArray, List.getElem_cons_succ, List.getElem_cons_zero, Act.put, List.setIfInBounds_toArray, List.set_cons_zero, List.set_cons_succ])
            refine till_take (i := 9) (oi := _) (v := ?_) rfl (by kernel_rfl) (by kernel_rfl) (by kernel_rfl) (by kernel_rfl) (fun _ _ _ h => h) hKept hS (Or.inl ⟨by rfl, ?_⟩) ?_; rotate_left; (intro wS hSw; have hSc := hSw.cell; go_simp; try with_reducible rfl); intro hKept; (try simp only [List.getElem?_toArray, List.getElem?_cons_succ, List.getElem?_cons_zero, List.getElem_toArray, List.getElem_cons_succ, List.getElem_cons_zero, Act.put, List.setIfInBounds_toArray, List.set_cons_zero, List.set_cons_succ])
            refine till_take (i := 10) (oi := _) (v := ?_) rfl (by kernel_rfl) (by kernel_rfl) (by kernel_rfl) (by kernel_rfl) (fun _ _ _ h => h) hKept hS (Or.inl ⟨by rfl, ?_⟩) ?_; rotate_left; (intro wS hSw; have hSc := hSw.cell; go_simp; try with_reducible rfl); intro hKept; (try simp only [List.getElem?_toArray, List.getElem?_cons_succ, List.getElem?_cons_zero, List.getElem_toArray, List.getElem_cons_succ, List.getElem_cons_zero, Act.put, List.setIfInBounds_toArray, List.set_cons_zero, List.set_cons_succ])
            refine till_take (i := 11) (oi := _) (v := ?_) rfl (by kernel_rfl) (by kernel_rfl) (by kernel_rfl) (by kernel_rfl) (fun _ _ _ h => h) hKept hS (Or.inl ⟨by rfl, ?_⟩) ?_; rotate_left; (intro wS hSw; have hSc := hSw.cell; go_simp; try with_reducible rfl); intro hKept; (try simp only [List.getElem?_toArray, List.getElem?_cons_succ, List.getElem?_cons_zero, List.getElem_toArray, List.getElem_cons_succ, List.getElem_cons_zero, Act.put, List.setIfInBounds_toArray, List.set_cons_zero, List.set_cons_succ])
            refine till_take (i := 12) (oi := _) (v := ?_) rfl (by kernel_rfl) (by kernel_rfl) (by kernel_rfl) (by kernel_rfl) (fun _ _ _ h => h) hKept hS (Or.inl ⟨by rfl, ?_⟩) ?_; rotate_left; (intro wS hSw; have hSc := hSw.cell; go_simp; try with_reducible rfl); intro hKept; (try simp only [List.getElem?_toArray, List.getElem?_cons_succ, List.getElem?_cons_zero, List.getElem_toArray, List.getElem_cons_succ, List.getElem_cons_zero, Act.put, List.setIfInBounds_toArray, List.set_cons_zero, List.set_cons_succ])
            refine till_take (i := 13) (oi := _) (v := ?_) rfl (by kernel_rfl) (by kernel_rfl) (by kernel_rfl) (by kernel_rfl) (fun _ _ _ h => h) hKept hS (Or.inl ⟨by rfl, ?_⟩) ?_; rotate_left; (intro wS hSw; have hSc := hSw.cell; go_simp; try with_reducible rfl); intro hKept; (try simp only [List.getElem?_toArray, List.getElem?_cons_succ, List.getElem?_cons_zero, List.getElem_toArray, List.getElem_cons_succ, List.getElem_cons_zero, Act.put, List.setIfInBounds_toArray, List.set_cons_zero, List.set_cons_succ])
            refine till_take (i := 14) (oi := _) (v := ?_) rfl (by kernel_rfl) (by kernel_rfl) (by kernel_rfl) (by kernel_rfl) (fun _ _ _ h => h) hKept hS (Or.inl ⟨by rfl, ?_⟩) ?_; rotate_left; (intro wS hSw; have hSc := hSw.cell; go_simp; try with_reducible rfl); intro hKept; (try simp only [List.getElem?_toArray, List.getElem?_cons_succ, List.getElem?_cons_zero, List.getElem_toArray, List.getElem_cons_succ, List.getElem_cons_zero, Act.put, List.setIfInBounds_toArray, List.set_cons_zero, List.set_cons_succ])
            refine till_take (i := 16) (oi := _) (v := ?_) rfl (by kernel_rfl) (by kernel_rfl) (by kernel_rfl) (by kernel_rfl) (fun _ _ _ h => h) hKept hS (Or.inl ⟨by rfl, ?_⟩) ?_; rotate_left; (intro wS hSw; have hSc := hSw.cell; go_simp; try with_reducible rfl); intro hKept; (try simp only [List.getElem?_toArray, List.getElem?_cons_succ, List.getElem?_cons_zero, List.getElem_toArray, List.getElem_cons_succ, List.getElem_cons_zero, Act.put, List.setIfInBounds_toArray, List.set_cons_zero, List.set_cons_succ])
            refine till_take (i := 17) (oi := _) (v := ?_) rfl (by kernel_rfl) (by kernel_rfl) (by kernel_rfl) (by kernel_rfl) (fun _ _ _ h => h) hKept hS (Or.inl ⟨by rfl, ?_⟩) ?_; rotate_left; (intro wS hSw; have hSc := hSw.cell; go_simp; try with_reducible rfl); intro hKept; (try simp only [List.getElem?_toArray, List.getElem?_cons_succ, List.getElem?_cons_zero, List.getElem_toArray, List.getElem_cons_succ, List.getElem_cons_zero, Act.put, List.setIfInBounds_toArray, List.set_cons_zero, List.set_cons_succ])
            refine till_take (i := 18) (oi := _) (v := ?_) rfl (by kernel_rfl) (by kernel_rfl) (by kernel_rfl) (by kernel_rfl) (fun _ _ _ h => h) hKept hS (Or.inl ⟨by rfl, ?_⟩) ?_; rotate_left; (intro wS hSw; have hSc := hSw.cell; go_simp; try with_reducible rfl); intro hKept; (try simp only [List.getElem?_toArray, List.getElem?_cons_succ, List.getElem?_cons_zero, List.getElem_toArray, List.getElem_cons_succ, List.getElem_cons_zero, Act.put, List.setIfInBounds_toArray, List.set_cons_zero, List.set_cons_succ])
            refine till_take (i := 19) (oi := _) (v := ?_) rfl (by kernel_rfl) (by kernel_rfl) (by kernel_rfl) (by kernel_rfl) (fun _ _ _ h => h) hKept hS (Or.inl ⟨by rfl, ?_⟩) ?_; rotate_left; (intro wS hSw; have hSc := hSw.cell; go_simp; try with_reducible rfl); intro hKept; (try simp only [List.getElem?_toArray, List.getElem?_cons_succ, List.getElem?_cons_zero, List.getElem_toArray, List.getElem_cons_succ, List.getElem_cons_zero, Act.put, List.setIfInBounds_toArray, List.set_cons_zero, List.set_cons_succ])
            refine till_take (i := 20) (oi := _) (v := ?_) rfl (by kernel_rfl) (by kernel_rfl) (by kernel_rfl) (by kernel_rfl) (fun _ _ _ h => h) hKept hS (Or.inl ⟨by rfl, ?_⟩) ?_; rotate_left; (intro wS hSw; have hSc := hSw.cell; go_simp; try with_reducible rfl); intro hKept; (try simp only [List.getElem?_toArray, List.getElem?_cons_succ, List.getElem?_cons_zero, List.getElem_toArray, List.getElem_cons_succ, List.getElem_cons_zero, Act.put, List.setIfInBounds_toArray, List.set_cons_zero, List.set_cons_succ])
            refine till_one (i := 15) (by simp only [List.getElem?_toArray, List.getElem?_cons_succ, List.getElem?_cons_zero]; rfl) (by kernel_rfl) hKept ?_; intro K hK; rw [if_pos (by rfl)]
            go_simp
            refine (blanks_nat g1.W N _ (by omega)).mono ?_
            rintro e w8 ⟨a4, c4, ws, rfl, ho4, hw4, he4⟩
            have HO8 := Aside.mk ho4
            have HW8 := Aside.mk hw4
            have HA8 := Aside.mk (HAX.out.drew.ext he4)
            have HZ8 := Aside.mk (HZX.out.drew.ext he4)
            have HX4 := Aside.mk (((Ext.refl _).drew).trans he4)
            have HY8 := Aside.mk (HEX.out.drew.trans he4)
            clear ho4 hw4 he4 hcx hfx
            refine hK.out _ _ (fun _ => HA8.out) ?_; clear hS; intro hS hKept; replace hS := hS (by decide); (try simp only [List.getElem?_toArray, List.getElem?_cons_succ, List.getElem?_cons_zero, List.getElem_toArray, List.getElem_cons_succ, List.getElem_cons_zero, Act.put, List.setIfInBounds_toArray, List.set_cons_zero, List.set_cons_succ])
            refine till_one (i := 21) (by simp only [List.getElem?_toArray, List.getElem?_cons_succ, List.getElem?_cons_zero]; rfl) (by kernel_rfl) hKept ?_; intro K hK; rw [if_pos (by rfl)]
            go_simp
            refine hK.out _ _ (fun _ => HA8.out.alloc _) ?_; clear hS; intro hS hKept; replace hS := hS (by decide); (try simp only [List.getElem?_toArray, List.getElem?_cons_succ, List.getElem?_cons_zero, List.getElem_toArray, List.getElem_cons_succ, List.getElem_cons_zero, Act.put, List.setIfInBounds_toArray, List.set_cons_zero, List.set_cons_succ])
            refine till_one (i := 22) (by simp only [List.getElem?_toArray, List.getElem?_cons_succ, List.getElem?_cons_zero]; rfl) (by kernel_rfl) hKept ?_; intro K hK; rw [if_pos (by rfl)]
            go_simp
            refine (concat_at _ _ [_, _, _, _] [us.take T, (us.drop D).take (cr1 - D), ws, []] _ 4 g1.Rows.length _ rfl rfl (by have h1 := HU1.out.len; have h2 := HO8.out.1; have h3 := HU2.out.len; have h4 := HSU.out; have h5 := HU3.out.len; simp only [List.flatten_cons, List.flatten_nil, List.length_append, List.length_nil, h1, h2, h3]; omega) (Holds.newN _ _ 1 4 [_, _, _, _] rfl (by omega) (by intro u hu; simp only [List.mem_cons, List.not_mem_nil, or_false] at hu; rcases hu with rfl | rfl | rfl | rfl <;> rfl)) (.cons (HU1.out.ext (HX4.out.alloc _)).self (.cons (HU2.out.ext (HX4.out.alloc _)).self (.cons (Holds.of_own HO8.out (all2_one (fun a b hab => hab.oneCell) HW8.out) |>.ext (Ext.alloc1 _ _)).self (.cons (Holds.zero _ 1 _ 0 (by unfold maxLen; omega)) .nil)))) (by omega) (by omega)).mono ?_
            rintro e w9 ⟨a9, c9, rfl, ho5, he5⟩
            have HO9 := Aside.mk ho5
            have HX5 := Aside.mk ((HX4.out.alloc _).trans he5)
            have HA9 := Aside.mk ((HA8.out.alloc _).ext he5)
            have HZ9 := Aside.mk ((HZ8.out.alloc _).ext he5)
            have HE9 := Aside.mk he5
            clear ho5 he5
            obtain ⟨hc9, hf9⟩ := HA9.out.rules
            refine hK.out _ _ (fun _ => HA9.out) ?_; clear hS; intro hS hKept; replace hS := hS (by decide); (try simp only [List.getElem?_toArray, List.getElem?_cons_succ, List.getElem?_cons_zero, List.getElem_toArray, List.getElem_cons_succ, List.getElem_cons_zero, Act.put, List.setIfInBounds_toArray, List.set_cons_zero, List.set_cons_succ])
            refine till_take (i := 23) (oi := _) (v := ?_) rfl (by kernel_rfl) (by kernel_rfl) (by kernel_rfl) (by kernel_rfl) (fun _ _ _ h => h) hKept hS (Or.inl ⟨by rfl, ?_⟩) ?_; rotate_left; (intro wS hSw; have hSc := hSw.cell; go_simp; try with_reducible rfl); intro hKept; (try simp only [List.getElem?_toArray, List.getElem?_cons_succ, List.getElem?_cons_zero, List.getElem_toArray, List.getElem_cons_succ, List.getElem_cons_zero, Act.put, List.setIfInBounds_toArray, List.set_cons_zero, List.set_cons_succ])
            refine till_one (i := 24) (by simp only [List.getElem?_toArray, List.getElem?_cons_succ, List.getElem?_cons_zero]; rfl) (by kernel_rfl) hKept ?_; intro K hK; rw [if_pos (by rfl)]
            go_simp
            refine hK.out _ _ (fun h => absurd rfl h) ?_
            intro _ _
            refine till_done (by kernel_rfl) ?_ _
            have HS1' := Aside.mk (HA9.out.set 13 (.slice a9 g1.Rows.length c9))
            have HA10 : Aside (Box _ w.heap.size 31 #[.int .i64 g1.W, .int .i64 g1.H, .int .i64 g1.X, .int .i64 g1.Y, .bool g1.Wrap, .int .i64 g1.A, .int .i64 g1.Top, .int .i64 g1.Bottom, .int .i64 g1.SX, .int .i64 g1.SY, .int .i64 g1.SA, .bool g1.NoWrap, .bool g1.Hidden, .slice a9 g1.Rows.length c9, .slice a6 (LB - M) c6]) := ⟨HS1'.out.1⟩
            have HZ10 := Aside.mk (HZ9.out.grown HS1'.out.2 (by simp))
            go_wp2_with (first
              | (refine atLoad 31 (.tmp 4) rfl ?_; refine wpList_load_row rfl 31 (.tmp 4) rfl w.heap.size rfl 31 _ (0, 0) _ HA10.out Try.underlying31 rfl size31 ?_)
              | (refine atStore 31 (.tmp 8) (.tmp 69) rfl ?_; refine wpList_store_box _ rfl 31 (.tmp 8) (.tmp 69) rfl (w.heap.size + 1) _ rfl rfl 31 _ HZ10.out size31 rfl rfl ?_; intro w11 hb7 hg7; have HZ11 := Aside.mk hb7; have HG11 := Aside.mk hg7; clear hg7 hb7))
            refine bodyPost_ret (results_cell_row Try.results71 _ _ (w.heap.size + 1) 31 _ (0, 0) _ rfl HZ11.out Try.underlying31 rfl size31) rfl ?_
            rw [HDX.out]
            have hQ := HQ.out
            have hE := HEQ.out
            have hD := HD.out
            have hz3 := HZX.out.lt
            have hz4 := HX4.out.size
            have hlD := upRows_length g1 T B N (by omega) (by omega)
            have ha2 : All2 (OwnC w9 (w.heap.size + 2)) [us.take T, (us.drop D).take (cr1 - D), ws, []].flatten (upRows g1 T B N) := by
              unfold upRows
              refine rows4 ((HUS.out.imp fun a b hab => hab.ext HX5.out).take T) ?_ (HW8.out.imp fun a b hab => (hab.ext ((Ext.alloc1 _ _).trans HE9.out)).mono (by simp at hz3 hz4 ⊢; omega)) ?_
              · (rw [show B + 1 - (T + N) = cr1 - D from by omega, show T + N = D from by omega]; exact ((HUS.out.imp fun a b hab => hab.ext HX5.out).drop D).take (cr1 - D))
              · (rw [List.drop_eq_nil_of_le (by omega)]; exact .nil)
            have hown : OwnR w9 (w.heap.size + 2) (.slice a9 (upRows g1 T B N).length c9) (upRows g1 T B N) := by
              refine ⟨_, ?_, ha2⟩
              rw [hlD]
              exact own_mono HO9.out (by simp at hz3 hz4 ⊢; omega)
            refine ⟨_, a9, c9, a6, c6, by simp only [hlD, HBL.out], ⟨rfl⟩, ⟨OwnR.mono (base := w.heap.size + 2) ((hown.keep HS1'.out.2 (by intro j hj hk; omega)).keep HG11.out (by intro j hj hk; omega)) (by omega)⟩, ⟨OwnR.mono (base := w.heap.size + 2) ?_ (by omega)⟩, ⟨?_⟩, ⟨?_⟩⟩
            · have h1 := ((HBX.out.ext HX5.out).keep HS1'.out.2 (by intro j hj hk; omega)).keep HG11.out (by intro j hj hk; omega)
              (try rw [HBL.out])
              exact h1
            · intro k hk hk'
              have h1 := own_base HO9.out k (by rw [hlD] at hk; exact hk)
              obtain ⟨_, h2, _⟩ := HBX.out.ex
              (try simp only [HBL.out] at hk')
              have h3 := own_lt h2 k hk'
              simp at h1 h3 hz4
              omega
            · exact ((HEX.out.trans HX5.out).of_grown HS1'.out.2 (by intro k hk; cases hk; omega)).of_grown HG11.out (by intro k hk; cases hk; omega)
        · have hcD : ¬ cr1 = D := by omega
          refine wp_region_till 24 (fun w' => Box w' w.heap.size 31 #[.int .i64 g1.W, .int .i64 g1.H, .int .i64 g1.X, .int .i64 g1.Y, .bool g1.Wrap, .int .i64 g1.A, .int .i64 g1.Top, .int .i64 g1.Bottom, .int .i64 g1.SX, .int .i64 g1.SY, .int .i64 g1.SA, .bool g1.NoWrap, .bool g1.Hidden, .slice (some ⟨k1, 0, none⟩) g1.Rows.length cr1, .slice a6 (LB - M) c6]) (by rfl) HAX.out.drew ?_
          intro hS
          refine ⟨kept_none _ rfl, fun hKept => ?_⟩
          refine till_take (i := 0) (oi := _) (v := ?_) rfl (by kernel_rfl) (by kernel_rfl) (by kernel_rfl) (by kernel_rfl) (fun _ _ _ h => h) hKept hS (Or.inl ⟨by rfl, ?_⟩) ?_; rotate_left; (intro wS hSw; have hSc := hSw.cell; go_simp; try with_reducible rfl); intro hKept; (try simp only [List.getElem?_toArray, List.getElem?_cons_succ, List.getElem?_cons_zero, List.getElem_toArray, List.getElem_cons_succ, List.getElem_cons_zero, Act.put, List.setIfInBounds_toArray, List.set_cons_zero, List.set_cons_succ])
          refine till_take (i := 1) (oi := _) (v := ?_) rfl (by kernel_rfl) (by kernel_rfl) (by kernel_rfl) (by kernel_rfl) (fun _ _ _ h => h) hKept hS (Or.inl ⟨by rfl, ?_⟩) ?_; rotate_left; (intro wS hSw; have hSc := hSw.cell; go_simp; try with_reducible rfl); intro hKept; (try simp only [List.getElem?_toArray, List.getElem?_cons_succ, List.getElem?_cons_zero, List.getElem_toArray, List.getElem_cons_succ, List.getElem_cons_zero, Act.put, List.setIfInBounds_toArray, List.set_cons_zero, List.set_cons_succ])
          refine till_take (i := 2) (oi := _) (v := ?_) rfl (by kernel_rfl) (by kernel_rfl) (by kernel_rfl) (by kernel_rfl) (fun _ _ _ h => h) hKept hS (Or.inl ⟨by rfl, ?_⟩) ?_; rotate_left; (intro wS hSw; have hSc := hSw.cell; go_simp; try with_reducible rfl); intro hKept; (try simp only [List.getElem?_toArray, List.getElem?_cons_succ, List.getElem?_cons_zero, List.getElem_toArray, List.getElem_cons_succ, List.getElem_cons_zero, Act.put, List.setIfInBounds_toArray, List.set_cons_zero, List.set_cons_succ])
          refine till_take (i := 3) (oi := _) (v := ?_) rfl (by kernel_rfl) (by kernel_rfl) (by kernel_rfl) (by kernel_rfl) (fun _ _ _ h => h) hKept hS (Or.inl ⟨by rfl, ?_⟩) ?_; rotate_left; (intro wS hSw; have hSc := hSw.cell; go_simp; try with_reducible rfl); intro hKept; (try simp only [List.getElem?_toArray, List.getElem?_cons_succ, List.getElem?_cons_zero, List.getElem_toArray, List.getElem_cons_succ, List.getElem_cons_zero, Act.put, List.setIfInBounds_toArray, List.set_cons_zero, List.set_cons_succ])
          refine till_take (i := 4) (oi := _) (v := ?_) rfl (by kernel_rfl) (by kernel_rfl) (by kernel_rfl) (by kernel_rfl) (fun _ _ _ h => h) hKept hS (Or.inl ⟨by rfl, ?_⟩) ?_; rotate_left; (intro wS hSw; have hSc := hSw.cell; go_simp; try with_reducible rfl); intro hKept; (try simp only [List.getElem?_toArray, List.getElem?_cons_succ, List.getElem?_cons_zero, List.getElem_toArray, List.getElem_cons_succ, List.getElem_cons_zero, Act.put, List.setIfInBounds_toArray, List.set_cons_zero, List.set_cons_succ])
          refine till_take (i := 5) (oi := _) (v := ?_) rfl (by kernel_rfl) (by kernel_rfl) (by kernel_rfl) (by kernel_rfl) (fun _ _ _ h => h) hKept hS (Or.inl ⟨by rfl, ?_⟩) ?_; rotate_left; (intro wS hSw; have hSc := hSw.cell; go_simp; try with_reducible rfl); intro hKept; (try simp only [List.getElem?_toArray, List.getElem?_cons_succ, List.getElem?_cons_zero, List.getElem_toArray, List.getElem_cons_succ, List.getElem_cons_zero, Act.put, List.setIfInBounds_toArray, List.set_cons_zero, List.set_cons_succ])
          refine till_take (i := 6) (oi := _) (v := ?_) rfl (by kernel_rfl) (by kernel_rfl) (by kernel_rfl) (by kernel_rfl) (fun _ _ _ h => h) hKept hS (Or.inl ⟨by rfl, ?_⟩) ?_; rotate_left; (intro wS hSw; have hSc := hSw.cell; go_simp; try with_reducible rfl); intro hKept; (try simp only [List.getElem?_toArray, List.getElem?_cons_succ, List.getElem?_cons_zero, List.getElem_toArray, List.getElem_cons_succ, List.getElem_cons_zero, Act.put, List.setIfInBounds_toArray, List.set_cons_zero, List.set_cons_succ])
          refine till_take (i := 7) (oi := _) (v := ?_) rfl (by kernel_rfl) (by kernel_rfl) (by kernel_rfl) (by kernel_rfl) (fun _ _ _ h => h) hKept hS (Or.inl ⟨by rfl, ?_⟩) ?_; rotate_left; (intro wS hSw; have hSc := hSw.cell; go_simp; try with_reducible rfl); intro hKept; (try simp only [List.getElem?_toArray, List.getElem?_cons_succ, List.getElem?_cons_zero, List.getElem_toArray, List.getElem_cons_succ, List.getElem_cons_zero, Act.put, List.setIfInBounds_toArray, List.set_cons_zero, List.set_cons_succ])
          refine till_take (i := 8) (oi := _) (v := ?_) rfl (by kernel_rfl) (by kernel_rfl) (by kernel_rfl) (by kernel_rfl) (fun _ _ _ h => h) hKept hS (Or.inl ⟨by rfl, ?_⟩) ?_; rotate_left; (intro wS hSw; have hSc := hSw.cell; go_simp; try with_reducible rfl); intro hKept; (try simp only [List.getElem?_toArray, List.getElem?_cons_succ, List.getElem?_cons_zero, List.getElem_toArray, List.getElem_cons_succ, List.getElem_cons_zero, Act.put, List.setIfInBounds_toArray, List.set_cons_zero, List.set_cons_succ])
          refine till_take (i := 9) (oi := _) (v := ?_) rfl (by kernel_rfl) (by kernel_rfl) (by kernel_rfl) (by kernel_rfl) (fun _ _ _ h => h) hKept hS (Or.inl ⟨by rfl, ?_⟩) ?_; rotate_left; (intro wS hSw; have hSc := hSw.cell; go_simp; try with_reducible rfl); intro hKept; (try simp only [List.getElem?_toArray, List.getElem?_cons_succ, List.getElem?_cons_zero, List.getElem_toArray, List.getElem_cons_succ, List.getElem_cons_zero, Act.put, List.setIfInBounds_toArray, List.set_cons_zero, List.set_cons_succ])
          refine till_take (i := 10) (oi := _) (v := ?_) rfl (by kernel_rfl) (by kernel_rfl) (by kernel_rfl) (by kernel_rfl) (fun _ _ _ h => h) hKept hS (Or.inl ⟨by rfl, ?_⟩) ?_; rotate_left; (intro wS hSw; have hSc := hSw.cell; go_simp; try with_reducible rfl); intro hKept; (try simp only [List.getElem?_toArray, List.getElem?_cons_succ, List.getElem?_cons_zero, List.getElem_toArray, List.getElem_cons_succ, List.getElem_cons_zero, Act.put, List.setIfInBounds_toArray, List.set_cons_zero, List.set_cons_succ])
          refine till_take (i := 11) (oi := _) (v := ?_) rfl (by kernel_rfl) (by kernel_rfl) (by kernel_rfl) (by kernel_rfl) (fun _ _ _ h => h) hKept hS (Or.inl ⟨by rfl, ?_⟩) ?_; rotate_left; (intro wS hSw; have hSc := hSw.cell; go_simp; try with_reducible rfl); intro hKept; (try simp only [List.getElem?_toArray, List.getElem?_cons_succ, List.getElem?_cons_zero, List.getElem_toArray, List.getElem_cons_succ, List.getElem_cons_zero, Act.put, List.setIfInBounds_toArray, List.set_cons_zero, List.set_cons_succ])
          refine till_take (i := 12) (oi := _) (v := ?_) rfl (by kernel_rfl) (by kernel_rfl) (by kernel_rfl) (by kernel_rfl) (fun _ _ _ h => h) hKept hS (Or.inl ⟨by rfl, ?_⟩) ?_; rotate_left; (intro wS hSw; have hSc := hSw.cell; go_simp; try with_reducible rfl); intro hKept; (try simp only [List.getElem?_toArray, List.getElem?_cons_succ, List.getElem?_cons_zero, List.getElem_toArray, List.getElem_cons_succ, List.getElem_cons_zero, Act.put, List.setIfInBounds_toArray, List.set_cons_zero, List.set_cons_succ])
          refine till_take (i := 13) (oi := _) (v := ?_) rfl (by kernel_rfl) (by kernel_rfl) (by kernel_rfl) (by kernel_rfl) (fun _ _ _ h => h) hKept hS (Or.inl ⟨by rfl, ?_⟩) ?_; rotate_left; (intro wS hSw; have hSc := hSw.cell; go_simp; try with_reducible rfl); intro hKept; (try simp only [List.getElem?_toArray, List.getElem?_cons_succ, List.getElem?_cons_zero, List.getElem_toArray, List.getElem_cons_succ, List.getElem_cons_zero, Act.put, List.setIfInBounds_toArray, List.set_cons_zero, List.set_cons_succ])
          refine till_take (i := 14) (oi := _) (v := ?_) rfl (by kernel_rfl) (by kernel_rfl) (by kernel_rfl) (by kernel_rfl) (fun _ _ _ h => h) hKept hS (Or.inl ⟨by rfl, ?_⟩) ?_; rotate_left; (intro wS hSw; have hSc := hSw.cell; go_simp; try with_reducible rfl); intro hKept; (try simp only [List.getElem?_toArray, List.getElem?_cons_succ, List.getElem?_cons_zero, List.getElem_toArray, List.getElem_cons_succ, List.getElem_cons_zero, Act.put, List.setIfInBounds_toArray, List.set_cons_zero, List.set_cons_succ])
          refine till_take (i := 16) (oi := _) (v := ?_) rfl (by kernel_rfl) (by kernel_rfl) (by kernel_rfl) (by kernel_rfl) (fun _ _ _ h => h) hKept hS (Or.inl ⟨by rfl, ?_⟩) ?_; rotate_left; (intro wS hSw; have hSc := hSw.cell; go_simp; try with_reducible rfl); intro hKept; (try simp only [List.getElem?_toArray, List.getElem?_cons_succ, List.getElem?_cons_zero, List.getElem_toArray, List.getElem_cons_succ, List.getElem_cons_zero, Act.put, List.setIfInBounds_toArray, List.set_cons_zero, List.set_cons_succ])
          refine till_take (i := 17) (oi := _) (v := ?_) rfl (by kernel_rfl) (by kernel_rfl) (by kernel_rfl) (by kernel_rfl) (fun _ _ _ h => h) hKept hS (Or.inl ⟨by rfl, ?_⟩) ?_; rotate_left; (intro wS hSw; have hSc := hSw.cell; go_simp; try with_reducible rfl); intro hKept; (try simp only [List.getElem?_toArray, List.getElem?_cons_succ, List.getElem?_cons_zero, List.getElem_toArray, List.getElem_cons_succ, List.getElem_cons_zero, Act.put, List.setIfInBounds_toArray, List.set_cons_zero, List.set_cons_succ])
          refine till_take (i := 18) (oi := _) (v := ?_) rfl (by kernel_rfl) (by kernel_rfl) (by kernel_rfl) (by kernel_rfl) (fun _ _ _ h => h) hKept hS (Or.inl ⟨by rfl, ?_⟩) ?_; rotate_left; (intro wS hSw; have hSc := hSw.cell; go_simp; try with_reducible rfl); intro hKept; (try simp only [List.getElem?_toArray, List.getElem?_cons_succ, List.getElem?_cons_zero, List.getElem_toArray, List.getElem_cons_succ, List.getElem_cons_zero, Act.put, List.setIfInBounds_toArray, List.set_cons_zero, List.set_cons_succ])
          refine till_take (i := 19) (oi := _) (v := ?_) rfl (by kernel_rfl) (by kernel_rfl) (by kernel_rfl) (by kernel_rfl) (fun _ _ _ h => h) hKept hS (Or.inl ⟨by rfl, ?_⟩) ?_; rotate_left; (intro wS hSw; have hSc := hSw.cell; go_simp; try with_reducible rfl); intro hKept; (try simp only [List.getElem?_toArray, List.getElem?_cons_succ, List.getElem?_cons_zero, List.getElem_toArray, List.getElem_cons_succ, List.getElem_cons_zero, Act.put, List.setIfInBounds_toArray, List.set_cons_zero, List.set_cons_succ])
          refine till_take (i := 20) (oi := _) (v := ?_) rfl (by kernel_rfl) (by kernel_rfl) (by kernel_rfl) (by kernel_rfl) (fun _ _ _ h => h) hKept hS (Or.inl ⟨by rfl, ?_⟩) ?_; rotate_left; (intro wS hSw; have hSc := hSw.cell; go_simp; try with_reducible rfl); intro hKept; (try simp only [List.getElem?_toArray, List.getElem?_cons_succ, List.getElem?_cons_zero, List.getElem_toArray, List.getElem_cons_succ, List.getElem_cons_zero, Act.put, List.setIfInBounds_toArray, List.set_cons_zero, List.set_cons_succ])
          refine till_one (i := 15) (by simp only [List.getElem?_toArray, List.getElem?_cons_succ, List.getElem?_cons_zero]; rfl) (by kernel_rfl) hKept ?_; intro K hK; rw [if_pos (by rfl)]
          go_simp
          refine (blanks_nat g1.W N _ (by omega)).mono ?_
          rintro e w8 ⟨a4, c4, ws, rfl, ho4, hw4, he4⟩
          have HO8 := Aside.mk ho4
          have HW8 := Aside.mk hw4
          have HA8 := Aside.mk (HAX.out.drew.ext he4)
          have HZ8 := Aside.mk (HZX.out.drew.ext he4)
          have HX4 := Aside.mk (((Ext.refl _).drew).trans he4)
          have HY8 := Aside.mk (HEX.out.drew.trans he4)
          clear ho4 hw4 he4 hcx hfx
          refine hK.out _ _ (fun _ => HA8.out) ?_; clear hS; intro hS hKept; replace hS := hS (by decide); (try simp only [List.getElem?_toArray, List.getElem?_cons_succ, List.getElem?_cons_zero, List.getElem_toArray, List.getElem_cons_succ, List.getElem_cons_zero, Act.put, List.setIfInBounds_toArray, List.set_cons_zero, List.set_cons_succ])
          refine till_one (i := 21) (by simp only [List.getElem?_toArray, List.getElem?_cons_succ, List.getElem?_cons_zero]; rfl) (by kernel_rfl) hKept ?_; intro K hK; rw [if_pos (by rfl)]
          go_simp
          refine hK.out _ _ (fun _ => HA8.out.alloc _) ?_; clear hS; intro hS hKept; replace hS := hS (by decide); (try simp only [List.getElem?_toArray, List.getElem?_cons_succ, List.getElem?_cons_zero, List.getElem_toArray, List.getElem_cons_succ, List.getElem_cons_zero, Act.put, List.setIfInBounds_toArray, List.set_cons_zero, List.set_cons_succ])
          refine till_one (i := 22) (by simp only [List.getElem?_toArray, List.getElem?_cons_succ, List.getElem?_cons_zero]; rfl) (by kernel_rfl) hKept ?_; intro K hK; rw [if_pos (by rfl)]
          go_simp
          refine (concat_at _ _ [_, _, _, _] [us.take T, (us.drop D).take (Q - D), ws, us.drop Q] _ 4 g1.Rows.length _ rfl rfl (by have h1 := HU1.out.len; have h2 := HO8.out.1; have h3 := HU2.out.len; have h4 := HSU.out; have h5 := HU3.out.len; simp only [List.flatten_cons, List.flatten_nil, List.length_append, List.length_nil, h1, h2, h3]; omega) (Holds.newN _ _ 1 4 [_, _, _, _] rfl (by omega) (by intro u hu; simp only [List.mem_cons, List.not_mem_nil, or_false] at hu; rcases hu with rfl | rfl | rfl | rfl <;> rfl)) (.cons (HU1.out.ext (HX4.out.alloc _)).self (.cons (HU2.out.ext (HX4.out.alloc _)).self (.cons (Holds.of_own HO8.out (all2_one (fun a b hab => hab.oneCell) HW8.out) |>.ext (Ext.alloc1 _ _)).self (.cons (HU3.out.ext (HX4.out.alloc _)).self .nil)))) (by omega) (by omega)).mono ?_
          rintro e w9 ⟨a9, c9, rfl, ho5, he5⟩
          have HO9 := Aside.mk ho5
          have HX5 := Aside.mk ((HX4.out.alloc _).trans he5)
          have HA9 := Aside.mk ((HA8.out.alloc _).ext he5)
          have HZ9 := Aside.mk ((HZ8.out.alloc _).ext he5)
          have HE9 := Aside.mk he5
          clear ho5 he5
          obtain ⟨hc9, hf9⟩ := HA9.out.rules
          refine hK.out _ _ (fun _ => HA9.out) ?_; clear hS; intro hS hKept; replace hS := hS (by decide); (try simp only [List.getElem?_toArray, List.getElem?_cons_succ, List.getElem?_cons_zero, List.getElem_toArray, List.getElem_cons_succ, List.getElem_cons_zero, Act.put, List.setIfInBounds_toArray, List.set_cons_zero, List.set_cons_succ])
          refine till_take (i := 23) (oi := _) (v := ?_) rfl (by kernel_rfl) (by kernel_rfl) (by kernel_rfl) (by kernel_rfl) (fun _ _ _ h => h) hKept hS (Or.inl ⟨by rfl, ?_⟩) ?_; rotate_left; (intro wS hSw; have hSc := hSw.cell; go_simp; try with_reducible rfl); intro hKept; (try simp only [List.getElem?_toArray, List.getElem?_cons_succ, List.getElem?_cons_zero, List.getElem_toArray, List.getElem_cons_succ, List.getElem_cons_zero, Act.put, List.setIfInBounds_toArray, List.set_cons_zero, List.set_cons_succ])
          refine till_one (i := 24) (by simp only [List.getElem?_toArray, List.getElem?_cons_succ, List.getElem?_cons_zero]; rfl) (by kernel_rfl) hKept ?_; intro K hK; rw [if_pos (by rfl)]
          go_simp
          refine hK.out _ _ (fun h => absurd rfl h) ?_
          intro _ _
          refine till_done (by kernel_rfl) ?_ _
          have HS1' := Aside.mk (HA9.out.set 13 (.slice a9 g1.Rows.length c9))
          have HA10 : Aside (Box _ w.heap.size 31 #[.int .i64 g1.W, .int .i64 g1.H, .int .i64 g1.X, .int .i64 g1.Y, .bool g1.Wrap, .int .i64 g1.A, .int .i64 g1.Top, .int .i64 g1.Bottom, .int .i64 g1.SX, .int .i64 g1.SY, .int .i64 g1.SA, .bool g1.NoWrap, .bool g1.Hidden, .slice a9 g1.Rows.length c9, .slice a6 (LB - M) c6]) := ⟨HS1'.out.1⟩
          have HZ10 := Aside.mk (HZ9.out.grown HS1'.out.2 (by simp))
          go_wp2_with (first
            | (refine atLoad 31 (.tmp 4) rfl ?_; refine wpList_load_row rfl 31 (.tmp 4) rfl w.heap.size rfl 31 _ (0, 0) _ HA10.out Try.underlying31 rfl size31 ?_)
            | (refine atStore 31 (.tmp 8) (.tmp 69) rfl ?_; refine wpList_store_box _ rfl 31 (.tmp 8) (.tmp 69) rfl (w.heap.size + 1) _ rfl rfl 31 _ HZ10.out size31 rfl rfl ?_; intro w11 hb7 hg7; have HZ11 := Aside.mk hb7; have HG11 := Aside.mk hg7; clear hg7 hb7))
          refine bodyPost_ret (results_cell_row Try.results71 _ _ (w.heap.size + 1) 31 _ (0, 0) _ rfl HZ11.out Try.underlying31 rfl size31) rfl ?_
          rw [HDX.out]
          have hQ := HQ.out
          have hE := HEQ.out
          have hD := HD.out
          have hz3 := HZX.out.lt
          have hz4 := HX4.out.size
          have hlD := upRows_length g1 T B N (by omega) (by omega)
          have ha2 : All2 (OwnC w9 (w.heap.size + 2)) [us.take T, (us.drop D).take (Q - D), ws, us.drop Q].flatten (upRows g1 T B N) := by
            unfold upRows
            refine rows4 ((HUS.out.imp fun a b hab => hab.ext HX5.out).take T) ?_ (HW8.out.imp fun a b hab => (hab.ext ((Ext.alloc1 _ _).trans HE9.out)).mono (by simp at hz3 hz4 ⊢; omega)) ?_
            · (rw [show B + 1 - (T + N) = Q - D from by omega, show T + N = D from by omega]; exact ((HUS.out.imp fun a b hab => hab.ext HX5.out).drop D).take (Q - D))
            · (rw [show B + 1 = Q from by omega]; exact (HUS.out.imp fun a b hab => hab.ext HX5.out).drop Q)
          have hown : OwnR w9 (w.heap.size + 2) (.slice a9 (upRows g1 T B N).length c9) (upRows g1 T B N) := by
            refine ⟨_, ?_, ha2⟩
            rw [hlD]
            exact own_mono HO9.out (by simp at hz3 hz4 ⊢; omega)
          refine ⟨_, a9, c9, a6, c6, by simp only [hlD, HBL.out], ⟨rfl⟩, ⟨OwnR.mono (base := w.heap.size + 2) ((hown.keep HS1'.out.2 (by intro j hj hk; omega)).keep HG11.out (by intro j hj hk; omega)) (by omega)⟩, ⟨OwnR.mono (base := w.heap.size + 2) ?_ (by omega)⟩, ⟨?_⟩, ⟨?_⟩⟩
          · have h1 := ((HBX.out.ext HX5.out).keep HS1'.out.2 (by intro j hj hk; omega)).keep HG11.out (by intro j hj hk; omega)
            (try rw [HBL.out])
            exact h1
          · intro k hk hk'
            have h1 := own_base HO9.out k (by rw [hlD] at hk; exact hk)
            obtain ⟨_, h2, _⟩ := HBX.out.ex
            (try simp only [HBL.out] at hk')
            have h3 := own_lt h2 k hk'
            simp at h1 h3 hz4
            omega
          · exact ((HEX.out.trans HX5.out).of_grown HS1'.out.2 (by intro k hk; cases hk; omega)).of_grown HG11.out (by intro k hk; cases hk; omega)
    · have hTd1 : ((T : Int) == 0) = false := by simp [hTz]
      have HTZ := Aside.mk hTz
      clear hTz
      go_enter Try.func71, Try.ntmps71
      go_wp2_with (first
        | (refine atLoad 31 (.tmp 4) rfl ?_; refine wpList_load_row rfl 31 (.tmp 4) rfl w.heap.size rfl 31 #[.int .i64 g.W, .int .i64 g.H, .int .i64 g.X, .int .i64 g.Y, .bool g.Wrap, .int .i64 g.A, .int .i64 g.Top, .int .i64 g.Bottom, .int .i64 g.SX, .int .i64 g.SY, .int .i64 g.SA, .bool g.NoWrap, .bool g.Hidden, .slice ar g.Rows.length cr, .slice ab g.Back.length cb] (0, 0) _ HA.out Try.underlying31 rfl size31 ?_)
        | (go_at_call 33; refine (Still_any g _ _ _ _ _ (HR.out.ext HW.out) (HB.out.ext HW.out) hsr hsb).mono ?_; rintro e w1 ⟨g1, ar1, cr1, ab1, cb1, rfl, hg1, HO1, HP1, HN1, HE1⟩; obtain ⟨rfl⟩ := hg1; have HA1 := Aside.mk (HA.out.ext HE1.out); have HZ1 := Aside.mk (HZ.out.ext HE1.out))
        | (refine atStore 31 (.tmp 4) (.tmp 11) rfl ?_; refine wpList_store_box _ rfl 31 (.tmp 4) (.tmp 11) rfl w.heap.size _ rfl rfl 31 _ HA1.out size31 rfl rfl ?_; intro w2 ha2 hg2; have HA2 := Aside.mk ha2; have HG2 := Aside.mk hg2; have HZ2 := Aside.mk (HZ1.out.grown hg2 (by simp)); clear hg2 ha2)
        | (refine atLoad 31 (.tmp 4) rfl ?_; refine wpList_load_row rfl 31 (.tmp 4) rfl w.heap.size rfl 31 #[.int .i64 g1.W, .int .i64 g1.H, .int .i64 g1.X, .int .i64 g1.Y, .bool g1.Wrap, .int .i64 g1.A, .int .i64 g1.Top, .int .i64 g1.Bottom, .int .i64 g1.SX, .int .i64 g1.SY, .int .i64 g1.SA, .bool g1.NoWrap, .bool g1.Hidden, .slice ar1 g1.Rows.length cr1, .slice ab1 g1.Back.length cb1] (0, 0) _ HA2.out Try.underlying31 rfl size31 ?_)
        | (go_at_call 114; refine (part_eq g1 _ _ _ _ _ _ T B _ _ _ hW hH (by omega) HTT.out HBB.out HK.out HOK.out).mono ?_; rintro e w3 ⟨rfl, he3⟩; have HE3 := Aside.mk he3; have HA3 := Aside.mk (HA2.out.ext he3); have HZ3 := Aside.mk (HZ2.out.ext he3); clear he3)
        | (refine atLoad 31 (.tmp 4) rfl ?_; refine wpList_load_row rfl 31 (.tmp 4) rfl w.heap.size rfl 31 #[.int .i64 g1.W, .int .i64 g1.H, .int .i64 g1.X, .int .i64 g1.Y, .bool g1.Wrap, .int .i64 g1.A, .int .i64 g1.Top, .int .i64 g1.Bottom, .int .i64 g1.SX, .int .i64 g1.SY, .int .i64 g1.SA, .bool g1.NoWrap, .bool g1.Hidden, .slice ar1 g1.Rows.length cr1, .slice ab1 g1.Back.length cb1] (0, 0) _ HA3.out Try.underlying31 rfl size31 ?_)
        | (refine atStore 31 (.tmp 8) (.tmp 24) rfl ?_; refine wpList_store_box _ rfl 31 (.tmp 8) (.tmp 24) rfl (w.heap.size + 1) _ rfl rfl 31 _ HZ3.out size31 rfl rfl ?_; intro w4 hb4 hg4; have HZ4 := Aside.mk hb4; have HG4 := Aside.mk hg4; clear hg4 hb4))
      have hcap : g1.Rows.length ≤ cr1 := by obtain ⟨_, _, hv, hle, _⟩ := HO1.out.at_.slice; injection hv with _ _ e3; omega
      have hQc : (Q : Int) ≤ (cr1 : Int) := by omega
      have hEc : (E : Int) ≤ (cr1 : Int) := by omega
      have hTc : (T : Int) ≤ (cr1 : Int) := by omega
      have hcT : ¬ (cr1 = T) := by omega
      have hst : ((w.alloc (.cells #[.int .i64 g1.W, .int .i64 g1.H, .int .i64 g1.X, .int .i64 g1.Y, .bool g1.Wrap, .int .i64 g1.A, .int .i64 g1.Top, .int .i64 g1.Bottom, .int .i64 g1.SX, .int .i64 g1.SY, .int .i64 g1.SA, .bool g1.NoWrap, .bool g1.Hidden, .slice ar g1.Rows.length cr, .slice ab g1.Back.length cb] 31)).alloc (.cells #[.int .i64 0, .int .i64 0, .int .i64 0, .int .i64 0, .bool false, .int .i64 0, .int .i64 0, .int .i64 0, .int .i64 0, .int .i64 0, .int .i64 0, .bool false, .bool false, .slice none 0 0, .slice none 0 0] 31)).heap.size = w.heap.size + 2 := by simp
      rw [hst] at HO1 HP1
      obtain ⟨k1, hk0, hk1, hk2⟩ := HO1.out.head (by omega)
      subst hk0
      have HO3 := Aside.mk ((HO1.out.keep HG2.out (by intro j hj hk; omega)).ext HE3.out)
      have HP3 := Aside.mk ((HP1.out.keep HG2.out (by intro j hj hk; omega)).ext HE3.out)
      have HE3 := Aside.mk (((HW.out.trans HE1.out).of_grown HG2.out (by intro k hk; cases hk; omega)).trans HE3.out)
      obtain ⟨vs, hv1, hv2⟩ := HO3.out.ex
      have hv3 := Holds.of_own hv1 (all2_one (fun a b hab => hab.oneCell) hv2)
      have HVW := Aside.mk hv3
      have HV1 := Aside.mk (pieceLow hv3 T (by omega))
      have HV2 := Aside.mk (pieceMid hv3 T (E - T) (by omega))
      have HV3 := Aside.mk (pieceHigh hv3 Q (by omega))
      have HVS := Aside.mk hv2
      clear hv1 hv2 hv3
      obtain ⟨hc3, hf3⟩ := HA3.out.rules
      have HBX := HP3
      have HAX := HA3
      have HZX := HZ3
      have HRX := HO3
      have HEX := HE3
      have HDX : Aside (upG g1 top bottom n = { g1 with Rows := upRows g1 T B N, Back := g1.Back }) := ⟨by rw [HDN.out, if_neg HTZ.out]⟩
      have hcx := hc3
      have hfx := hf3
      clear hc3 hf3
      have HBL : Aside (g1.Back.length = g1.Back.length) := ⟨rfl⟩
      generalize (.agg #[.int .i64 g1.W, .int .i64 g1.H, .int .i64 g1.X, .int .i64 g1.Y, .bool g1.Wrap, .int .i64 g1.A, .int .i64 g1.Top, .int .i64 g1.Bottom, .int .i64 g1.SX, .int .i64 g1.SY, .int .i64 g1.SA, .bool g1.NoWrap, .bool g1.Hidden, .slice ar g1.Rows.length cr, .slice ab g1.Back.length cb] : Value) = G0
      generalize (.agg #[.int .i64 g1.W, .int .i64 g1.H, .int .i64 g1.X, .int .i64 g1.Y, .bool g1.Wrap, .int .i64 g1.A, .int .i64 g1.Top, .int .i64 g1.Bottom, .int .i64 g1.SX, .int .i64 g1.SY, .int .i64 g1.SA, .bool g1.NoWrap, .bool g1.Hidden, .slice (some ⟨k1, 0, none⟩) g1.Rows.length cr1, .slice ab1 g1.Back.length cb1] : Value) = G1
      obtain ⟨D, hD⟩ : ∃ D, D = T + N := ⟨_, rfl⟩
      have hwD : IntKind.i64.wrap ((T : Int) + (N : Int)) = (D : Int) := by rw [hD]; rw [IntWalk.i64_in _ (by omega)]; omega
      have hD0 : (0 : Int) ≤ (D : Int) := by omega
      have hDQ : (D : Int) ≤ (Q : Int) := by omega
      have hDc : (D : Int) ≤ (cr1 : Int) := by omega
      have hDs : D + (Q - D) = Q := by omega
      have HSU := Aside.mk (show T + ((Q - D) + (N + (g1.Rows.length - Q))) = g1.Rows.length from by omega)
      have HD := Aside.mk hD
      clear hD
      obtain ⟨us, hv1, hv2⟩ := HRX.out.ex
      have hv3 := Holds.of_own hv1 (all2_one (fun a b hab => hab.oneCell) hv2)
      have HU1 := Aside.mk (pieceLow hv3 T (by omega))
      have HU2 := Aside.mk (pieceMid hv3 D (Q - D) (by omega))
      have HU3 := Aside.mk (pieceHigh hv3 Q (by omega))
      have HUS := Aside.mk hv2
      clear hv1 hv2 hv3
      by_cases hcQ : cr1 = Q
      · subst hcQ
        by_cases hcD : cr1 = D
        · subst hcD
          refine wp_region_till 24 (fun w' => Box w' w.heap.size 31 #[.int .i64 g1.W, .int .i64 g1.H, .int .i64 g1.X, .int .i64 g1.Y, .bool g1.Wrap, .int .i64 g1.A, .int .i64 g1.Top, .int .i64 g1.Bottom, .int .i64 g1.SX, .int .i64 g1.SY, .int .i64 g1.SA, .bool g1.NoWrap, .bool g1.Hidden, .slice (some ⟨k1, 0, none⟩) g1.Rows.length cr1, .slice ab1 g1.Back.length cb1]) (by rfl) HAX.out.drew ?_
          intro hS
          refine ⟨kept_none _ rfl, fun hKept => ?_⟩
          refine till_take (i := 0) (oi := _) (v := ?_) rfl (by kernel_rfl) (by kernel_rfl) (by kernel_rfl) (by kernel_rfl) (fun _ _ _ h => h) hKept hS (Or.inl ⟨by rfl, ?_⟩) ?_; rotate_left; (intro wS hSw; have hSc := hSw.cell; go_simp; try with_reducible rfl); intro hKept; (try simp only [List.getElem?_toArray, List.getElem?_cons_succ, List.getElem?_cons_zero, List.getElem_toArray, List.getElem_cons_succ, List.getElem_cons_zero, Act.put, List.setIfInBounds_toArray, List.set_cons_zero, List.set_cons_succ])
          refine till_take (i := 1) (oi := _) (v := ?_) rfl (by kernel_rfl) (by kernel_rfl) (by kernel_rfl) (by kernel_rfl) (fun _ _ _ h => h) hKept hS (Or.inl ⟨by rfl, ?_⟩) ?_; rotate_left; (intro wS hSw; have hSc := hSw.cell; go_simp; try with_reducible rfl); intro hKept; (try simp only [List.getElem?_toArray, List.getElem?_cons_succ, List.getElem?_cons_zero, List.getElem_toArray, List.getElem_cons_succ, List.getElem_cons_zero, Act.put, List.setIfInBounds_toArray, List.set_cons_zero, List.set_cons_succ])
          refine till_take (i := 2) (oi := _) (v := ?_) rfl (by kernel_rfl) (by kernel_rfl) (by kernel_rfl) (by kernel_rfl) (fun _ _ _ h => h) hKept hS (Or.inl ⟨by rfl, ?_⟩) ?_; rotate_left; (intro wS hSw; have hSc := hSw.cell; go_simp; try with_reducible rfl); intro hKept; (try simp only [List.getElem?_toArray, List.getElem?_cons_succ, List.getElem?_cons_zero, List.getElem_toArray, List.getElem_cons_succ, List.getElem_cons_zero, Act.put, List.setIfInBounds_toArray, List.set_cons_zero, List.set_cons_succ])
          refine till_take (i := 3) (oi := _) (v := ?_) rfl (by kernel_rfl) (by kernel_rfl) (by kernel_rfl) (by kernel_rfl) (fun _ _ _ h => h) hKept hS (Or.inl ⟨by rfl, ?_⟩) ?_; rotate_left; (intro wS hSw; have hSc := hSw.cell; go_simp; try with_reducible rfl); intro hKept; (try simp only [List.getElem?_toArray, List.getElem?_cons_succ, List.getElem?_cons_zero, List.getElem_toArray, List.getElem_cons_succ, List.getElem_cons_zero, Act.put, List.setIfInBounds_toArray, List.set_cons_zero, List.set_cons_succ])
          refine till_take (i := 4) (oi := _) (v := ?_) rfl (by kernel_rfl) (by kernel_rfl) (by kernel_rfl) (by kernel_rfl) (fun _ _ _ h => h) hKept hS (Or.inl ⟨by rfl, ?_⟩) ?_; rotate_left; (intro wS hSw; have hSc := hSw.cell; go_simp; try with_reducible rfl); intro hKept; (try simp only [List.getElem?_toArray, List.getElem?_cons_succ, List.getElem?_cons_zero, List.getElem_toArray, List.getElem_cons_succ, List.getElem_cons_zero, Act.put, List.setIfInBounds_toArray, List.set_cons_zero, List.set_cons_succ])
          refine till_take (i := 5) (oi := _) (v := ?_) rfl (by kernel_rfl) (by kernel_rfl) (by kernel_rfl) (by kernel_rfl) (fun _ _ _ h => h) hKept hS (Or.inl ⟨by rfl, ?_⟩) ?_; rotate_left; (intro wS hSw; have hSc := hSw.cell; go_simp; try with_reducible rfl); intro hKept; (try simp only [List.getElem?_toArray, List.getElem?_cons_succ, List.getElem?_cons_zero, List.getElem_toArray, List.getElem_cons_succ, List.getElem_cons_zero, Act.put, List.setIfInBounds_toArray, List.set_cons_zero, List.set_cons_succ])
          refine till_take (i := 6) (oi := _) (v := ?_) rfl (by kernel_rfl) (by kernel_rfl) (by kernel_rfl) (by kernel_rfl) (fun _ _ _ h => h) hKept hS (Or.inl ⟨by rfl, ?_⟩) ?_; rotate_left; (intro wS hSw; have hSc := hSw.cell; go_simp; try with_reducible rfl); intro hKept; (try simp only [List.getElem?_toArray, List.getElem?_cons_succ, List.getElem?_cons_zero, List.getElem_toArray, List.getElem_cons_succ, List.getElem_cons_zero, Act.put, List.setIfInBounds_toArray, List.set_cons_zero, List.set_cons_succ])
          refine till_take (i := 7) (oi := _) (v := ?_) rfl (by kernel_rfl) (by kernel_rfl) (by kernel_rfl) (by kernel_rfl) (fun _ _ _ h => h) hKept hS (Or.inl ⟨by rfl, ?_⟩) ?_; rotate_left; (intro wS hSw; have hSc := hSw.cell; go_simp; try with_reducible rfl); intro hKept; (try simp only [List.getElem?_toArray, List.getElem?_cons_succ, List.getElem?_cons_zero, List.getElem_toArray, List.getElem_cons_succ, List.getElem_cons_zero, Act.put, List.setIfInBounds_toArray, List.set_cons_zero, List.set_cons_succ])
          refine till_take (i := 8) (oi := _) (v := ?_) rfl (by kernel_rfl) (by kernel_rfl) (by kernel_rfl) (by kernel_rfl) (fun _ _ _ h => h) hKept hS (Or.inl ⟨by rfl, ?_⟩) ?_; rotate_left; (intro wS hSw; have hSc := hSw.cell; go_simp; try with_reducible rfl); intro hKept; (try simp only [List.getElem?_toArray, List.getElem?_cons_succ, List.getElem?_cons_zero, List.getElem_toArray, List.getElem_cons_succ, List.getElem_cons_zero, Act.put, List.setIfInBounds_toArray, List.set_cons_zero, List.set_cons_succ])
          refine till_take (i := 9) (oi := _) (v := ?_) rfl (by kernel_rfl) (by kernel_rfl) (by kernel_rfl) (by kernel_rfl) (fun _ _ _ h => h) hKept hS (Or.inl ⟨by rfl, ?_⟩) ?_; rotate_left; (intro wS hSw; have hSc := hSw.cell; go_simp; try with_reducible rfl); intro hKept; (try simp only [List.getElem?_toArray, List.getElem?_cons_succ, List.getElem?_cons_zero, List.getElem_toArray, List.getElem_cons_succ, List.getElem_cons_zero, Act.put, List.setIfInBounds_toArray, List.set_cons_zero, List.set_cons_succ])
          refine till_take (i := 10) (oi := _) (v := ?_) rfl (by kernel_rfl) (by kernel_rfl) (by kernel_rfl) (by kernel_rfl) (fun _ _ _ h => h) hKept hS (Or.inl ⟨by rfl, ?_⟩) ?_; rotate_left; (intro wS hSw; have hSc := hSw.cell; go_simp; try with_reducible rfl); intro hKept; (try simp only [List.getElem?_toArray, List.getElem?_cons_succ, List.getElem?_cons_zero, List.getElem_toArray, List.getElem_cons_succ, List.getElem_cons_zero, Act.put, List.setIfInBounds_toArray, List.set_cons_zero, List.set_cons_succ])
          refine till_take (i := 11) (oi := _) (v := ?_) rfl (by kernel_rfl) (by kernel_rfl) (by kernel_rfl) (by kernel_rfl) (fun _ _ _ h => h) hKept hS (Or.inl ⟨by rfl, ?_⟩) ?_; rotate_left; (intro wS hSw; have hSc := hSw.cell; go_simp; try with_reducible rfl); intro hKept; (try simp only [List.getElem?_toArray, List.getElem?_cons_succ, List.getElem?_cons_zero, List.getElem_toArray, List.getElem_cons_succ, List.getElem_cons_zero, Act.put, List.setIfInBounds_toArray, List.set_cons_zero, List.set_cons_succ])
          refine till_take (i := 12) (oi := _) (v := ?_) rfl (by kernel_rfl) (by kernel_rfl) (by kernel_rfl) (by kernel_rfl) (fun _ _ _ h => h) hKept hS (Or.inl ⟨by rfl, ?_⟩) ?_; rotate_left; (intro wS hSw; have hSc := hSw.cell; go_simp; try with_reducible rfl); intro hKept; (try simp only [List.getElem?_toArray, List.getElem?_cons_succ, List.getElem?_cons_zero, List.getElem_toArray, List.getElem_cons_succ, List.getElem_cons_zero, Act.put, List.setIfInBounds_toArray, List.set_cons_zero, List.set_cons_succ])
          refine till_take (i := 13) (oi := _) (v := ?_) rfl (by kernel_rfl) (by kernel_rfl) (by kernel_rfl) (by kernel_rfl) (fun _ _ _ h => h) hKept hS (Or.inl ⟨by rfl, ?_⟩) ?_; rotate_left; (intro wS hSw; have hSc := hSw.cell; go_simp; try with_reducible rfl); intro hKept; (try simp only [List.getElem?_toArray, List.getElem?_cons_succ, List.getElem?_cons_zero, List.getElem_toArray, List.getElem_cons_succ, List.getElem_cons_zero, Act.put, List.setIfInBounds_toArray, List.set_cons_zero, List.set_cons_succ])
          refine till_take (i := 14) (oi := _) (v := ?_) rfl (by kernel_rfl) (by kernel_rfl) (by kernel_rfl) (by kernel_rfl) (fun _ _ _ h => h) hKept hS (Or.inl ⟨by rfl, ?_⟩) ?_; rotate_left; (intro wS hSw; have hSc := hSw.cell; go_simp; try with_reducible rfl); intro hKept; (try simp only [List.getElem?_toArray, List.getElem?_cons_succ, List.getElem?_cons_zero, List.getElem_toArray, List.getElem_cons_succ, List.getElem_cons_zero, Act.put, List.setIfInBounds_toArray, List.set_cons_zero, List.set_cons_succ])
          refine till_take (i := 16) (oi := _) (v := ?_) rfl (by kernel_rfl) (by kernel_rfl) (by kernel_rfl) (by kernel_rfl) (fun _ _ _ h => h) hKept hS (Or.inl ⟨by rfl, ?_⟩) ?_; rotate_left; (intro wS hSw; have hSc := hSw.cell; go_simp; try with_reducible rfl); intro hKept; (try simp only [List.getElem?_toArray, List.getElem?_cons_succ, List.getElem?_cons_zero, List.getElem_toArray, List.getElem_cons_succ, List.getElem_cons_zero, Act.put, List.setIfInBounds_toArray, List.set_cons_zero, List.set_cons_succ])
          refine till_take (i := 17) (oi := _) (v := ?_) rfl (by kernel_rfl) (by kernel_rfl) (by kernel_rfl) (by kernel_rfl) (fun _ _ _ h => h) hKept hS (Or.inl ⟨by rfl, ?_⟩) ?_; rotate_left; (intro wS hSw; have hSc := hSw.cell; go_simp; try with_reducible rfl); intro hKept; (try simp only [List.getElem?_toArray, List.getElem?_cons_succ, List.getElem?_cons_zero, List.getElem_toArray, List.getElem_cons_succ, List.getElem_cons_zero, Act.put, List.setIfInBounds_toArray, List.set_cons_zero, List.set_cons_succ])
          refine till_take (i := 18) (oi := _) (v := ?_) rfl (by kernel_rfl) (by kernel_rfl) (by kernel_rfl) (by kernel_rfl) (fun _ _ _ h => h) hKept hS (Or.inl ⟨by rfl, ?_⟩) ?_; rotate_left; (intro wS hSw; have hSc := hSw.cell; go_simp; try with_reducible rfl); intro hKept; (try simp only [List.getElem?_toArray, List.getElem?_cons_succ, List.getElem?_cons_zero, List.getElem_toArray, List.getElem_cons_succ, List.getElem_cons_zero, Act.put, List.setIfInBounds_toArray, List.set_cons_zero, List.set_cons_succ])
          refine till_take (i := 19) (oi := _) (v := ?_) rfl (by kernel_rfl) (by kernel_rfl) (by kernel_rfl) (by kernel_rfl) (fun _ _ _ h => h) hKept hS (Or.inl ⟨by rfl, ?_⟩) ?_; rotate_left; (intro wS hSw; have hSc := hSw.cell; go_simp; try with_reducible rfl); intro hKept; (try simp only [List.getElem?_toArray, List.getElem?_cons_succ, List.getElem?_cons_zero, List.getElem_toArray, List.getElem_cons_succ, List.getElem_cons_zero, Act.put, List.setIfInBounds_toArray, List.set_cons_zero, List.set_cons_succ])
          refine till_take (i := 20) (oi := _) (v := ?_) rfl (by kernel_rfl) (by kernel_rfl) (by kernel_rfl) (by kernel_rfl) (fun _ _ _ h => h) hKept hS (Or.inl ⟨by rfl, ?_⟩) ?_; rotate_left; (intro wS hSw; have hSc := hSw.cell; go_simp; try with_reducible rfl); intro hKept; (try simp only [List.getElem?_toArray, List.getElem?_cons_succ, List.getElem?_cons_zero, List.getElem_toArray, List.getElem_cons_succ, List.getElem_cons_zero, Act.put, List.setIfInBounds_toArray, List.set_cons_zero, List.set_cons_succ])
          refine till_one (i := 15) (by simp only [List.getElem?_toArray, List.getElem?_cons_succ, List.getElem?_cons_zero]; rfl) (by kernel_rfl) hKept ?_; intro K hK; rw [if_pos (by rfl)]
          go_simp
          refine (blanks_nat g1.W N _ (by omega)).mono ?_
          rintro e w8 ⟨a4, c4, ws, rfl, ho4, hw4, he4⟩
          have HO8 := Aside.mk ho4
          have HW8 := Aside.mk hw4
          have HA8 := Aside.mk (HAX.out.drew.ext he4)
          have HZ8 := Aside.mk (HZX.out.drew.ext he4)
          have HX4 := Aside.mk (((Ext.refl _).drew).trans he4)
          have HY8 := Aside.mk (HEX.out.drew.trans he4)
          clear ho4 hw4 he4 hcx hfx
          refine hK.out _ _ (fun _ => HA8.out) ?_; clear hS; intro hS hKept; replace hS := hS (by decide); (try simp only [List.getElem?_toArray, List.getElem?_cons_succ, List.getElem?_cons_zero, List.getElem_toArray, List.getElem_cons_succ, List.getElem_cons_zero, Act.put, List.setIfInBounds_toArray, List.set_cons_zero, List.set_cons_succ])
          refine till_one (i := 21) (by simp only [List.getElem?_toArray, List.getElem?_cons_succ, List.getElem?_cons_zero]; rfl) (by kernel_rfl) hKept ?_; intro K hK; rw [if_pos (by rfl)]
          go_simp
          refine hK.out _ _ (fun _ => HA8.out.alloc _) ?_; clear hS; intro hS hKept; replace hS := hS (by decide); (try simp only [List.getElem?_toArray, List.getElem?_cons_succ, List.getElem?_cons_zero, List.getElem_toArray, List.getElem_cons_succ, List.getElem_cons_zero, Act.put, List.setIfInBounds_toArray, List.set_cons_zero, List.set_cons_succ])
          refine till_one (i := 22) (by simp only [List.getElem?_toArray, List.getElem?_cons_succ, List.getElem?_cons_zero]; rfl) (by kernel_rfl) hKept ?_; intro K hK; rw [if_pos (by rfl)]
          go_simp
          refine (concat_at _ _ [_, _, _, _] [us.take T, [], ws, []] _ 4 g1.Rows.length _ rfl rfl (by have h1 := HU1.out.len; have h2 := HO8.out.1; have h3 := HU2.out.len; have h4 := HSU.out; have h5 := HU3.out.len; simp only [List.flatten_cons, List.flatten_nil, List.length_append, List.length_nil, h1, h2, h3]; omega) (Holds.newN _ _ 1 4 [_, _, _, _] rfl (by omega) (by intro u hu; simp only [List.mem_cons, List.not_mem_nil, or_false] at hu; rcases hu with rfl | rfl | rfl | rfl <;> rfl)) (.cons (HU1.out.ext (HX4.out.alloc _)).self (.cons (Holds.zero _ 1 _ 0 (by unfold maxLen; omega)) (.cons (Holds.of_own HO8.out (all2_one (fun a b hab => hab.oneCell) HW8.out) |>.ext (Ext.alloc1 _ _)).self (.cons (Holds.zero _ 1 _ 0 (by unfold maxLen; omega)) .nil)))) (by omega) (by omega)).mono ?_
          rintro e w9 ⟨a9, c9, rfl, ho5, he5⟩
          have HO9 := Aside.mk ho5
          have HX5 := Aside.mk ((HX4.out.alloc _).trans he5)
          have HA9 := Aside.mk ((HA8.out.alloc _).ext he5)
          have HZ9 := Aside.mk ((HZ8.out.alloc _).ext he5)
          have HE9 := Aside.mk he5
          clear ho5 he5
          obtain ⟨hc9, hf9⟩ := HA9.out.rules
          refine hK.out _ _ (fun _ => HA9.out) ?_; clear hS; intro hS hKept; replace hS := hS (by decide); (try simp only [List.getElem?_toArray, List.getElem?_cons_succ, List.getElem?_cons_zero, List.getElem_toArray, List.getElem_cons_succ, List.getElem_cons_zero, Act.put, List.setIfInBounds_toArray, List.set_cons_zero, List.set_cons_succ])
          refine till_take (i := 23) (oi := _) (v := ?_) rfl (by kernel_rfl) (by kernel_rfl) (by kernel_rfl) (by kernel_rfl) (fun _ _ _ h => h) hKept hS (Or.inl ⟨by rfl, ?_⟩) ?_; rotate_left; (intro wS hSw; have hSc := hSw.cell; go_simp; try with_reducible rfl); intro hKept; (try simp only [List.getElem?_toArray, List.getElem?_cons_succ, List.getElem?_cons_zero, List.getElem_toArray, List.getElem_cons_succ, List.getElem_cons_zero, Act.put, List.setIfInBounds_toArray, List.set_cons_zero, List.set_cons_succ])
          refine till_one (i := 24) (by simp only [List.getElem?_toArray, List.getElem?_cons_succ, List.getElem?_cons_zero]; rfl) (by kernel_rfl) hKept ?_; intro K hK; rw [if_pos (by rfl)]
          go_simp
          refine hK.out _ _ (fun h => absurd rfl h) ?_
          intro _ _
          refine till_done (by kernel_rfl) ?_ _
          have HS1' := Aside.mk (HA9.out.set 13 (.slice a9 g1.Rows.length c9))
          have HA10 : Aside (Box _ w.heap.size 31 #[.int .i64 g1.W, .int .i64 g1.H, .int .i64 g1.X, .int .i64 g1.Y, .bool g1.Wrap, .int .i64 g1.A, .int .i64 g1.Top, .int .i64 g1.Bottom, .int .i64 g1.SX, .int .i64 g1.SY, .int .i64 g1.SA, .bool g1.NoWrap, .bool g1.Hidden, .slice a9 g1.Rows.length c9, .slice ab1 g1.Back.length cb1]) := ⟨HS1'.out.1⟩
          have HZ10 := Aside.mk (HZ9.out.grown HS1'.out.2 (by simp))
          go_wp2_with (first
            | (refine atLoad 31 (.tmp 4) rfl ?_; refine wpList_load_row rfl 31 (.tmp 4) rfl w.heap.size rfl 31 _ (0, 0) _ HA10.out Try.underlying31 rfl size31 ?_)
            | (refine atStore 31 (.tmp 8) (.tmp 69) rfl ?_; refine wpList_store_box _ rfl 31 (.tmp 8) (.tmp 69) rfl (w.heap.size + 1) _ rfl rfl 31 _ HZ10.out size31 rfl rfl ?_; intro w11 hb7 hg7; have HZ11 := Aside.mk hb7; have HG11 := Aside.mk hg7; clear hg7 hb7))
          refine bodyPost_ret (results_cell_row Try.results71 _ _ (w.heap.size + 1) 31 _ (0, 0) _ rfl HZ11.out Try.underlying31 rfl size31) rfl ?_
          rw [HDX.out]
          have hQ := HQ.out
          have hE := HEQ.out
          have hD := HD.out
          have hz3 := HZX.out.lt
          have hz4 := HX4.out.size
          have hlD := upRows_length g1 T B N (by omega) (by omega)
          have ha2 : All2 (OwnC w9 (w.heap.size + 2)) [us.take T, [], ws, []].flatten (upRows g1 T B N) := by
            unfold upRows
            refine rows4 ((HUS.out.imp fun a b hab => hab.ext HX5.out).take T) ?_ (HW8.out.imp fun a b hab => (hab.ext ((Ext.alloc1 _ _).trans HE9.out)).mono (by simp at hz3 hz4 ⊢; omega)) ?_
            · (rw [show B + 1 - (T + N) = 0 from by omega, List.take_zero]; exact .nil)
            · (rw [List.drop_eq_nil_of_le (by omega)]; exact .nil)
          have hown : OwnR w9 (w.heap.size + 2) (.slice a9 (upRows g1 T B N).length c9) (upRows g1 T B N) := by
            refine ⟨_, ?_, ha2⟩
            rw [hlD]
            exact own_mono HO9.out (by simp at hz3 hz4 ⊢; omega)
          refine ⟨_, a9, c9, ab1, cb1, by simp only [hlD, HBL.out], ⟨rfl⟩, ⟨OwnR.mono (base := w.heap.size + 2) ((hown.keep HS1'.out.2 (by intro j hj hk; omega)).keep HG11.out (by intro j hj hk; omega)) (by omega)⟩, ⟨OwnR.mono (base := w.heap.size + 2) ?_ (by omega)⟩, ⟨?_⟩, ⟨?_⟩⟩
          · have h1 := ((HBX.out.ext HX5.out).keep HS1'.out.2 (by intro j hj hk; omega)).keep HG11.out (by intro j hj hk; omega)
            (try rw [HBL.out])
            exact h1
          · intro k hk hk'
            have h1 := own_base HO9.out k (by rw [hlD] at hk; exact hk)
            obtain ⟨_, h2, _⟩ := HBX.out.ex
            (try simp only [HBL.out] at hk')
            have h3 := own_lt h2 k hk'
            simp at h1 h3 hz4
            omega
          · exact ((HEX.out.trans HX5.out).of_grown HS1'.out.2 (by intro k hk; cases hk; omega)).of_grown HG11.out (by intro k hk; cases hk; omega)
        · have hcD' := hcD
          refine wp_region_till 24 (fun w' => Box w' w.heap.size 31 #[.int .i64 g1.W, .int .i64 g1.H, .int .i64 g1.X, .int .i64 g1.Y, .bool g1.Wrap, .int .i64 g1.A, .int .i64 g1.Top, .int .i64 g1.Bottom, .int .i64 g1.SX, .int .i64 g1.SY, .int .i64 g1.SA, .bool g1.NoWrap, .bool g1.Hidden, .slice (some ⟨k1, 0, none⟩) g1.Rows.length cr1, .slice ab1 g1.Back.length cb1]) (by rfl) HAX.out.drew ?_
          intro hS
          refine ⟨kept_none _ rfl, fun hKept => ?_⟩
          refine till_take (i := 0) (oi := _) (v := ?_) rfl (by kernel_rfl) (by kernel_rfl) (by kernel_rfl) (by kernel_rfl) (fun _ _ _ h => h) hKept hS (Or.inl ⟨by rfl, ?_⟩) ?_; rotate_left; (intro wS hSw; have hSc := hSw.cell; go_simp; try with_reducible rfl); intro hKept; (try simp only [List.getElem?_toArray, List.getElem?_cons_succ, List.getElem?_cons_zero, List.getElem_toArray, List.getElem_cons_succ, List.getElem_cons_zero, Act.put, List.setIfInBounds_toArray, List.set_cons_zero, List.set_cons_succ])
          refine till_take (i := 1) (oi := _) (v := ?_) rfl (by kernel_rfl) (by kernel_rfl) (by kernel_rfl) (by kernel_rfl) (fun _ _ _ h => h) hKept hS (Or.inl ⟨by rfl, ?_⟩) ?_; rotate_left; (intro wS hSw; have hSc := hSw.cell; go_simp; try with_reducible rfl); intro hKept; (try simp only [List.getElem?_toArray, List.getElem?_cons_succ, List.getElem?_cons_zero, List.getElem_toArray, List.getElem_cons_succ, List.getElem_cons_zero, Act.put, List.setIfInBounds_toArray, List.set_cons_zero, List.set_cons_succ])
          refine till_take (i := 2) (oi := _) (v := ?_) rfl (by kernel_rfl) (by kernel_rfl) (by kernel_rfl) (by kernel_rfl) (fun _ _ _ h => h) hKept hS (Or.inl ⟨by rfl, ?_⟩) ?_; rotate_left; (intro wS hSw; have hSc := hSw.cell; go_simp; try with_reducible rfl); intro hKept; (try simp only [List.getElem?_toArray, List.getElem?_cons_succ, List.getElem?_cons_zero, List.getElem_toArray, List.getElem_cons_succ, List.getElem_cons_zero, Act.put, List.setIfInBounds_toArray, List.set_cons_zero, List.set_cons_succ])
          refine till_take (i := 3) (oi := _) (v := ?_) rfl (by kernel_rfl) (by kernel_rfl) (by kernel_rfl) (by kernel_rfl) (fun _ _ _ h => h) hKept hS (Or.inl ⟨by rfl, ?_⟩) ?_; rotate_left; (intro wS hSw; have hSc := hSw.cell; go_simp; try with_reducible rfl); intro hKept; (try simp only [List.getElem?_toArray, List.getElem?_cons_succ, List.getElem?_cons_zero, List.getElem_toArray, List.getElem_cons_succ, List.getElem_cons_zero, Act.put, List.setIfInBounds_toArray, List.set_cons_zero, List.set_cons_succ])
          refine till_take (i := 4) (oi := _) (v := ?_) rfl (by kernel_rfl) (by kernel_rfl) (by kernel_rfl) (by kernel_rfl) (fun _ _ _ h => h) hKept hS (Or.inl ⟨by rfl, ?_⟩) ?_; rotate_left; (intro wS hSw; have hSc := hSw.cell; go_simp; try with_reducible rfl); intro hKept; (try simp only [List.getElem?_toArray, List.getElem?_cons_succ, List.getElem?_cons_zero, List.getElem_toArray, List.getElem_cons_succ, List.getElem_cons_zero, Act.put, List.setIfInBounds_toArray, List.set_cons_zero, List.set_cons_succ])
          refine till_take (i := 5) (oi := _) (v := ?_) rfl (by kernel_rfl) (by kernel_rfl) (by kernel_rfl) (by kernel_rfl) (fun _ _ _ h => h) hKept hS (Or.inl ⟨by rfl, ?_⟩) ?_; rotate_left; (intro wS hSw; have hSc := hSw.cell; go_simp; try with_reducible rfl); intro hKept; (try simp only [List.getElem?_toArray, List.getElem?_cons_succ, List.getElem?_cons_zero, List.getElem_toArray, List.getElem_cons_succ, List.getElem_cons_zero, Act.put, List.setIfInBounds_toArray, List.set_cons_zero, List.set_cons_succ])
          refine till_take (i := 6) (oi := _) (v := ?_) rfl (by kernel_rfl) (by kernel_rfl) (by kernel_rfl) (by kernel_rfl) (fun _ _ _ h => h) hKept hS (Or.inl ⟨by rfl, ?_⟩) ?_; rotate_left; (intro wS hSw; have hSc := hSw.cell; go_simp; try with_reducible rfl); intro hKept; (try simp only [List.getElem?_toArray, List.getElem?_cons_succ, List.getElem?_cons_zero, List.getElem_toArray, List.getElem_cons_succ, List.getElem_cons_zero, Act.put, List.setIfInBounds_toArray, List.set_cons_zero, List.set_cons_succ])
          refine till_take (i := 7) (oi := _) (v := ?_) rfl (by kernel_rfl) (by kernel_rfl) (by kernel_rfl) (by kernel_rfl) (fun _ _ _ h => h) hKept hS (Or.inl ⟨by rfl, ?_⟩) ?_; rotate_left; (intro wS hSw; have hSc := hSw.cell; go_simp; try with_reducible rfl); intro hKept; (try simp only [List.getElem?_toArray, List.getElem?_cons_succ, List.getElem?_cons_zero, List.getElem_toArray, List.getElem_cons_succ, List.getElem_cons_zero, Act.put, List.setIfInBounds_toArray, List.set_cons_zero, List.set_cons_succ])
          refine till_take (i := 8) (oi := _) (v := ?_) rfl (by kernel_rfl) (by kernel_rfl) (by kernel_rfl) (by kernel_rfl) (fun _ _ _ h => h) hKept hS (Or.inl ⟨by rfl, ?_⟩) ?_; rotate_left; (intro wS hSw; have hSc := hSw.cell; go_simp; try with_reducible rfl); intro hKept; (try simp only [List.getElem?_toArray, List.getElem?_cons_succ, List.getElem?_cons_zero, List.getElem_toArray, List.getElem_cons_succ, List.getElem_cons_zero, Act.put, List.setIfInBounds_toArray, List.set_cons_zero, List.set_cons_succ])
          refine till_take (i := 9) (oi := _) (v := ?_) rfl (by kernel_rfl) (by kernel_rfl) (by kernel_rfl) (by kernel_rfl) (fun _ _ _ h => h) hKept hS (Or.inl ⟨by rfl, ?_⟩) ?_; rotate_left; (intro wS hSw; have hSc := hSw.cell; go_simp; try with_reducible rfl); intro hKept; (try simp only [List.getElem?_toArray, List.getElem?_cons_succ, List.getElem?_cons_zero, List.getElem_toArray, List.getElem_cons_succ, List.getElem_cons_zero, Act.put, List.setIfInBounds_toArray, List.set_cons_zero, List.set_cons_succ])
          refine till_take (i := 10) (oi := _) (v := ?_) rfl (by kernel_rfl) (by kernel_rfl) (by kernel_rfl) (by kernel_rfl) (fun _ _ _ h => h) hKept hS (Or.inl ⟨by rfl, ?_⟩) ?_; rotate_left; (intro wS hSw; have hSc := hSw.cell; go_simp; try with_reducible rfl); intro hKept; (try simp only [List.getElem?_toArray, List.getElem?_cons_succ, List.getElem?_cons_zero, List.getElem_toArray, List.getElem_cons_succ, List.getElem_cons_zero, Act.put, List.setIfInBounds_toArray, List.set_cons_zero, List.set_cons_succ])
          refine till_take (i := 11) (oi := _) (v := ?_) rfl (by kernel_rfl) (by kernel_rfl) (by kernel_rfl) (by kernel_rfl) (fun _ _ _ h => h) hKept hS (Or.inl ⟨by rfl, ?_⟩) ?_; rotate_left; (intro wS hSw; have hSc := hSw.cell; go_simp; try with_reducible rfl); intro hKept; (try simp only [List.getElem?_toArray, List.getElem?_cons_succ, List.getElem?_cons_zero, List.getElem_toArray, List.getElem_cons_succ, List.getElem_cons_zero, Act.put, List.setIfInBounds_toArray, List.set_cons_zero, List.set_cons_succ])
          refine till_take (i := 12) (oi := _) (v := ?_) rfl (by kernel_rfl) (by kernel_rfl) (by kernel_rfl) (by kernel_rfl) (fun _ _ _ h => h) hKept hS (Or.inl ⟨by rfl, ?_⟩) ?_; rotate_left; (intro wS hSw; have hSc := hSw.cell; go_simp; try with_reducible rfl); intro hKept; (try simp only [List.getElem?_toArray, List.getElem?_cons_succ, List.getElem?_cons_zero, List.getElem_toArray, List.getElem_cons_succ, List.getElem_cons_zero, Act.put, List.setIfInBounds_toArray, List.set_cons_zero, List.set_cons_succ])
          refine till_take (i := 13) (oi := _) (v := ?_) rfl (by kernel_rfl) (by kernel_rfl) (by kernel_rfl) (by kernel_rfl) (fun _ _ _ h => h) hKept hS (Or.inl ⟨by rfl, ?_⟩) ?_; rotate_left; (intro wS hSw; have hSc := hSw.cell; go_simp; try with_reducible rfl); intro hKept; (try simp only [List.getElem?_toArray, List.getElem?_cons_succ, List.getElem?_cons_zero, List.getElem_toArray, List.getElem_cons_succ, List.getElem_cons_zero, Act.put, List.setIfInBounds_toArray, List.set_cons_zero, List.set_cons_succ])
          refine till_take (i := 14) (oi := _) (v := ?_) rfl (by kernel_rfl) (by kernel_rfl) (by kernel_rfl) (by kernel_rfl) (fun _ _ _ h => h) hKept hS (Or.inl ⟨by rfl, ?_⟩) ?_; rotate_left; (intro wS hSw; have hSc := hSw.cell; go_simp; try with_reducible rfl); intro hKept; (try simp only [List.getElem?_toArray, List.getElem?_cons_succ, List.getElem?_cons_zero, List.getElem_toArray, List.getElem_cons_succ, List.getElem_cons_zero, Act.put, List.setIfInBounds_toArray, List.set_cons_zero, List.set_cons_succ])
          refine till_take (i := 16) (oi := _) (v := ?_) rfl (by kernel_rfl) (by kernel_rfl) (by kernel_rfl) (by kernel_rfl) (fun _ _ _ h => h) hKept hS (Or.inl ⟨by rfl, ?_⟩) ?_; rotate_left; (intro wS hSw; have hSc := hSw.cell; go_simp; try with_reducible rfl); intro hKept; (try simp only [List.getElem?_toArray, List.getElem?_cons_succ, List.getElem?_cons_zero, List.getElem_toArray, List.getElem_cons_succ, List.getElem_cons_zero, Act.put, List.setIfInBounds_toArray, List.set_cons_zero, List.set_cons_succ])
          refine till_take (i := 17) (oi := _) (v := ?_) rfl (by kernel_rfl) (by kernel_rfl) (by kernel_rfl) (by kernel_rfl) (fun _ _ _ h => h) hKept hS (Or.inl ⟨by rfl, ?_⟩) ?_; rotate_left; (intro wS hSw; have hSc := hSw.cell; go_simp; try with_reducible rfl); intro hKept; (try simp only [List.getElem?_toArray, List.getElem?_cons_succ, List.getElem?_cons_zero, List.getElem_toArray, List.getElem_cons_succ, List.getElem_cons_zero, Act.put, List.setIfInBounds_toArray, List.set_cons_zero, List.set_cons_succ])
          refine till_take (i := 18) (oi := _) (v := ?_) rfl (by kernel_rfl) (by kernel_rfl) (by kernel_rfl) (by kernel_rfl) (fun _ _ _ h => h) hKept hS (Or.inl ⟨by rfl, ?_⟩) ?_; rotate_left; (intro wS hSw; have hSc := hSw.cell; go_simp; try with_reducible rfl); intro hKept; (try simp only [List.getElem?_toArray, List.getElem?_cons_succ, List.getElem?_cons_zero, List.getElem_toArray, List.getElem_cons_succ, List.getElem_cons_zero, Act.put, List.setIfInBounds_toArray, List.set_cons_zero, List.set_cons_succ])
          refine till_take (i := 19) (oi := _) (v := ?_) rfl (by kernel_rfl) (by kernel_rfl) (by kernel_rfl) (by kernel_rfl) (fun _ _ _ h => h) hKept hS (Or.inl ⟨by rfl, ?_⟩) ?_; rotate_left; (intro wS hSw; have hSc := hSw.cell; go_simp; try with_reducible rfl); intro hKept; (try simp only [List.getElem?_toArray, List.getElem?_cons_succ, List.getElem?_cons_zero, List.getElem_toArray, List.getElem_cons_succ, List.getElem_cons_zero, Act.put, List.setIfInBounds_toArray, List.set_cons_zero, List.set_cons_succ])
          refine till_take (i := 20) (oi := _) (v := ?_) rfl (by kernel_rfl) (by kernel_rfl) (by kernel_rfl) (by kernel_rfl) (fun _ _ _ h => h) hKept hS (Or.inl ⟨by rfl, ?_⟩) ?_; rotate_left; (intro wS hSw; have hSc := hSw.cell; go_simp; try with_reducible rfl); intro hKept; (try simp only [List.getElem?_toArray, List.getElem?_cons_succ, List.getElem?_cons_zero, List.getElem_toArray, List.getElem_cons_succ, List.getElem_cons_zero, Act.put, List.setIfInBounds_toArray, List.set_cons_zero, List.set_cons_succ])
          refine till_one (i := 15) (by simp only [List.getElem?_toArray, List.getElem?_cons_succ, List.getElem?_cons_zero]; rfl) (by kernel_rfl) hKept ?_; intro K hK; rw [if_pos (by rfl)]
          go_simp
          refine (blanks_nat g1.W N _ (by omega)).mono ?_
          rintro e w8 ⟨a4, c4, ws, rfl, ho4, hw4, he4⟩
          have HO8 := Aside.mk ho4
          have HW8 := Aside.mk hw4
          have HA8 := Aside.mk (HAX.out.drew.ext he4)
          have HZ8 := Aside.mk (HZX.out.drew.ext he4)
          have HX4 := Aside.mk (((Ext.refl _).drew).trans he4)
          have HY8 := Aside.mk (HEX.out.drew.trans he4)
          clear ho4 hw4 he4 hcx hfx
          refine hK.out _ _ (fun _ => HA8.out) ?_; clear hS; intro hS hKept; replace hS := hS (by decide); (try simp only [List.getElem?_toArray, List.getElem?_cons_succ, List.getElem?_cons_zero, List.getElem_toArray, List.getElem_cons_succ, List.getElem_cons_zero, Act.put, List.setIfInBounds_toArray, List.set_cons_zero, List.set_cons_succ])
          refine till_one (i := 21) (by simp only [List.getElem?_toArray, List.getElem?_cons_succ, List.getElem?_cons_zero]; rfl) (by kernel_rfl) hKept ?_; intro K hK; rw [if_pos (by rfl)]
          go_simp
          refine hK.out _ _ (fun _ => HA8.out.alloc _) ?_; clear hS; intro hS hKept; replace hS := hS (by decide); (try simp only [List.getElem?_toArray, List.getElem?_cons_succ, List.getElem?_cons_zero, List.getElem_toArray, List.getElem_cons_succ, List.getElem_cons_zero, Act.put, List.setIfInBounds_toArray, List.set_cons_zero, List.set_cons_succ])
          refine till_one (i := 22) (by simp only [List.getElem?_toArray, List.getElem?_cons_succ, List.getElem?_cons_zero]; rfl) (by kernel_rfl) hKept ?_; intro K hK; rw [if_pos (by rfl)]
          go_simp
          refine (concat_at _ _ [_, _, _, _] [us.take T, (us.drop D).take (cr1 - D), ws, []] _ 4 g1.Rows.length _ rfl rfl (by have h1 := HU1.out.len; have h2 := HO8.out.1; have h3 := HU2.out.len; have h4 := HSU.out; have h5 := HU3.out.len; simp only [List.flatten_cons, List.flatten_nil, List.length_append, List.length_nil, h1, h2, h3]; omega) (Holds.newN _ _ 1 4 [_, _, _, _] rfl (by omega) (by intro u hu; simp only [List.mem_cons, List.not_mem_nil, or_false] at hu; rcases hu with rfl | rfl | rfl | rfl <;> rfl)) (.cons (HU1.out.ext (HX4.out.alloc _)).self (.cons (HU2.out.ext (HX4.out.alloc _)).self (.cons (Holds.of_own HO8.out (all2_one (fun a b hab => hab.oneCell) HW8.out) |>.ext (Ext.alloc1 _ _)).self (.cons (Holds.zero _ 1 _ 0 (by unfold maxLen; omega)) .nil)))) (by omega) (by omega)).mono ?_
          rintro e w9 ⟨a9, c9, rfl, ho5, he5⟩
          have HO9 := Aside.mk ho5
          have HX5 := Aside.mk ((HX4.out.alloc _).trans he5)
          have HA9 := Aside.mk ((HA8.out.alloc _).ext he5)
          have HZ9 := Aside.mk ((HZ8.out.alloc _).ext he5)
          have HE9 := Aside.mk he5
          clear ho5 he5
          obtain ⟨hc9, hf9⟩ := HA9.out.rules
          refine hK.out _ _ (fun _ => HA9.out) ?_; clear hS; intro hS hKept; replace hS := hS (by decide); (try simp only [List.getElem?_toArray, List.getElem?_cons_succ, List.getElem?_cons_zero, List.getElem_toArray, List.getElem_cons_succ, List.getElem_cons_zero, Act.put, List.setIfInBounds_toArray, List.set_cons_zero, List.set_cons_succ])
          refine till_take (i := 23) (oi := _) (v := ?_) rfl (by kernel_rfl) (by kernel_rfl) (by kernel_rfl) (by kernel_rfl) (fun _ _ _ h => h) hKept hS (Or.inl ⟨by rfl, ?_⟩) ?_; rotate_left; (intro wS hSw; have hSc := hSw.cell; go_simp; try with_reducible rfl); intro hKept; (try simp only [List.getElem?_toArray, List.getElem?_cons_succ, List.getElem?_cons_zero, List.getElem_toArray, List.getElem_cons_succ, List.getElem_cons_zero, Act.put, List.setIfInBounds_toArray, List.set_cons_zero, List.set_cons_succ])
          refine till_one (i := 24) (by simp only [List.getElem?_toArray, List.getElem?_cons_succ, List.getElem?_cons_zero]; rfl) (by kernel_rfl) hKept ?_; intro K hK; rw [if_pos (by rfl)]
          go_simp
          refine hK.out _ _ (fun h => absurd rfl h) ?_
          intro _ _
          refine till_done (by kernel_rfl) ?_ _
          have HS1' := Aside.mk (HA9.out.set 13 (.slice a9 g1.Rows.length c9))
          have HA10 : Aside (Box _ w.heap.size 31 #[.int .i64 g1.W, .int .i64 g1.H, .int .i64 g1.X, .int .i64 g1.Y, .bool g1.Wrap, .int .i64 g1.A, .int .i64 g1.Top, .int .i64 g1.Bottom, .int .i64 g1.SX, .int .i64 g1.SY, .int .i64 g1.SA, .bool g1.NoWrap, .bool g1.Hidden, .slice a9 g1.Rows.length c9, .slice ab1 g1.Back.length cb1]) := ⟨HS1'.out.1⟩
          have HZ10 := Aside.mk (HZ9.out.grown HS1'.out.2 (by simp))
          go_wp2_with (first
            | (refine atLoad 31 (.tmp 4) rfl ?_; refine wpList_load_row rfl 31 (.tmp 4) rfl w.heap.size rfl 31 _ (0, 0) _ HA10.out Try.underlying31 rfl size31 ?_)
            | (refine atStore 31 (.tmp 8) (.tmp 69) rfl ?_; refine wpList_store_box _ rfl 31 (.tmp 8) (.tmp 69) rfl (w.heap.size + 1) _ rfl rfl 31 _ HZ10.out size31 rfl rfl ?_; intro w11 hb7 hg7; have HZ11 := Aside.mk hb7; have HG11 := Aside.mk hg7; clear hg7 hb7))
          refine bodyPost_ret (results_cell_row Try.results71 _ _ (w.heap.size + 1) 31 _ (0, 0) _ rfl HZ11.out Try.underlying31 rfl size31) rfl ?_
          rw [HDX.out]
          have hQ := HQ.out
          have hE := HEQ.out
          have hD := HD.out
          have hz3 := HZX.out.lt
          have hz4 := HX4.out.size
          have hlD := upRows_length g1 T B N (by omega) (by omega)
          have ha2 : All2 (OwnC w9 (w.heap.size + 2)) [us.take T, (us.drop D).take (cr1 - D), ws, []].flatten (upRows g1 T B N) := by
            unfold upRows
            refine rows4 ((HUS.out.imp fun a b hab => hab.ext HX5.out).take T) ?_ (HW8.out.imp fun a b hab => (hab.ext ((Ext.alloc1 _ _).trans HE9.out)).mono (by simp at hz3 hz4 ⊢; omega)) ?_
            · (rw [show B + 1 - (T + N) = cr1 - D from by omega, show T + N = D from by omega]; exact ((HUS.out.imp fun a b hab => hab.ext HX5.out).drop D).take (cr1 - D))
            · (rw [List.drop_eq_nil_of_le (by omega)]; exact .nil)
          have hown : OwnR w9 (w.heap.size + 2) (.slice a9 (upRows g1 T B N).length c9) (upRows g1 T B N) := by
            refine ⟨_, ?_, ha2⟩
            rw [hlD]
            exact own_mono HO9.out (by simp at hz3 hz4 ⊢; omega)
          refine ⟨_, a9, c9, ab1, cb1, by simp only [hlD, HBL.out], ⟨rfl⟩, ⟨OwnR.mono (base := w.heap.size + 2) ((hown.keep HS1'.out.2 (by intro j hj hk; omega)).keep HG11.out (by intro j hj hk; omega)) (by omega)⟩, ⟨OwnR.mono (base := w.heap.size + 2) ?_ (by omega)⟩, ⟨?_⟩, ⟨?_⟩⟩
          · have h1 := ((HBX.out.ext HX5.out).keep HS1'.out.2 (by intro j hj hk; omega)).keep HG11.out (by intro j hj hk; omega)
            (try rw [HBL.out])
            exact h1
          · intro k hk hk'
            have h1 := own_base HO9.out k (by rw [hlD] at hk; exact hk)
            obtain ⟨_, h2, _⟩ := HBX.out.ex
            (try simp only [HBL.out] at hk')
            have h3 := own_lt h2 k hk'
            simp at h1 h3 hz4
            omega
          · exact ((HEX.out.trans HX5.out).of_grown HS1'.out.2 (by intro k hk; cases hk; omega)).of_grown HG11.out (by intro k hk; cases hk; omega)
      · have hcD : ¬ cr1 = D := by omega
        refine wp_region_till 24 (fun w' => Box w' w.heap.size 31 #[.int .i64 g1.W, .int .i64 g1.H, .int .i64 g1.X, .int .i64 g1.Y, .bool g1.Wrap, .int .i64 g1.A, .int .i64 g1.Top, .int .i64 g1.Bottom, .int .i64 g1.SX, .int .i64 g1.SY, .int .i64 g1.SA, .bool g1.NoWrap, .bool g1.Hidden, .slice (some ⟨k1, 0, none⟩) g1.Rows.length cr1, .slice ab1 g1.Back.length cb1]) (by rfl) HAX.out.drew ?_
        intro hS
        refine ⟨kept_none _ rfl, fun hKept => ?_⟩
        refine till_take (i := 0) (oi := _) (v := ?_) rfl (by kernel_rfl) (by kernel_rfl) (by kernel_rfl) (by kernel_rfl) (fun _ _ _ h => h) hKept hS (Or.inl ⟨by rfl, ?_⟩) ?_; rotate_left; (intro wS hSw; have hSc := hSw.cell; go_simp; try with_reducible rfl); intro hKept; (try simp only [List.getElem?_toArray, List.getElem?_cons_succ, List.getElem?_cons_zero, List.getElem_toArray, List.getElem_cons_succ, List.getElem_cons_zero, Act.put, List.setIfInBounds_toArray, List.set_cons_zero, List.set_cons_succ])
        refine till_take (i := 1) (oi := _) (v := ?_) rfl (by kernel_rfl) (by kernel_rfl) (by kernel_rfl) (by kernel_rfl) (fun _ _ _ h => h) hKept hS (Or.inl ⟨by rfl, ?_⟩) ?_; rotate_left; (intro wS hSw; have hSc := hSw.cell; go_simp; try with_reducible rfl); intro hKept; (try simp only [List.getElem?_toArray, List.getElem?_cons_succ, List.getElem?_cons_zero, List.getElem_toArray, List.getElem_cons_succ, List.getElem_cons_zero, Act.put, List.setIfInBounds_toArray, List.set_cons_zero, List.set_cons_succ])
        refine till_take (i := 2) (oi := _) (v := ?_) rfl (by kernel_rfl) (by kernel_rfl) (by kernel_rfl) (by kernel_rfl) (fun _ _ _ h => h) hKept hS (Or.inl ⟨by rfl, ?_⟩) ?_; rotate_left; (intro wS hSw; have hSc := hSw.cell; go_simp; try with_reducible rfl); intro hKept; (try simp only [List.getElem?_toArray, List.getElem?_cons_succ, List.getElem?_cons_zero, List.getElem_toArray, List.getElem_cons_succ, List.getElem_cons_zero, Act.put, List.setIfInBounds_toArray, List.set_cons_zero, List.set_cons_succ])
        refine till_take (i := 3) (oi := _) (v := ?_) rfl (by kernel_rfl) (by kernel_rfl) (by kernel_rfl) (by kernel_rfl) (fun _ _ _ h => h) hKept hS (Or.inl ⟨by rfl, ?_⟩) ?_; rotate_left; (intro wS hSw; have hSc := hSw.cell; go_simp; try with_reducible rfl); intro hKept; (try simp only [List.getElem?_toArray, List.getElem?_cons_succ, List.getElem?_cons_zero, List.getElem_toArray, List.getElem_cons_succ, List.getElem_cons_zero, Act.put, List.setIfInBounds_toArray, List.set_cons_zero, List.set_cons_succ])
        refine till_take (i := 4) (oi := _) (v := ?_) rfl (by kernel_rfl) (by kernel_rfl) (by kernel_rfl) (by kernel_rfl) (fun _ _ _ h => h) hKept hS (Or.inl ⟨by rfl, ?_⟩) ?_; rotate_left; (intro wS hSw; have hSc := hSw.cell; go_simp; try with_reducible rfl); intro hKept; (try simp only [List.getElem?_toArray, List.getElem?_cons_succ, List.getElem?_cons_zero, List.getElem_toArray, List.getElem_cons_succ, List.getElem_cons_zero, Act.put, List.setIfInBounds_toArray, List.set_cons_zero, List.set_cons_succ])
        refine till_take (i := 5) (oi := _) (v := ?_) rfl (by kernel_rfl) (by kernel_rfl) (by kernel_rfl) (by kernel_rfl) (fun _ _ _ h => h) hKept hS (Or.inl ⟨by rfl, ?_⟩) ?_; rotate_left; (intro wS hSw; have hSc := hSw.cell; go_simp; try with_reducible rfl); intro hKept; (try simp only [List.getElem?_toArray, List.getElem?_cons_succ, List.getElem?_cons_zero, List.getElem_toArray, List.getElem_cons_succ, List.getElem_cons_zero, Act.put, List.setIfInBounds_toArray, List.set_cons_zero, List.set_cons_succ])
        refine till_take (i := 6) (oi := _) (v := ?_) rfl (by kernel_rfl) (by kernel_rfl) (by kernel_rfl) (by kernel_rfl) (fun _ _ _ h => h) hKept hS (Or.inl ⟨by rfl, ?_⟩) ?_; rotate_left; (intro wS hSw; have hSc := hSw.cell; go_simp; try with_reducible rfl); intro hKept; (try simp only [List.getElem?_toArray, List.getElem?_cons_succ, List.getElem?_cons_zero, List.getElem_toArray, List.getElem_cons_succ, List.getElem_cons_zero, Act.put, List.setIfInBounds_toArray, List.set_cons_zero, List.set_cons_succ])
        refine till_take (i := 7) (oi := _) (v := ?_) rfl (by kernel_rfl) (by kernel_rfl) (by kernel_rfl) (by kernel_rfl) (fun _ _ _ h => h) hKept hS (Or.inl ⟨by rfl, ?_⟩) ?_; rotate_left; (intro wS hSw; have hSc := hSw.cell; go_simp; try with_reducible rfl); intro hKept; (try simp only [List.getElem?_toArray, List.getElem?_cons_succ, List.getElem?_cons_zero, List.getElem_toArray, List.getElem_cons_succ, List.getElem_cons_zero, Act.put, List.setIfInBounds_toArray, List.set_cons_zero, List.set_cons_succ])
        refine till_take (i := 8) (oi := _) (v := ?_) rfl (by kernel_rfl) (by kernel_rfl) (by kernel_rfl) (by kernel_rfl) (fun _ _ _ h => h) hKept hS (Or.inl ⟨by rfl, ?_⟩) ?_; rotate_left; (intro wS hSw; have hSc := hSw.cell; go_simp; try with_reducible rfl); intro hKept; (try simp only [List.getElem?_toArray, List.getElem?_cons_succ, List.getElem?_cons_zero, List.getElem_toArray, List.getElem_cons_succ, List.getElem_cons_zero, Act.put, List.setIfInBounds_toArray, List.set_cons_zero, List.set_cons_succ])
        refine till_take (i := 9) (oi := _) (v := ?_) rfl (by kernel_rfl) (by kernel_rfl) (by kernel_rfl) (by kernel_rfl) (fun _ _ _ h => h) hKept hS (Or.inl ⟨by rfl, ?_⟩) ?_; rotate_left; (intro wS hSw; have hSc := hSw.cell; go_simp; try with_reducible rfl); intro hKept; (try simp only [List.getElem?_toArray, List.getElem?_cons_succ, List.getElem?_cons_zero, List.getElem_toArray, List.getElem_cons_succ, List.getElem_cons_zero, Act.put, List.setIfInBounds_toArray, List.set_cons_zero, List.set_cons_succ])
        refine till_take (i := 10) (oi := _) (v := ?_) rfl (by kernel_rfl) (by kernel_rfl) (by kernel_rfl) (by kernel_rfl) (fun _ _ _ h => h) hKept hS (Or.inl ⟨by rfl, ?_⟩) ?_; rotate_left; (intro wS hSw; have hSc := hSw.cell; go_simp; try with_reducible rfl); intro hKept; (try simp only [List.getElem?_toArray, List.getElem?_cons_succ, List.getElem?_cons_zero, List.getElem_toArray, List.getElem_cons_succ, List.getElem_cons_zero, Act.put, List.setIfInBounds_toArray, List.set_cons_zero, List.set_cons_succ])
        refine till_take (i := 11) (oi := _) (v := ?_) rfl (by kernel_rfl) (by kernel_rfl) (by kernel_rfl) (by kernel_rfl) (fun _ _ _ h => h) hKept hS (Or.inl ⟨by rfl, ?_⟩) ?_; rotate_left; (intro wS hSw; have hSc := hSw.cell; go_simp; try with_reducible rfl); intro hKept; (try simp only [List.getElem?_toArray, List.getElem?_cons_succ, List.getElem?_cons_zero, List.getElem_toArray, List.getElem_cons_succ, List.getElem_cons_zero, Act.put, List.setIfInBounds_toArray, List.set_cons_zero, List.set_cons_succ])
        refine till_take (i := 12) (oi := _) (v := ?_) rfl (by kernel_rfl) (by kernel_rfl) (by kernel_rfl) (by kernel_rfl) (fun _ _ _ h => h) hKept hS (Or.inl ⟨by rfl, ?_⟩) ?_; rotate_left; (intro wS hSw; have hSc := hSw.cell; go_simp; try with_reducible rfl); intro hKept; (try simp only [List.getElem?_toArray, List.getElem?_cons_succ, List.getElem?_cons_zero, List.getElem_toArray, List.getElem_cons_succ, List.getElem_cons_zero, Act.put, List.setIfInBounds_toArray, List.set_cons_zero, List.set_cons_succ])
        refine till_take (i := 13) (oi := _) (v := ?_) rfl (by kernel_rfl) (by kernel_rfl) (by kernel_rfl) (by kernel_rfl) (fun _ _ _ h => h) hKept hS (Or.inl ⟨by rfl, ?_⟩) ?_; rotate_left; (intro wS hSw; have hSc := hSw.cell; go_simp; try with_reducible rfl); intro hKept; (try simp only [List.getElem?_toArray, List.getElem?_cons_succ, List.getElem?_cons_zero, List.getElem_toArray, List.getElem_cons_succ, List.getElem_cons_zero, Act.put, List.setIfInBounds_toArray, List.set_cons_zero, List.set_cons_succ])
        refine till_take (i := 14) (oi := _) (v := ?_) rfl (by kernel_rfl) (by kernel_rfl) (by kernel_rfl) (by kernel_rfl) (fun _ _ _ h => h) hKept hS (Or.inl ⟨by rfl, ?_⟩) ?_; rotate_left; (intro wS hSw; have hSc := hSw.cell; go_simp; try with_reducible rfl); intro hKept; (try simp only [List.getElem?_toArray, List.getElem?_cons_succ, List.getElem?_cons_zero, List.getElem_toArray, List.getElem_cons_succ, List.getElem_cons_zero, Act.put, List.setIfInBounds_toArray, List.set_cons_zero, List.set_cons_succ])
        refine till_take (i := 16) (oi := _) (v := ?_) rfl (by kernel_rfl) (by kernel_rfl) (by kernel_rfl) (by kernel_rfl) (fun _ _ _ h => h) hKept hS (Or.inl ⟨by rfl, ?_⟩) ?_; rotate_left; (intro wS hSw; have hSc := hSw.cell; go_simp; try with_reducible rfl); intro hKept; (try simp only [List.getElem?_toArray, List.getElem?_cons_succ, List.getElem?_cons_zero, List.getElem_toArray, List.getElem_cons_succ, List.getElem_cons_zero, Act.put, List.setIfInBounds_toArray, List.set_cons_zero, List.set_cons_succ])
        refine till_take (i := 17) (oi := _) (v := ?_) rfl (by kernel_rfl) (by kernel_rfl) (by kernel_rfl) (by kernel_rfl) (fun _ _ _ h => h) hKept hS (Or.inl ⟨by rfl, ?_⟩) ?_; rotate_left; (intro wS hSw; have hSc := hSw.cell; go_simp; try with_reducible rfl); intro hKept; (try simp only [List.getElem?_toArray, List.getElem?_cons_succ, List.getElem?_cons_zero, List.getElem_toArray, List.getElem_cons_succ, List.getElem_cons_zero, Act.put, List.setIfInBounds_toArray, List.set_cons_zero, List.set_cons_succ])
        refine till_take (i := 18) (oi := _) (v := ?_) rfl (by kernel_rfl) (by kernel_rfl) (by kernel_rfl) (by kernel_rfl) (fun _ _ _ h => h) hKept hS (Or.inl ⟨by rfl, ?_⟩) ?_; rotate_left; (intro wS hSw; have hSc := hSw.cell; go_simp; try with_reducible rfl); intro hKept; (try simp only [List.getElem?_toArray, List.getElem?_cons_succ, List.getElem?_cons_zero, List.getElem_toArray, List.getElem_cons_succ, List.getElem_cons_zero, Act.put, List.setIfInBounds_toArray, List.set_cons_zero, List.set_cons_succ])
        refine till_take (i := 19) (oi := _) (v := ?_) rfl (by kernel_rfl) (by kernel_rfl) (by kernel_rfl) (by kernel_rfl) (fun _ _ _ h => h) hKept hS (Or.inl ⟨by rfl, ?_⟩) ?_; rotate_left; (intro wS hSw; have hSc := hSw.cell; go_simp; try with_reducible rfl); intro hKept; (try simp only [List.getElem?_toArray, List.getElem?_cons_succ, List.getElem?_cons_zero, List.getElem_toArray, List.getElem_cons_succ, List.getElem_cons_zero, Act.put, List.setIfInBounds_toArray, List.set_cons_zero, List.set_cons_succ])
        refine till_take (i := 20) (oi := _) (v := ?_) rfl (by kernel_rfl) (by kernel_rfl) (by kernel_rfl) (by kernel_rfl) (fun _ _ _ h => h) hKept hS (Or.inl ⟨by rfl, ?_⟩) ?_; rotate_left; (intro wS hSw; have hSc := hSw.cell; go_simp; try with_reducible rfl); intro hKept; (try simp only [List.getElem?_toArray, List.getElem?_cons_succ, List.getElem?_cons_zero, List.getElem_toArray, List.getElem_cons_succ, List.getElem_cons_zero, Act.put, List.setIfInBounds_toArray, List.set_cons_zero, List.set_cons_succ])
        refine till_one (i := 15) (by simp only [List.getElem?_toArray, List.getElem?_cons_succ, List.getElem?_cons_zero]; rfl) (by kernel_rfl) hKept ?_; intro K hK; rw [if_pos (by rfl)]
        go_simp
        refine (blanks_nat g1.W N _ (by omega)).mono ?_
        rintro e w8 ⟨a4, c4, ws, rfl, ho4, hw4, he4⟩
        have HO8 := Aside.mk ho4
        have HW8 := Aside.mk hw4
        have HA8 := Aside.mk (HAX.out.drew.ext he4)
        have HZ8 := Aside.mk (HZX.out.drew.ext he4)
        have HX4 := Aside.mk (((Ext.refl _).drew).trans he4)
        have HY8 := Aside.mk (HEX.out.drew.trans he4)
        clear ho4 hw4 he4 hcx hfx
        refine hK.out _ _ (fun _ => HA8.out) ?_; clear hS; intro hS hKept; replace hS := hS (by decide); (try simp only [List.getElem?_toArray, List.getElem?_cons_succ, List.getElem?_cons_zero, List.getElem_toArray, List.getElem_cons_succ, List.getElem_cons_zero, Act.put, List.setIfInBounds_toArray, List.set_cons_zero, List.set_cons_succ])
        refine till_one (i := 21) (by simp only [List.getElem?_toArray, List.getElem?_cons_succ, List.getElem?_cons_zero]; rfl) (by kernel_rfl) hKept ?_; intro K hK; rw [if_pos (by rfl)]
        go_simp
        refine hK.out _ _ (fun _ => HA8.out.alloc _) ?_; clear hS; intro hS hKept; replace hS := hS (by decide); (try simp only [List.getElem?_toArray, List.getElem?_cons_succ, List.getElem?_cons_zero, List.getElem_toArray, List.getElem_cons_succ, List.getElem_cons_zero, Act.put, List.setIfInBounds_toArray, List.set_cons_zero, List.set_cons_succ])
        refine till_one (i := 22) (by simp only [List.getElem?_toArray, List.getElem?_cons_succ, List.getElem?_cons_zero]; rfl) (by kernel_rfl) hKept ?_; intro K hK; rw [if_pos (by rfl)]
        go_simp
        refine (concat_at _ _ [_, _, _, _] [us.take T, (us.drop D).take (Q - D), ws, us.drop Q] _ 4 g1.Rows.length _ rfl rfl (by have h1 := HU1.out.len; have h2 := HO8.out.1; have h3 := HU2.out.len; have h4 := HSU.out; have h5 := HU3.out.len; simp only [List.flatten_cons, List.flatten_nil, List.length_append, List.length_nil, h1, h2, h3]; omega) (Holds.newN _ _ 1 4 [_, _, _, _] rfl (by omega) (by intro u hu; simp only [List.mem_cons, List.not_mem_nil, or_false] at hu; rcases hu with rfl | rfl | rfl | rfl <;> rfl)) (.cons (HU1.out.ext (HX4.out.alloc _)).self (.cons (HU2.out.ext (HX4.out.alloc _)).self (.cons (Holds.of_own HO8.out (all2_one (fun a b hab => hab.oneCell) HW8.out) |>.ext (Ext.alloc1 _ _)).self (.cons (HU3.out.ext (HX4.out.alloc _)).self .nil)))) (by omega) (by omega)).mono ?_
        rintro e w9 ⟨a9, c9, rfl, ho5, he5⟩
        have HO9 := Aside.mk ho5
        have HX5 := Aside.mk ((HX4.out.alloc _).trans he5)
        have HA9 := Aside.mk ((HA8.out.alloc _).ext he5)
        have HZ9 := Aside.mk ((HZ8.out.alloc _).ext he5)
        have HE9 := Aside.mk he5
        clear ho5 he5
        obtain ⟨hc9, hf9⟩ := HA9.out.rules
        refine hK.out _ _ (fun _ => HA9.out) ?_; clear hS; intro hS hKept; replace hS := hS (by decide); (try simp only [List.getElem?_toArray, List.getElem?_cons_succ, List.getElem?_cons_zero, List.getElem_toArray, List.getElem_cons_succ, List.getElem_cons_zero, Act.put, List.setIfInBounds_toArray, List.set_cons_zero, List.set_cons_succ])
        refine till_take (i := 23) (oi := _) (v := ?_) rfl (by kernel_rfl) (by kernel_rfl) (by kernel_rfl) (by kernel_rfl) (fun _ _ _ h => h) hKept hS (Or.inl ⟨by rfl, ?_⟩) ?_; rotate_left; (intro wS hSw; have hSc := hSw.cell; go_simp; try with_reducible rfl); intro hKept; (try simp only [List.getElem?_toArray, List.getElem?_cons_succ, List.getElem?_cons_zero, List.getElem_toArray, List.getElem_cons_succ, List.getElem_cons_zero, Act.put, List.setIfInBounds_toArray, List.set_cons_zero, List.set_cons_succ])
        refine till_one (i := 24) (by simp only [List.getElem?_toArray, List.getElem?_cons_succ, List.getElem?_cons_zero]; rfl) (by kernel_rfl) hKept ?_; intro K hK; rw [if_pos (by rfl)]
        go_simp
        refine hK.out _ _ (fun h => absurd rfl h) ?_
        intro _ _
        refine till_done (by kernel_rfl) ?_ _
        have HS1' := Aside.mk (HA9.out.set 13 (.slice a9 g1.Rows.length c9))
        have HA10 : Aside (Box _ w.heap.size 31 #[.int .i64 g1.W, .int .i64 g1.H, .int .i64 g1.X, .int .i64 g1.Y, .bool g1.Wrap, .int .i64 g1.A, .int .i64 g1.Top, .int .i64 g1.Bottom, .int .i64 g1.SX, .int .i64 g1.SY, .int .i64 g1.SA, .bool g1.NoWrap, .bool g1.Hidden, .slice a9 g1.Rows.length c9, .slice ab1 g1.Back.length cb1]) := ⟨HS1'.out.1⟩
        have HZ10 := Aside.mk (HZ9.out.grown HS1'.out.2 (by simp))
        go_wp2_with (first
          | (refine atLoad 31 (.tmp 4) rfl ?_; refine wpList_load_row rfl 31 (.tmp 4) rfl w.heap.size rfl 31 _ (0, 0) _ HA10.out Try.underlying31 rfl size31 ?_)
          | (refine atStore 31 (.tmp 8) (.tmp 69) rfl ?_; refine wpList_store_box _ rfl 31 (.tmp 8) (.tmp 69) rfl (w.heap.size + 1) _ rfl rfl 31 _ HZ10.out size31 rfl rfl ?_; intro w11 hb7 hg7; have HZ11 := Aside.mk hb7; have HG11 := Aside.mk hg7; clear hg7 hb7))
        refine bodyPost_ret (results_cell_row Try.results71 _ _ (w.heap.size + 1) 31 _ (0, 0) _ rfl HZ11.out Try.underlying31 rfl size31) rfl ?_
        rw [HDX.out]
        have hQ := HQ.out
        have hE := HEQ.out
        have hD := HD.out
        have hz3 := HZX.out.lt
        have hz4 := HX4.out.size
        have hlD := upRows_length g1 T B N (by omega) (by omega)
        have ha2 : All2 (OwnC w9 (w.heap.size + 2)) [us.take T, (us.drop D).take (Q - D), ws, us.drop Q].flatten (upRows g1 T B N) := by
          unfold upRows
          refine rows4 ((HUS.out.imp fun a b hab => hab.ext HX5.out).take T) ?_ (HW8.out.imp fun a b hab => (hab.ext ((Ext.alloc1 _ _).trans HE9.out)).mono (by simp at hz3 hz4 ⊢; omega)) ?_
          · (rw [show B + 1 - (T + N) = Q - D from by omega, show T + N = D from by omega]; exact ((HUS.out.imp fun a b hab => hab.ext HX5.out).drop D).take (Q - D))
          · (rw [show B + 1 = Q from by omega]; exact (HUS.out.imp fun a b hab => hab.ext HX5.out).drop Q)
        have hown : OwnR w9 (w.heap.size + 2) (.slice a9 (upRows g1 T B N).length c9) (upRows g1 T B N) := by
          refine ⟨_, ?_, ha2⟩
          rw [hlD]
          exact own_mono HO9.out (by simp at hz3 hz4 ⊢; omega)
        refine ⟨_, a9, c9, ab1, cb1, by simp only [hlD, HBL.out], ⟨rfl⟩, ⟨OwnR.mono (base := w.heap.size + 2) ((hown.keep HS1'.out.2 (by intro j hj hk; omega)).keep HG11.out (by intro j hj hk; omega)) (by omega)⟩, ⟨OwnR.mono (base := w.heap.size + 2) ?_ (by omega)⟩, ⟨?_⟩, ⟨?_⟩⟩
        · have h1 := ((HBX.out.ext HX5.out).keep HS1'.out.2 (by intro j hj hk; omega)).keep HG11.out (by intro j hj hk; omega)
          (try rw [HBL.out])
          exact h1
        · intro k hk hk'
          have h1 := own_base HO9.out k (by rw [hlD] at hk; exact hk)
          obtain ⟨_, h2, _⟩ := HBX.out.ex
          (try simp only [HBL.out] at hk')
          have h3 := own_lt h2 k hk'
          simp at h1 h3 hz4
          omega
        · exact ((HEX.out.trans HX5.out).of_grown HS1'.out.2 (by intro k hk; cases hk; omega)).of_grown HG11.out (by intro k hk; cases hk; omega)
end Go.Proofs.Ytmehkikkjebnnaa
