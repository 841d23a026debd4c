/-
  Walks: grid.Up, grid.Down.
-/
import Derived.Test.YtmehkikkjebnnaaGridB
import Derived.Test.YtmehkikkjebnnaaGridC
import Derived.Test.YtmehkikkjebnnaaDrawn
set_option linter.unusedVariables false
set_option linter.unusedSimpArgs false
namespace Go.Proofs.Ytmehkikkjebnnaa
open Go.RowKit
attribute [local go_sem] max2_i min2_i max_two min_two
attribute [local go_sem ↓] Go.wp_at_zero Go.wp_at_succ

def heldY (g : Grid) (t : Int) : Int := min (max t 0) (max (g.H - 1) 0)
def heldX (g : Grid) (t : Int) : Int := min (max t 0) (max (g.W - 1) 0)
def lastFifty (ll : List (List Cell)) : List (List Cell) := ll.drop (ll.length - 50)
def upRows (g : Grid) (T B N : Nat) : List (List Cell) := g.Rows.take T ++ ((g.Rows.drop (T + N)).take (B + 1 - (T + N)) ++ (List.replicate N (blankRow g.W) ++ g.Rows.drop (B + 1)))
def downRows (g : Grid) (T B N : Nat) : List (List Cell) := g.Rows.take T ++ (List.replicate N (blankRow g.W) ++ ((g.Rows.drop T).take (B + 1 - N - T) ++ g.Rows.drop (B + 1)))
def upG (g : Grid) (top bottom n : Int) : Grid :=
  let T := (heldY g top).toNat
  let B := (heldY g bottom).toNat
  let N := (min (max n 0) ((B : Int) - T + 1)).toNat
  if T ≤ B ∧ B < g.Rows.length then
    { g with Rows := upRows g T B N, Back := if T = 0 then lastFifty (g.Back ++ g.Rows.take N) else g.Back }
  else g
def downG (g : Grid) (top bottom n : Int) : Grid :=
  let T := (heldY g top).toNat
  let B := (heldY g bottom).toNat
  let N := (min (max n 0) ((B : Int) - T + 1)).toNat
  if T ≤ B ∧ B < g.Rows.length then { g with Rows := downRows g T B N } else g

theorem part_eq (g : Grid) (ar : Option Addr) (cr : Nat) (bv : Value) (top bottom n : Int) (T B K : Int) (ok : Bool) (w : World) (hW : 0 ≤ g.W ∧ g.W ≤ 1000000) (hH : 0 ≤ g.H ∧ g.H ≤ 1000000) (hl : g.Rows.length ≤ 1000000)
    (hT : heldY g top = T) (hB : heldY g bottom = B) (hK : min (max n 0) (B - T + 1) = K) (hok : (decide (T ≤ B) && decide (B < g.Rows.length)) = ok) :
    Calls Try.prog 114 #[.agg #[.int .i64 g.W, .int .i64 g.H, .int .i64 g.X, .int .i64 g.Y, .bool g.Wrap, .int .i64 g.A, .int .i64 g.Top, .int .i64 g.Bottom, .int .i64 g.SX, .int .i64 g.SY, .int .i64 g.SA, .bool g.NoWrap, .bool g.Hidden, .slice ar g.Rows.length cr, bv], .int .i64 top, .int .i64 bottom, .int .i64 n] w fun e w' =>
      e = .returned (.tuple #[.int .i64 T, .int .i64 B, .int .i64 K, .bool ok]) ∧ Ext w w' := by
  subst hT hB hK hok
  exact part_any g ar cr bv top bottom n w hW hH hl

theorem Holds.self {w : World} {v : Value} {n : Nat} {xs : List Value} (h : Holds w 1 v n xs) : Holds w 1 v xs.length xs := by
  have := h.len
  rw [Nat.mul_one] at this
  rw [this]
  exact h
theorem concat_at (a : Option Addr) (c : Nat) (vs : List Value) (xss : List (List Value)) (w : World) (m n : Nat) (F : List Value) (hm : xss.length = m) (hF : xss.flatten = F) (hn : F.length = n) (h : Holds w 1 (.slice a m c) m vs)
    (hall : All2 (fun v xs => Holds w 1 v xs.length xs) vs xss) (hl : n ≤ 1000000) (hs : m ≤ 100) :
    Calls Try.prog 116 #[.slice a m c] w (MadeV w n F) := by
  subst hm hF hn
  exact concat_rows a c vs xss w h hall hl hs
section
variable {w : World} {b n cr : Nat} {vs : List Value} (h : Holds w 1 (.slice (some ⟨b, 0, none⟩) n cr) n vs)
include h
theorem pieceLow (T : Nat) (hT : T ≤ n) : Holds w 1 (.slice (some ⟨b, 0, none⟩) T cr) T (vs.take T) := by
  have := Holds.pre h T hT
  rwa [Nat.mul_one] at this
theorem pieceHigh (lo : Nat) (hl : lo ≤ n) : Holds w 1 (.slice (some ⟨b, lo, none⟩) (n - lo) (cr - lo)) (n - lo) (vs.drop lo) := by
  have := Holds.suf h lo hl
  rwa [Nat.mul_one, Nat.zero_add] at this
theorem pieceMid (lo m : Nat) (hl : lo + m ≤ n) : Holds w 1 (.slice (some ⟨b, lo, none⟩) m (cr - lo)) m ((vs.drop lo).take m) := by
  have := Holds.pre (pieceHigh h lo (by omega)) m (by omega)
  rwa [Nat.mul_one] at this
end
theorem OwnR.head {w : World} {base n c : Nat} {a : Option Addr} {ll : List (List Cell)} (h : OwnR w base (.slice a n c) ll) (hl : 0 < ll.length) : ∃ b, a = some ⟨b, 0, none⟩ ∧ base ≤ b ∧ b < w.heap.size := by
  obtain ⟨vs, h1, _⟩ := h.ex
  rcases h1.2 with ⟨e1, e2⟩ | ⟨g, cap, cur, e1, hb, hg, _⟩
  · omega
  · injection e1 with e1 _ _
    exact ⟨g, e1, hb, (Array.getElem?_eq_some_iff.1 hg).1⟩

theorem rows4 {R : Value → List Cell → Prop} {v1 v2 v3 v4 : List Value} {l1 l2 l3 l4 : List (List Cell)} (h1 : All2 R v1 l1) (h2 : All2 R v2 l2) (h3 : All2 R v3 l3) (h4 : All2 R v4 l4) : All2 R [v1, v2, v3, v4].flatten (l1 ++ (l2 ++ (l3 ++ l4))) := by
  have := h1.append (h2.append (h3.append h4))
  simpa using this
theorem downRows_length (g : Grid) (T B N : Nat) (h1 : T + N ≤ B + 1) (h2 : B < g.Rows.length) : (downRows g T B N).length = g.Rows.length := by
  unfold downRows
  simp only [List.length_append, List.length_take, List.length_replicate, List.length_drop]
  omega
theorem upRows_length (g : Grid) (T B N : Nat) (h1 : T + N ≤ B + 1) (h2 : B < g.Rows.length) : (upRows g T B N).length = g.Rows.length := by
  unfold upRows
  simp only [List.length_append, List.length_take, List.length_replicate, List.length_drop]
  omega
theorem blanks_nat (W : Int) (N : Nat) (w : World) (hn : N ≤ 1000000) : Calls Try.prog 103 #[.int .i64 W, .int .i64 N] w fun e w' =>
    ∃ a c vs, e = .returned (.slice a N c) ∧ w'.ownsRow w.heap.size 51 1 (.slice a N c) N vs ∧ All2 (OwnC w' w.heap.size) vs (List.replicate N (blankRow W)) ∧ Ext w w' := by
  refine (blanks_any W N w (by omega)).mono ?_
  rintro e w1 ⟨a, c, rfl, ho, he⟩
  obtain ⟨vs, h1, h2⟩ := ho.ex
  unfold blankRows at h1 h2 ⊢
  rw [List.length_replicate, Int.toNat_natCast] at h1
  rw [Int.toNat_natCast] at h2
  rw [List.length_replicate, Int.toNat_natCast]
  exact ⟨a, c, vs, rfl, h1, h2, he⟩

set_option maxRecDepth 100000 in
set_option maxHeartbeats 10000000 in
theorem Down_any (g : Grid) (ar ab : Option Addr) (cr cb : Nat) (top bottom n : Int) (w : World) (hr : RowsAt w (.slice ar g.Rows.length cr) g.Rows) (hb : RowsAt w (.slice ab g.Back.length cb) g.Back) (hsr : Small g.Rows) (hsb : Small g.Back)
    (hW : 0 ≤ g.W ∧ g.W ≤ 1000000) (hH : 0 ≤ g.H ∧ g.H ≤ 1000000) :
    Calls Try.prog 72 #[.agg #[.int .i64 g.W, .int .i64 g.H, .int .i64 g.X, .int .i64 g.Y, .bool g.Wrap, .int .i64 g.A, .int .i64 g.Top, .int .i64 g.Bottom, .int .i64 g.SX, .int .i64 g.SY, .int .i64 g.SA, .bool g.NoWrap, .bool g.Hidden, .slice ar g.Rows.length cr, .slice ab g.Back.length cb], .int .i64 top, .int .i64 bottom, .int .i64 n] w (PassG w.heap.size w (downG g top bottom n)) := by
  have hlen : g.Rows.length ≤ 100000 := hsr.1
  have HR := Aside.mk hr
  have HB := Aside.mk hb
  clear hr hb
  have HA := Aside.mk ((Box.new w 31 #[.int .i64 g.W, .int .i64 g.H, .int .i64 g.X, .int .i64 g.Y, .bool g.Wrap, .int .i64 g.A, .int .i64 g.Top, .int .i64 g.Bottom, .int .i64 g.SX, .int .i64 g.SY, .int .i64 g.SA, .bool g.NoWrap, .bool g.Hidden, .slice ar g.Rows.length cr, .slice ab g.Back.length cb]).alloc (.cells #[.int .i64 0, .int .i64 0, .int .i64 0, .int .i64 0, .bool false, .int .i64 0, .int .i64 0, .int .i64 0, .int .i64 0, .int .i64 0, .int .i64 0, .bool false, .bool false, .slice none 0 0, .slice none 0 0] 31))
  have HZ := Aside.mk (Box.newAt (w.alloc (.cells #[.int .i64 g.W, .int .i64 g.H, .int .i64 g.X, .int .i64 g.Y, .bool g.Wrap, .int .i64 g.A, .int .i64 g.Top, .int .i64 g.Bottom, .int .i64 g.SX, .int .i64 g.SY, .int .i64 g.SA, .bool g.NoWrap, .bool g.Hidden, .slice ar g.Rows.length cr, .slice ab g.Back.length cb] 31)) 31 #[.int .i64 0, .int .i64 0, .int .i64 0, .int .i64 0, .bool false, .int .i64 0, .int .i64 0, .int .i64 0, .int .i64 0, .int .i64 0, .int .i64 0, .bool false, .bool false, .slice none 0 0, .slice none 0 0] (w.heap.size + 1) (by simp))
  have HW := Aside.mk ((Ext.alloc1 w (.cells #[.int .i64 g.W, .int .i64 g.H, .int .i64 g.X, .int .i64 g.Y, .bool g.Wrap, .int .i64 g.A, .int .i64 g.Top, .int .i64 g.Bottom, .int .i64 g.SX, .int .i64 g.SY, .int .i64 g.SA, .bool g.NoWrap, .bool g.Hidden, .slice ar g.Rows.length cr, .slice ab g.Back.length cb] 31)).alloc (.cells #[.int .i64 0, .int .i64 0, .int .i64 0, .int .i64 0, .bool false, .int .i64 0, .int .i64 0, .int .i64 0, .int .i64 0, .int .i64 0, .int .i64 0, .bool false, .bool false, .slice none 0 0, .slice none 0 0] 31))
  obtain ⟨T, hT⟩ := Int.eq_ofNat_of_zero_le (show 0 ≤ heldY g top from by unfold heldY; omega)
  obtain ⟨B, hB⟩ := Int.eq_ofNat_of_zero_le (show 0 ≤ heldY g bottom from by unfold heldY; omega)
  have hB1 : B ≤ 1000000 := by unfold heldY at hB; omega
  have hT1 : T ≤ 1000000 := by unfold heldY at hT; omega
  have hK0 : min (max n 0) ((B : Int) - T + 1) ≤ 1000001 := by omega
  obtain ⟨ok, hok⟩ : ∃ ok, (decide ((T : Int) ≤ B) && decide ((B : Int) < g.Rows.length)) = ok := ⟨_, rfl⟩
  obtain ⟨K, hK⟩ : ∃ K, min (max n 0) ((B : Int) - T + 1) = K := ⟨_, rfl⟩
  have HTT := Aside.mk hT
  have HBB := Aside.mk hB
  have HK := Aside.mk hK
  have HOK := Aside.mk hok
  clear hT hB hK hok
  have hs2 : w.heap.size + 2 ≤ w.heap.size + 2 := Nat.le_refl _
  cases ok
  · have hdn : downG g top bottom n = g := by
      have h1 := HOK.out
      unfold downG
      rw [HTT.out, HBB.out]
      simp only [Int.toNat_natCast]
      rw [if_neg]
      intro h2
      simp at h1
      omega
    rw [hdn]
    go_enter Try.func72, Try.ntmps72
    go_wp2_with (first
      | (refine atLoad 31 (.tmp 4) rfl ?_; refine wpList_load_row rfl 31 (.tmp 4) rfl w.heap.size rfl 31 #[.int .i64 g.W, .int .i64 g.H, .int .i64 g.X, .int .i64 g.Y, .bool g.Wrap, .int .i64 g.A, .int .i64 g.Top, .int .i64 g.Bottom, .int .i64 g.SX, .int .i64 g.SY, .int .i64 g.SA, .bool g.NoWrap, .bool g.Hidden, .slice ar g.Rows.length cr, .slice ab g.Back.length cb] (0, 0) _ HA.out Try.underlying31 rfl size31 ?_)
      | (go_at_call 33; refine (Still_any g _ _ _ _ _ (HR.out.ext HW.out) (HB.out.ext HW.out) hsr hsb).mono ?_; rintro e w1 ⟨g1, ar1, cr1, ab1, cb1, rfl, hg1, HO1, HP1, HN1, HE1⟩; obtain ⟨rfl⟩ := hg1; have HA1 := Aside.mk (HA.out.ext HE1.out); have HZ1 := Aside.mk (HZ.out.ext HE1.out))
      | (refine atStore 31 (.tmp 4) (.tmp 11) rfl ?_; refine wpList_store_box _ rfl 31 (.tmp 4) (.tmp 11) rfl w.heap.size _ rfl rfl 31 _ HA1.out size31 rfl rfl ?_; intro w2 ha2 hg2; have HA2 := Aside.mk ha2; have HG2 := Aside.mk hg2; have HZ2 := Aside.mk (HZ1.out.grown hg2 (by simp)); clear hg2 ha2)
      | (refine atLoad 31 (.tmp 4) rfl ?_; refine wpList_load_row rfl 31 (.tmp 4) rfl w.heap.size rfl 31 #[.int .i64 g1.W, .int .i64 g1.H, .int .i64 g1.X, .int .i64 g1.Y, .bool g1.Wrap, .int .i64 g1.A, .int .i64 g1.Top, .int .i64 g1.Bottom, .int .i64 g1.SX, .int .i64 g1.SY, .int .i64 g1.SA, .bool g1.NoWrap, .bool g1.Hidden, .slice ar1 g1.Rows.length cr1, .slice ab1 g1.Back.length cb1] (0, 0) _ HA2.out Try.underlying31 rfl size31 ?_)
      | (go_at_call 114; refine (part_eq g1 _ _ _ _ _ _ T B _ _ _ hW hH (by omega) HTT.out HBB.out HK.out HOK.out).mono ?_; rintro e w3 ⟨rfl, he3⟩; have HE3 := Aside.mk he3; have HA3 := Aside.mk (HA2.out.ext he3); have HZ3 := Aside.mk (HZ2.out.ext he3); clear he3)
      | (refine atLoad 31 (.tmp 4) rfl ?_; refine wpList_load_row rfl 31 (.tmp 4) rfl w.heap.size rfl 31 #[.int .i64 g1.W, .int .i64 g1.H, .int .i64 g1.X, .int .i64 g1.Y, .bool g1.Wrap, .int .i64 g1.A, .int .i64 g1.Top, .int .i64 g1.Bottom, .int .i64 g1.SX, .int .i64 g1.SY, .int .i64 g1.SA, .bool g1.NoWrap, .bool g1.Hidden, .slice ar1 g1.Rows.length cr1, .slice ab1 g1.Back.length cb1] (0, 0) _ HA3.out Try.underlying31 rfl size31 ?_)
      | (refine atStore 31 (.tmp 8) (.tmp 24) rfl ?_; refine wpList_store_box _ rfl 31 (.tmp 8) (.tmp 24) rfl (w.heap.size + 1) _ rfl rfl 31 _ HZ3.out size31 rfl rfl ?_; intro w4 hb4 hg4; have HZ4 := Aside.mk hb4; have HG4 := Aside.mk hg4; clear hg4 hb4))
    refine bodyPost_ret (results_cell_row Try.results72 _ _ (w.heap.size + 1) 31 _ (0, 0) _ rfl HZ4.out Try.underlying31 rfl size31) rfl ?_
    have hst : ((w.alloc (.cells #[.int .i64 g1.W, .int .i64 g1.H, .int .i64 g1.X, .int .i64 g1.Y, .bool g1.Wrap, .int .i64 g1.A, .int .i64 g1.Top, .int .i64 g1.Bottom, .int .i64 g1.SX, .int .i64 g1.SY, .int .i64 g1.SA, .bool g1.NoWrap, .bool g1.Hidden, .slice ar g1.Rows.length cr, .slice ab g1.Back.length cb] 31)).alloc (.cells #[.int .i64 0, .int .i64 0, .int .i64 0, .int .i64 0, .bool false, .int .i64 0, .int .i64 0, .int .i64 0, .int .i64 0, .int .i64 0, .int .i64 0, .bool false, .bool false, .slice none 0 0, .slice none 0 0] 31)).heap.size = w.heap.size + 2 := by simp
    rw [hst] at HO1 HP1
    refine PassG.mk' g1 (OwnR.mono (base := w.heap.size + 2) (((HO1.out.keep HG2.out (by intro j hj hk; omega)).ext HE3.out).keep HG4.out (by intro j hj hk; omega)) (by omega)) (OwnR.mono (base := w.heap.size + 2) (((HP1.out.keep HG2.out (by intro j hj hk; omega)).ext HE3.out).keep HG4.out (by intro j hj hk; omega)) (by omega)) HN1.out ?_
    exact (((HW.out.trans HE1.out).of_grown HG2.out (by intro k hk; cases hk; omega)).trans HE3.out).of_grown HG4.out (by intro k hk; cases hk; omega)
  · have h1 := HOK.out
    simp only [Bool.and_eq_true, decide_eq_true_eq] at h1
    obtain ⟨h1, h2⟩ := h1
    obtain ⟨N, hN⟩ := Int.eq_ofNat_of_zero_le (show 0 ≤ K from by have := HK.out; omega)
    subst hN
    obtain ⟨Q, hQ⟩ : ∃ Q, Q = B + 1 := ⟨_, rfl⟩
    have hNQ : (N : Int) ≤ Q - T := by have := HK.out; omega
    obtain ⟨E, hE⟩ : ∃ E, E = Q - N := ⟨_, rfl⟩
    have hdn : downG g top bottom n = { g with Rows := downRows g T B N } := by
      unfold downG
      rw [HTT.out, HBB.out]
      simp only [Int.toNat_natCast]
      rw [if_pos (by omega), HK.out, Int.toNat_natCast]
    have HDN := Aside.mk hdn
    clear hdn
    have hw1 : IntKind.i64.wrap ((B : Int) + 1) = (Q : Int) := by rw [show (B : Int) + 1 = (Q : Int) from by omega]; exact IntWalk.i64_in _ (by omega)
    have hw2 : IntKind.i64.wrap ((Q : Int) - (N : Int)) = (E : Int) := by rw [show (Q : Int) - N = (E : Int) from by omega]; exact IntWalk.i64_in _ (by omega)
    have hT0 : (0 : Int) ≤ (T : Int) := by omega
    have hQ0 : (0 : Int) ≤ (Q : Int) := by omega
    have hE0 : (0 : Int) ≤ (E : Int) := by omega
    have hTE' : T + (E - T) = E := by omega
    have hTE : (T : Int) ≤ (E : Int) := by omega
    have HSUM := Aside.mk (show T + (N + ((E - T) + (g.Rows.length - Q))) = g.Rows.length from by omega)
    have hEQ1 : (E : Int) ≤ (Q : Int) := by omega
    have hTQ1 : (T : Int) < (Q : Int) := by omega
    have hQn : Q ≤ g.Rows.length := by omega
    have HQ := Aside.mk hQ
    have HEQ := Aside.mk hE
    have hQl : (Q : Int) ≤ (g.Rows.length : Int) := by omega
    clear hQ hE
    go_enter Try.func72, Try.ntmps72
    go_wp2_with (first
      | (refine atLoad 31 (.tmp 4) rfl ?_; refine wpList_load_row rfl 31 (.tmp 4) rfl w.heap.size rfl 31 #[.int .i64 g.W, .int .i64 g.H, .int .i64 g.X, .int .i64 g.Y, .bool g.Wrap, .int .i64 g.A, .int .i64 g.Top, .int .i64 g.Bottom, .int .i64 g.SX, .int .i64 g.SY, .int .i64 g.SA, .bool g.NoWrap, .bool g.Hidden, .slice ar g.Rows.length cr, .slice ab g.Back.length cb] (0, 0) _ HA.out Try.underlying31 rfl size31 ?_)
      | (go_at_call 33; refine (Still_any g _ _ _ _ _ (HR.out.ext HW.out) (HB.out.ext HW.out) hsr hsb).mono ?_; rintro e w1 ⟨g1, ar1, cr1, ab1, cb1, rfl, hg1, HO1, HP1, HN1, HE1⟩; obtain ⟨rfl⟩ := hg1; have HA1 := Aside.mk (HA.out.ext HE1.out); have HZ1 := Aside.mk (HZ.out.ext HE1.out))
      | (refine atStore 31 (.tmp 4) (.tmp 11) rfl ?_; refine wpList_store_box _ rfl 31 (.tmp 4) (.tmp 11) rfl w.heap.size _ rfl rfl 31 _ HA1.out size31 rfl rfl ?_; intro w2 ha2 hg2; have HA2 := Aside.mk ha2; have HG2 := Aside.mk hg2; have HZ2 := Aside.mk (HZ1.out.grown hg2 (by simp)); clear hg2 ha2)
      | (refine atLoad 31 (.tmp 4) rfl ?_; refine wpList_load_row rfl 31 (.tmp 4) rfl w.heap.size rfl 31 #[.int .i64 g1.W, .int .i64 g1.H, .int .i64 g1.X, .int .i64 g1.Y, .bool g1.Wrap, .int .i64 g1.A, .int .i64 g1.Top, .int .i64 g1.Bottom, .int .i64 g1.SX, .int .i64 g1.SY, .int .i64 g1.SA, .bool g1.NoWrap, .bool g1.Hidden, .slice ar1 g1.Rows.length cr1, .slice ab1 g1.Back.length cb1] (0, 0) _ HA2.out Try.underlying31 rfl size31 ?_)
      | (go_at_call 114; refine (part_eq g1 _ _ _ _ _ _ T B _ _ _ hW hH (by omega) HTT.out HBB.out HK.out HOK.out).mono ?_; rintro e w3 ⟨rfl, he3⟩; have HE3 := Aside.mk he3; have HA3 := Aside.mk (HA2.out.ext he3); have HZ3 := Aside.mk (HZ2.out.ext he3); clear he3)
      | (refine atLoad 31 (.tmp 4) rfl ?_; refine wpList_load_row rfl 31 (.tmp 4) rfl w.heap.size rfl 31 #[.int .i64 g1.W, .int .i64 g1.H, .int .i64 g1.X, .int .i64 g1.Y, .bool g1.Wrap, .int .i64 g1.A, .int .i64 g1.Top, .int .i64 g1.Bottom, .int .i64 g1.SX, .int .i64 g1.SY, .int .i64 g1.SA, .bool g1.NoWrap, .bool g1.Hidden, .slice ar1 g1.Rows.length cr1, .slice ab1 g1.Back.length cb1] (0, 0) _ HA3.out Try.underlying31 rfl size31 ?_)
      | (refine atStore 31 (.tmp 8) (.tmp 24) rfl ?_; refine wpList_store_box _ rfl 31 (.tmp 8) (.tmp 24) rfl (w.heap.size + 1) _ rfl rfl 31 _ HZ3.out size31 rfl rfl ?_; intro w4 hb4 hg4; have HZ4 := Aside.mk hb4; have HG4 := Aside.mk hg4; clear hg4 hb4))
    have hcap : g1.Rows.length ≤ cr1 := by obtain ⟨_, _, hv, hle, _⟩ := HO1.out.at_.slice; injection hv with _ _ e3; omega
    have hQc : (Q : Int) ≤ (cr1 : Int) := by omega
    have hEc : (E : Int) ≤ (cr1 : Int) := by omega
    have hTc : (T : Int) ≤ (cr1 : Int) := by omega
    have hcT : ¬ (cr1 = T) := by omega
    have hst : ((w.alloc (.cells #[.int .i64 g1.W, .int .i64 g1.H, .int .i64 g1.X, .int .i64 g1.Y, .bool g1.Wrap, .int .i64 g1.A, .int .i64 g1.Top, .int .i64 g1.Bottom, .int .i64 g1.SX, .int .i64 g1.SY, .int .i64 g1.SA, .bool g1.NoWrap, .bool g1.Hidden, .slice ar g1.Rows.length cr, .slice ab g1.Back.length cb] 31)).alloc (.cells #[.int .i64 0, .int .i64 0, .int .i64 0, .int .i64 0, .bool false, .int .i64 0, .int .i64 0, .int .i64 0, .int .i64 0, .int .i64 0, .int .i64 0, .bool false, .bool false, .slice none 0 0, .slice none 0 0] 31)).heap.size = w.heap.size + 2 := by simp
    rw [hst] at HO1 HP1
    obtain ⟨k1, hk0, hk1, hk2⟩ := HO1.out.head (by omega)
    subst hk0
    have HO3 := Aside.mk ((HO1.out.keep HG2.out (by intro j hj hk; omega)).ext HE3.out)
    have HP3 := Aside.mk ((HP1.out.keep HG2.out (by intro j hj hk; omega)).ext HE3.out)
    have HE3 := Aside.mk (((HW.out.trans HE1.out).of_grown HG2.out (by intro k hk; cases hk; omega)).trans HE3.out)
    obtain ⟨vs, hv1, hv2⟩ := HO3.out.ex
    have hv3 := Holds.of_own hv1 (all2_one (fun a b hab => hab.oneCell) hv2)
    have HV1 := Aside.mk (pieceLow hv3 T (by omega))
    have HV2 := Aside.mk (pieceMid hv3 T (E - T) (by omega))
    have HV3 := Aside.mk (pieceHigh hv3 Q (by omega))
    have HVS := Aside.mk hv2
    clear hv1 hv2 hv3
    obtain ⟨hc3, hf3⟩ := HA3.out.rules
    generalize (.agg #[.int .i64 g1.W, .int .i64 g1.H, .int .i64 g1.X, .int .i64 g1.Y, .bool g1.Wrap, .int .i64 g1.A, .int .i64 g1.Top, .int .i64 g1.Bottom, .int .i64 g1.SX, .int .i64 g1.SY, .int .i64 g1.SA, .bool g1.NoWrap, .bool g1.Hidden, .slice ar g1.Rows.length cr, .slice ab g1.Back.length cb] : Value) = G0
    generalize (.agg #[.int .i64 g1.W, .int .i64 g1.H, .int .i64 g1.X, .int .i64 g1.Y, .bool g1.Wrap, .int .i64 g1.A, .int .i64 g1.Top, .int .i64 g1.Bottom, .int .i64 g1.SX, .int .i64 g1.SY, .int .i64 g1.SA, .bool g1.NoWrap, .bool g1.Hidden, .slice (some ⟨k1, 0, none⟩) g1.Rows.length cr1, .slice ab1 g1.Back.length cb1] : Value) = G1
    by_cases hcQ : cr1 = Q
    · subst hcQ
      refine wp_region_till 24 (fun w' => Box w' w.heap.size 31 #[.int .i64 g1.W, .int .i64 g1.H, .int .i64 g1.X, .int .i64 g1.Y, .bool g1.Wrap, .int .i64 g1.A, .int .i64 g1.Top, .int .i64 g1.Bottom, .int .i64 g1.SX, .int .i64 g1.SY, .int .i64 g1.SA, .bool g1.NoWrap, .bool g1.Hidden, .slice (some ⟨k1, 0, none⟩) g1.Rows.length cr1, .slice ab1 g1.Back.length cb1]) (by rfl) HA3.out.drew ?_
      intro hS
      refine ⟨kept_none _ rfl, fun hKept => ?_⟩
      refine till_take (i := 0) (oi := _) (v := ?_) rfl (by kernel_rfl) (by kernel_rfl) (by kernel_rfl) (by kernel_rfl) (fun _ _ _ h => h) hKept hS (Or.inl ⟨by rfl, ?_⟩) ?_; rotate_left; (intro wS hSw; have hSc := hSw.cell; go_simp; try with_reducible rfl); intro hKept; (try simp only [List.getElem?_toArray, List.getElem?_cons_succ, List.getElem?_cons_zero, List.getElem_toArray, List.getElem_cons_succ, List.getElem_cons_zero, Act.put, List.setIfInBounds_toArray, List.set_cons_zero, List.set_cons_succ])
      refine till_take (i := 1) (oi := _) (v := ?_) rfl (by kernel_rfl) (by kernel_rfl) (by kernel_rfl) (by kernel_rfl) (fun _ _ _ h => h) hKept hS (Or.inl ⟨by rfl, ?_⟩) ?_; rotate_left; (intro wS hSw; have hSc := hSw.cell; go_simp; try with_reducible rfl); intro hKept; (try simp only [List.getElem?_toArray, List.getElem?_cons_succ, List.getElem?_cons_zero, List.getElem_toArray, List.getElem_cons_succ, List.getElem_cons_zero, Act.put, List.setIfInBounds_toArray, List.set_cons_zero, List.set_cons_succ])
      refine till_take (i := 2) (oi := _) (v := ?_) rfl (by kernel_rfl) (by kernel_rfl) (by kernel_rfl) (by kernel_rfl) (fun _ _ _ h => h) hKept hS (Or.inl ⟨by rfl, ?_⟩) ?_; rotate_left; (intro wS hSw; have hSc := hSw.cell; go_simp; try with_reducible rfl); intro hKept; (try simp only [List.getElem?_toArray, List.getElem?_cons_succ, List.getElem?_cons_zero, List.getElem_toArray, List.getElem_cons_succ, List.getElem_cons_zero, Act.put, List.setIfInBounds_toArray, List.set_cons_zero, List.set_cons_succ])
      refine till_take (i := 3) (oi := _) (v := ?_) rfl (by kernel_rfl) (by kernel_rfl) (by kernel_rfl) (by kernel_rfl) (fun _ _ _ h => h) hKept hS (Or.inl ⟨by rfl, ?_⟩) ?_; rotate_left; (intro wS hSw; have hSc := hSw.cell; go_simp; try with_reducible rfl); intro hKept; (try simp only [List.getElem?_toArray, List.getElem?_cons_succ, List.getElem?_cons_zero, List.getElem_toArray, List.getElem_cons_succ, List.getElem_cons_zero, Act.put, List.setIfInBounds_toArray, List.set_cons_zero, List.set_cons_succ])
      refine till_take (i := 4) (oi := _) (v := ?_) rfl (by kernel_rfl) (by kernel_rfl) (by kernel_rfl) (by kernel_rfl) (fun _ _ _ h => h) hKept hS (Or.inl ⟨by rfl, ?_⟩) ?_; rotate_left; (intro wS hSw; have hSc := hSw.cell; go_simp; try with_reducible rfl); intro hKept; (try simp only [List.getElem?_toArray, List.getElem?_cons_succ, List.getElem?_cons_zero, List.getElem_toArray, List.getElem_cons_succ, List.getElem_cons_zero, Act.put, List.setIfInBounds_toArray, List.set_cons_zero, List.set_cons_succ])
      refine till_take (i := 5) (oi := _) (v := ?_) rfl (by kernel_rfl) (by kernel_rfl) (by kernel_rfl) (by kernel_rfl) (fun _ _ _ h => h) hKept hS (Or.inl ⟨by rfl, ?_⟩) ?_; rotate_left; (intro wS hSw; have hSc := hSw.cell; go_simp; try with_reducible rfl); intro hKept; (try simp only [List.getElem?_toArray, List.getElem?_cons_succ, List.getElem?_cons_zero, List.getElem_toArray, List.getElem_cons_succ, List.getElem_cons_zero, Act.put, List.setIfInBounds_toArray, List.set_cons_zero, List.set_cons_succ])
      refine till_take (i := 6) (oi := _) (v := ?_) rfl (by kernel_rfl) (by kernel_rfl) (by kernel_rfl) (by kernel_rfl) (fun _ _ _ h => h) hKept hS (Or.inl ⟨by rfl, ?_⟩) ?_; rotate_left; (intro wS hSw; have hSc := hSw.cell; go_simp; try with_reducible rfl); intro hKept; (try simp only [List.getElem?_toArray, List.getElem?_cons_succ, List.getElem?_cons_zero, List.getElem_toArray, List.getElem_cons_succ, List.getElem_cons_zero, Act.put, List.setIfInBounds_toArray, List.set_cons_zero, List.set_cons_succ])
      refine till_take (i := 8) (oi := _) (v := ?_) rfl (by kernel_rfl) (by kernel_rfl) (by kernel_rfl) (by kernel_rfl) (fun _ _ _ h => h) hKept hS (Or.inl ⟨by rfl, ?_⟩) ?_; rotate_left; (intro wS hSw; have hSc := hSw.cell; go_simp; try with_reducible rfl); intro hKept; (try simp only [List.getElem?_toArray, List.getElem?_cons_succ, List.getElem?_cons_zero, List.getElem_toArray, List.getElem_cons_succ, List.getElem_cons_zero, Act.put, List.setIfInBounds_toArray, List.set_cons_zero, List.set_cons_succ])
      refine till_take (i := 9) (oi := _) (v := ?_) rfl (by kernel_rfl) (by kernel_rfl) (by kernel_rfl) (by kernel_rfl) (fun _ _ _ h => h) hKept hS (Or.inl ⟨by rfl, ?_⟩) ?_; rotate_left; (intro wS hSw; have hSc := hSw.cell; go_simp; try with_reducible rfl); intro hKept; (try simp only [List.getElem?_toArray, List.getElem?_cons_succ, List.getElem?_cons_zero, List.getElem_toArray, List.getElem_cons_succ, List.getElem_cons_zero, Act.put, List.setIfInBounds_toArray, List.set_cons_zero, List.set_cons_succ])
      refine till_take (i := 10) (oi := _) (v := ?_) rfl (by kernel_rfl) (by kernel_rfl) (by kernel_rfl) (by kernel_rfl) (fun _ _ _ h => h) hKept hS (Or.inl ⟨by rfl, ?_⟩) ?_; rotate_left; (intro wS hSw; have hSc := hSw.cell; go_simp; try with_reducible rfl); intro hKept; (try simp only [List.getElem?_toArray, List.getElem?_cons_succ, List.getElem?_cons_zero, List.getElem_toArray, List.getElem_cons_succ, List.getElem_cons_zero, Act.put, List.setIfInBounds_toArray, List.set_cons_zero, List.set_cons_succ])
      refine till_take (i := 11) (oi := _) (v := ?_) rfl (by kernel_rfl) (by kernel_rfl) (by kernel_rfl) (by kernel_rfl) (fun _ _ _ h => h) hKept hS (Or.inl ⟨by rfl, ?_⟩) ?_; rotate_left; (intro wS hSw; have hSc := hSw.cell; go_simp; try with_reducible rfl); intro hKept; (try simp only [List.getElem?_toArray, List.getElem?_cons_succ, List.getElem?_cons_zero, List.getElem_toArray, List.getElem_cons_succ, List.getElem_cons_zero, Act.put, List.setIfInBounds_toArray, List.set_cons_zero, List.set_cons_succ])
      refine till_take (i := 12) (oi := _) (v := ?_) rfl (by kernel_rfl) (by kernel_rfl) (by kernel_rfl) (by kernel_rfl) (fun _ _ _ h => h) hKept hS (Or.inl ⟨by rfl, ?_⟩) ?_; rotate_left; (intro wS hSw; have hSc := hSw.cell; go_simp; try with_reducible rfl); intro hKept; (try simp only [List.getElem?_toArray, List.getElem?_cons_succ, List.getElem?_cons_zero, List.getElem_toArray, List.getElem_cons_succ, List.getElem_cons_zero, Act.put, List.setIfInBounds_toArray, List.set_cons_zero, List.set_cons_succ])
      refine till_take (i := 13) (oi := _) (v := ?_) rfl (by kernel_rfl) (by kernel_rfl) (by kernel_rfl) (by kernel_rfl) (fun _ _ _ h => h) hKept hS (Or.inl ⟨by rfl, ?_⟩) ?_; rotate_left; (intro wS hSw; have hSc := hSw.cell; go_simp; try with_reducible rfl); intro hKept; (try simp only [List.getElem?_toArray, List.getElem?_cons_succ, List.getElem?_cons_zero, List.getElem_toArray, List.getElem_cons_succ, List.getElem_cons_zero, Act.put, List.setIfInBounds_toArray, List.set_cons_zero, List.set_cons_succ])
      refine till_take (i := 14) (oi := _) (v := ?_) rfl (by kernel_rfl) (by kernel_rfl) (by kernel_rfl) (by kernel_rfl) (fun _ _ _ h => h) hKept hS (Or.inl ⟨by rfl, ?_⟩) ?_; rotate_left; (intro wS hSw; have hSc := hSw.cell; go_simp; try with_reducible rfl); intro hKept; (try simp only [List.getElem?_toArray, List.getElem?_cons_succ, List.getElem?_cons_zero, List.getElem_toArray, List.getElem_cons_succ, List.getElem_cons_zero, Act.put, List.setIfInBounds_toArray, List.set_cons_zero, List.set_cons_succ])
      refine till_take (i := 15) (oi := _) (v := ?_) rfl (by kernel_rfl) (by kernel_rfl) (by kernel_rfl) (by kernel_rfl) (fun _ _ _ h => h) hKept hS (Or.inl ⟨by rfl, ?_⟩) ?_; rotate_left; (intro wS hSw; have hSc := hSw.cell; go_simp; try with_reducible rfl); intro hKept; (try simp only [List.getElem?_toArray, List.getElem?_cons_succ, List.getElem?_cons_zero, List.getElem_toArray, List.getElem_cons_succ, List.getElem_cons_zero, Act.put, List.setIfInBounds_toArray, List.set_cons_zero, List.set_cons_succ])
      refine till_take (i := 16) (oi := _) (v := ?_) rfl (by kernel_rfl) (by kernel_rfl) (by kernel_rfl) (by kernel_rfl) (fun _ _ _ h => h) hKept hS (Or.inl ⟨by rfl, ?_⟩) ?_; rotate_left; (intro wS hSw; have hSc := hSw.cell; go_simp; try with_reducible rfl); intro hKept; (try simp only [List.getElem?_toArray, List.getElem?_cons_succ, List.getElem?_cons_zero, List.getElem_toArray, List.getElem_cons_succ, List.getElem_cons_zero, Act.put, List.setIfInBounds_toArray, List.set_cons_zero, List.set_cons_succ])
      refine till_take (i := 17) (oi := _) (v := ?_) rfl (by kernel_rfl) (by kernel_rfl) (by kernel_rfl) (by kernel_rfl) (fun _ _ _ h => h) hKept hS (Or.inl ⟨by rfl, ?_⟩) ?_; rotate_left; (intro wS hSw; have hSc := hSw.cell; go_simp; try with_reducible rfl); intro hKept; (try simp only [List.getElem?_toArray, List.getElem?_cons_succ, List.getElem?_cons_zero, List.getElem_toArray, List.getElem_cons_succ, List.getElem_cons_zero, Act.put, List.setIfInBounds_toArray, List.set_cons_zero, List.set_cons_succ])
      refine till_take (i := 18) (oi := _) (v := ?_) rfl (by kernel_rfl) (by kernel_rfl) (by kernel_rfl) (by kernel_rfl) (fun _ _ _ h => h) hKept hS (Or.inl ⟨by rfl, ?_⟩) ?_; rotate_left; (intro wS hSw; have hSc := hSw.cell; go_simp; try with_reducible rfl); intro hKept; (try simp only [List.getElem?_toArray, List.getElem?_cons_succ, List.getElem?_cons_zero, List.getElem_toArray, List.getElem_cons_succ, List.getElem_cons_zero, Act.put, List.setIfInBounds_toArray, List.set_cons_zero, List.set_cons_succ])
      refine till_take (i := 19) (oi := _) (v := ?_) rfl (by kernel_rfl) (by kernel_rfl) (by kernel_rfl) (by kernel_rfl) (fun _ _ _ h => h) hKept hS (Or.inl ⟨by rfl, ?_⟩) ?_; rotate_left; (intro wS hSw; have hSc := hSw.cell; go_simp; try with_reducible rfl); intro hKept; (try simp only [List.getElem?_toArray, List.getElem?_cons_succ, List.getElem?_cons_zero, List.getElem_toArray, List.getElem_cons_succ, List.getElem_cons_zero, Act.put, List.setIfInBounds_toArray, List.set_cons_zero, List.set_cons_succ])
      refine till_take (i := 20) (oi := _) (v := ?_) rfl (by kernel_rfl) (by kernel_rfl) (by kernel_rfl) (by kernel_rfl) (fun _ _ _ h => h) hKept hS (Or.inl ⟨by rfl, ?_⟩) ?_; rotate_left; (intro wS hSw; have hSc := hSw.cell; go_simp; try with_reducible rfl); intro hKept; (try simp only [List.getElem?_toArray, List.getElem?_cons_succ, List.getElem?_cons_zero, List.getElem_toArray, List.getElem_cons_succ, List.getElem_cons_zero, Act.put, List.setIfInBounds_toArray, List.set_cons_zero, List.set_cons_succ])
      refine till_one (i := 7) (by simp only [List.getElem?_toArray, List.getElem?_cons_succ, List.getElem?_cons_zero]; rfl) (by kernel_rfl) hKept ?_; intro K hK; rw [if_pos (by rfl)]
      go_simp
      refine (blanks_nat g1.W N _ (by omega)).mono ?_
      rintro e w4 ⟨a4, c4, ws, rfl, ho4, hw4, he4⟩
      have HO4 := Aside.mk ho4
      have HW4 := Aside.mk hw4
      have HA4 := Aside.mk (HA3.out.drew.ext he4)
      have HZ4 := Aside.mk (HZ3.out.drew.ext he4)
      have HX4 := Aside.mk (((Ext.refl w3).drew).trans he4)
      clear ho4 hw4 he4 hc3 hf3
      refine hK.out _ _ (fun _ => HA4.out) ?_; clear hS; intro hS hKept; replace hS := hS (by decide); (try simp only [List.getElem?_toArray, List.getElem?_cons_succ, List.getElem?_cons_zero, List.getElem_toArray, List.getElem_cons_succ, List.getElem_cons_zero, Act.put, List.setIfInBounds_toArray, List.set_cons_zero, List.set_cons_succ])
      refine till_one (i := 21) (by simp only [List.getElem?_toArray, List.getElem?_cons_succ, List.getElem?_cons_zero]; rfl) (by kernel_rfl) hKept ?_; intro K hK; rw [if_pos (by rfl)]
      go_simp
      refine hK.out _ _ (fun _ => HA4.out.alloc _) ?_; clear hS; intro hS hKept; replace hS := hS (by decide); (try simp only [List.getElem?_toArray, List.getElem?_cons_succ, List.getElem?_cons_zero, List.getElem_toArray, List.getElem_cons_succ, List.getElem_cons_zero, Act.put, List.setIfInBounds_toArray, List.set_cons_zero, List.set_cons_succ])
      refine till_one (i := 22) (by simp only [List.getElem?_toArray, List.getElem?_cons_succ, List.getElem?_cons_zero]; rfl) (by kernel_rfl) hKept ?_; intro K hK; rw [if_pos (by rfl)]
      go_simp
      refine (concat_at _ _ [_, _, _, _] [vs.take T, ws, (vs.drop T).take (E - T), []] _ 4 g1.Rows.length _ rfl rfl (by have h1 := HV1.out.len; have h2 := HO4.out.1; have h3 := HV2.out.len; have h4 := HSUM.out; have h5 := HV3.out.len; simp only [List.flatten_cons, List.flatten_nil, List.length_append, List.length_nil, h1, h2, h3]; omega) (Holds.newN _ _ 1 4 [_, _, _, _] rfl (by omega) (by intro u hu; simp only [List.mem_cons, List.not_mem_nil, or_false] at hu; rcases hu with rfl | rfl | rfl | rfl <;> rfl)) (.cons (HV1.out.ext (HX4.out.alloc _)).self (.cons (Holds.of_own HO4.out (all2_one (fun a b hab => hab.oneCell) HW4.out) |>.ext (Ext.alloc1 _ _)).self (.cons (HV2.out.ext (HX4.out.alloc _)).self (.cons (Holds.zero _ 1 _ 0 (by unfold maxLen; omega)) .nil)))) (by omega) (by omega)).mono ?_
      rintro e w5 ⟨a5, c5, rfl, ho5, he5⟩
      have HO5 := Aside.mk ho5
      have HX5 := Aside.mk ((HX4.out.alloc _).trans he5)
      have HA5 := Aside.mk ((HA4.out.alloc _).ext he5)
      have HZ5 := Aside.mk ((HZ4.out.alloc _).ext he5)
      have HE5 := Aside.mk he5
      clear ho5 he5
      obtain ⟨hc5, hf5⟩ := HA5.out.rules
      refine hK.out _ _ (fun _ => HA5.out) ?_; clear hS; intro hS hKept; replace hS := hS (by decide); (try simp only [List.getElem?_toArray, List.getElem?_cons_succ, List.getElem?_cons_zero, List.getElem_toArray, List.getElem_cons_succ, List.getElem_cons_zero, Act.put, List.setIfInBounds_toArray, List.set_cons_zero, List.set_cons_succ])
      refine till_take (i := 23) (oi := _) (v := ?_) rfl (by kernel_rfl) (by kernel_rfl) (by kernel_rfl) (by kernel_rfl) (fun _ _ _ h => h) hKept hS (Or.inl ⟨by rfl, ?_⟩) ?_; rotate_left; (intro wS hSw; have hSc := hSw.cell; go_simp; try with_reducible rfl); intro hKept; (try simp only [List.getElem?_toArray, List.getElem?_cons_succ, List.getElem?_cons_zero, List.getElem_toArray, List.getElem_cons_succ, List.getElem_cons_zero, Act.put, List.setIfInBounds_toArray, List.set_cons_zero, List.set_cons_succ])
      refine till_one (i := 24) (by simp only [List.getElem?_toArray, List.getElem?_cons_succ, List.getElem?_cons_zero]; rfl) (by kernel_rfl) hKept ?_; intro K hK; rw [if_pos (by rfl)]
      go_simp
      refine hK.out _ _ (fun h => absurd rfl h) ?_
      intro _ _
      refine till_done (by kernel_rfl) ?_ _
      have HS1 := Aside.mk (HA5.out.set 13 (.slice a5 g1.Rows.length c5))
      have HA6 : Aside (Box _ w.heap.size 31 #[.int .i64 g1.W, .int .i64 g1.H, .int .i64 g1.X, .int .i64 g1.Y, .bool g1.Wrap, .int .i64 g1.A, .int .i64 g1.Top, .int .i64 g1.Bottom, .int .i64 g1.SX, .int .i64 g1.SY, .int .i64 g1.SA, .bool g1.NoWrap, .bool g1.Hidden, .slice a5 g1.Rows.length c5, .slice ab1 g1.Back.length cb1]) := ⟨HS1.out.1⟩
      have HZ6 := Aside.mk (HZ5.out.grown HS1.out.2 (by simp))
      go_wp2_with (first
        | (refine atLoad 31 (.tmp 4) rfl ?_; refine wpList_load_row rfl 31 (.tmp 4) rfl w.heap.size rfl 31 _ (0, 0) _ HA6.out Try.underlying31 rfl size31 ?_)
        | (refine atStore 31 (.tmp 8) (.tmp 49) rfl ?_; refine wpList_store_box _ rfl 31 (.tmp 8) (.tmp 49) rfl (w.heap.size + 1) _ rfl rfl 31 _ HZ6.out size31 rfl rfl ?_; intro w7 hb7 hg7; have HZ7 := Aside.mk hb7; have HG7 := Aside.mk hg7; clear hg7 hb7))
      refine bodyPost_ret (results_cell_row Try.results72 _ _ (w.heap.size + 1) 31 _ (0, 0) _ rfl HZ7.out Try.underlying31 rfl size31) rfl ?_
      rw [HDN.out]
      have hQ := HQ.out
      have hE := HEQ.out
      have hz3 := HZ3.out.lt
      have hz4 := HX4.out.size
      have hlD := downRows_length g1 T B N (by omega) (by omega)
      have ha2 : All2 (OwnC w5 (w.heap.size + 2)) [vs.take T, ws, (vs.drop T).take (E - T), []].flatten (downRows g1 T B N) := by
        unfold downRows
        refine rows4 ((HVS.out.imp fun a b hab => hab.ext HX5.out).take T) (HW4.out.imp fun a b hab => (hab.ext ((Ext.alloc1 _ _).trans HE5.out)).mono (by simp; omega)) ?_ ?_
        · rw [show B + 1 - N - T = E - T from by omega]
          exact ((HVS.out.imp fun a b hab => hab.ext HX5.out).drop T).take (E - T)
        · (rw [List.drop_eq_nil_of_le (by omega)]; exact .nil)
      have hown : OwnR w5 (w.heap.size + 2) (.slice a5 (downRows g1 T B N).length c5) (downRows g1 T B N) := by
        refine ⟨_, ?_, ha2⟩
        rw [hlD]
        exact own_mono HO5.out (by simp; omega)
      refine ⟨_, a5, c5, ab1, cb1, by simp only [hlD], ⟨rfl⟩, ⟨OwnR.mono (base := w.heap.size + 2) ((hown.keep HS1.out.2 (by intro j hj hk; omega)).keep HG7.out (by intro j hj hk; omega)) (by omega)⟩, ⟨OwnR.mono (base := w.heap.size + 2) (((HP3.out.ext HX5.out).keep HS1.out.2 (by intro j hj hk; omega)).keep HG7.out (by intro j hj hk; omega)) (by omega)⟩, ⟨?_⟩, ⟨?_⟩⟩
      · intro k hk hk'
        have h1 := own_base HO5.out k (by rw [hlD] at hk; exact hk)
        obtain ⟨_, h2, _⟩ := HP3.out.ex
        have h3 := own_lt h2 k hk'
        simp at h1
        omega
      · exact ((HE3.out.trans HX5.out).of_grown HS1.out.2 (by intro k hk; cases hk; omega)).of_grown HG7.out (by intro k hk; cases hk; omega)
    ·
      refine wp_region_till 24 (fun w' => Box w' w.heap.size 31 #[.int .i64 g1.W, .int .i64 g1.H, .int .i64 g1.X, .int .i64 g1.Y, .bool g1.Wrap, .int .i64 g1.A, .int .i64 g1.Top, .int .i64 g1.Bottom, .int .i64 g1.SX, .int .i64 g1.SY, .int .i64 g1.SA, .bool g1.NoWrap, .bool g1.Hidden, .slice (some ⟨k1, 0, none⟩) g1.Rows.length cr1, .slice ab1 g1.Back.length cb1]) (by rfl) HA3.out.drew ?_
      intro hS
      refine ⟨kept_none _ rfl, fun hKept => ?_⟩
      refine till_take (i := 0) (oi := _) (v := ?_) rfl (by kernel_rfl) (by kernel_rfl) (by kernel_rfl) (by kernel_rfl) (fun _ _ _ h => h) hKept hS (Or.inl ⟨by rfl, ?_⟩) ?_; rotate_left; (intro wS hSw; have hSc := hSw.cell; go_simp; try with_reducible rfl); intro hKept; (try simp only [List.getElem?_toArray, List.getElem?_cons_succ, List.getElem?_cons_zero, List.getElem_toArray, List.getElem_cons_succ, List.getElem_cons_zero, Act.put, List.setIfInBounds_toArray, List.set_cons_zero, List.set_cons_succ])
      refine till_take (i := 1) (oi := _) (v := ?_) rfl (by kernel_rfl) (by kernel_rfl) (by kernel_rfl) (by kernel_rfl) (fun _ _ _ h => h) hKept hS (Or.inl ⟨by rfl, ?_⟩) ?_; rotate_left; (intro wS hSw; have hSc := hSw.cell; go_simp; try with_reducible rfl); intro hKept; (try simp only [List.getElem?_toArray, List.getElem?_cons_succ, List.getElem?_cons_zero, List.getElem_toArray, List.getElem_cons_succ, List.getElem_cons_zero, Act.put, List.setIfInBounds_toArray, List.set_cons_zero, List.set_cons_succ])
      refine till_take (i := 2) (oi := _) (v := ?_) rfl (by kernel_rfl) (by kernel_rfl) (by kernel_rfl) (by kernel_rfl) (fun _ _ _ h => h) hKept hS (Or.inl ⟨by rfl, ?_⟩) ?_; rotate_left; (intro wS hSw; have hSc := hSw.cell; go_simp; try with_reducible rfl); intro hKept; (try simp only [List.getElem?_toArray, List.getElem?_cons_succ, List.getElem?_cons_zero, List.getElem_toArray, List.getElem_cons_succ, List.getElem_cons_zero, Act.put, List.setIfInBounds_toArray, List.set_cons_zero, List.set_cons_succ])
      refine till_take (i := 3) (oi := _) (v := ?_) rfl (by kernel_rfl) (by kernel_rfl) (by kernel_rfl) (by kernel_rfl) (fun _ _ _ h => h) hKept hS (Or.inl ⟨by rfl, ?_⟩) ?_; rotate_left; (intro wS hSw; have hSc := hSw.cell; go_simp; try with_reducible rfl); intro hKept; (try simp only [List.getElem?_toArray, List.getElem?_cons_succ, List.getElem?_cons_zero, List.getElem_toArray, List.getElem_cons_succ, List.getElem_cons_zero, Act.put, List.setIfInBounds_toArray, List.set_cons_zero, List.set_cons_succ])
      refine till_take (i := 4) (oi := _) (v := ?_) rfl (by kernel_rfl) (by kernel_rfl) (by kernel_rfl) (by kernel_rfl) (fun _ _ _ h => h) hKept hS (Or.inl ⟨by rfl, ?_⟩) ?_; rotate_left; (intro wS hSw; have hSc := hSw.cell; go_simp; try with_reducible rfl); intro hKept; (try simp only [List.getElem?_toArray, List.getElem?_cons_succ, List.getElem?_cons_zero, List.getElem_toArray, List.getElem_cons_succ, List.getElem_cons_zero, Act.put, List.setIfInBounds_toArray, List.set_cons_zero, List.set_cons_succ])
      refine till_take (i := 5) (oi := _) (v := ?_) rfl (by kernel_rfl) (by kernel_rfl) (by kernel_rfl) (by kernel_rfl) (fun _ _ _ h => h) hKept hS (Or.inl ⟨by rfl, ?_⟩) ?_; rotate_left; (intro wS hSw; have hSc := hSw.cell; go_simp; try with_reducible rfl); intro hKept; (try simp only [List.getElem?_toArray, List.getElem?_cons_succ, List.getElem?_cons_zero, List.getElem_toArray, List.getElem_cons_succ, List.getElem_cons_zero, Act.put, List.setIfInBounds_toArray, List.set_cons_zero, List.set_cons_succ])
      refine till_take (i := 6) (oi := _) (v := ?_) rfl (by kernel_rfl) (by kernel_rfl) (by kernel_rfl) (by kernel_rfl) (fun _ _ _ h => h) hKept hS (Or.inl ⟨by rfl, ?_⟩) ?_; rotate_left; (intro wS hSw; have hSc := hSw.cell; go_simp; try with_reducible rfl); intro hKept; (try simp only [List.getElem?_toArray, List.getElem?_cons_succ, List.getElem?_cons_zero, List.getElem_toArray, List.getElem_cons_succ, List.getElem_cons_zero, Act.put, List.setIfInBounds_toArray, List.set_cons_zero, List.set_cons_succ])
      refine till_take (i := 8) (oi := _) (v := ?_) rfl (by kernel_rfl) (by kernel_rfl) (by kernel_rfl) (by kernel_rfl) (fun _ _ _ h => h) hKept hS (Or.inl ⟨by rfl, ?_⟩) ?_; rotate_left; (intro wS hSw; have hSc := hSw.cell; go_simp; try with_reducible rfl); intro hKept; (try simp only [List.getElem?_toArray, List.getElem?_cons_succ, List.getElem?_cons_zero, List.getElem_toArray, List.getElem_cons_succ, List.getElem_cons_zero, Act.put, List.setIfInBounds_toArray, List.set_cons_zero, List.set_cons_succ])
      refine till_take (i := 9) (oi := _) (v := ?_) rfl (by kernel_rfl) (by kernel_rfl) (by kernel_rfl) (by kernel_rfl) (fun _ _ _ h => h) hKept hS (Or.inl ⟨by rfl, ?_⟩) ?_; rotate_left; (intro wS hSw; have hSc := hSw.cell; go_simp; try with_reducible rfl); intro hKept; (try simp only [List.getElem?_toArray, List.getElem?_cons_succ, List.getElem?_cons_zero, List.getElem_toArray, List.getElem_cons_succ, List.getElem_cons_zero, Act.put, List.setIfInBounds_toArray, List.set_cons_zero, List.set_cons_succ])
      refine till_take (i := 10) (oi := _) (v := ?_) rfl (by kernel_rfl) (by kernel_rfl) (by kernel_rfl) (by kernel_rfl) (fun _ _ _ h => h) hKept hS (Or.inl ⟨by rfl, ?_⟩) ?_; rotate_left; (intro wS hSw; have hSc := hSw.cell; go_simp; try with_reducible rfl); intro hKept; (try simp only [List.getElem?_toArray, List.getElem?_cons_succ, List.getElem?_cons_zero, List.getElem_toArray, List.getElem_cons_succ, List.getElem_cons_zero, Act.put, List.setIfInBounds_toArray, List.set_cons_zero, List.set_cons_succ])
      refine till_take (i := 11) (oi := _) (v := ?_) rfl (by kernel_rfl) (by kernel_rfl) (by kernel_rfl) (by kernel_rfl) (fun _ _ _ h => h) hKept hS (Or.inl ⟨by rfl, ?_⟩) ?_; rotate_left; (intro wS hSw; have hSc := hSw.cell; go_simp; try with_reducible rfl); intro hKept; (try simp only [List.getElem?_toArray, List.getElem?_cons_succ, List.getElem?_cons_zero, List.getElem_toArray, List.getElem_cons_succ, List.getElem_cons_zero, Act.put, List.setIfInBounds_toArray, List.set_cons_zero, List.set_cons_succ])
      refine till_take (i := 12) (oi := _) (v := ?_) rfl (by kernel_rfl) (by kernel_rfl) (by kernel_rfl) (by kernel_rfl) (fun _ _ _ h => h) hKept hS (Or.inl ⟨by rfl, ?_⟩) ?_; rotate_left; (intro wS hSw; have hSc := hSw.cell; go_simp; try with_reducible rfl); intro hKept; (try simp only [List.getElem?_toArray, List.getElem?_cons_succ, List.getElem?_cons_zero, List.getElem_toArray, List.getElem_cons_succ, List.getElem_cons_zero, Act.put, List.setIfInBounds_toArray, List.set_cons_zero, List.set_cons_succ])
      refine till_take (i := 13) (oi := _) (v := ?_) rfl (by kernel_rfl) (by kernel_rfl) (by kernel_rfl) (by kernel_rfl) (fun _ _ _ h => h) hKept hS (Or.inl ⟨by rfl, ?_⟩) ?_; rotate_left; (intro wS hSw; have hSc := hSw.cell; go_simp; try with_reducible rfl); intro hKept; (try simp only [List.getElem?_toArray, List.getElem?_cons_succ, List.getElem?_cons_zero, List.getElem_toArray, List.getElem_cons_succ, List.getElem_cons_zero, Act.put, List.setIfInBounds_toArray, List.set_cons_zero, List.set_cons_succ])
      refine till_take (i := 14) (oi := _) (v := ?_) rfl (by kernel_rfl) (by kernel_rfl) (by kernel_rfl) (by kernel_rfl) (fun _ _ _ h => h) hKept hS (Or.inl ⟨by rfl, ?_⟩) ?_; rotate_left; (intro wS hSw; have hSc := hSw.cell; go_simp; try with_reducible rfl); intro hKept; (try simp only [List.getElem?_toArray, List.getElem?_cons_succ, List.getElem?_cons_zero, List.getElem_toArray, List.getElem_cons_succ, List.getElem_cons_zero, Act.put, List.setIfInBounds_toArray, List.set_cons_zero, List.set_cons_succ])
      refine till_take (i := 15) (oi := _) (v := ?_) rfl (by kernel_rfl) (by kernel_rfl) (by kernel_rfl) (by kernel_rfl) (fun _ _ _ h => h) hKept hS (Or.inl ⟨by rfl, ?_⟩) ?_; rotate_left; (intro wS hSw; have hSc := hSw.cell; go_simp; try with_reducible rfl); intro hKept; (try simp only [List.getElem?_toArray, List.getElem?_cons_succ, List.getElem?_cons_zero, List.getElem_toArray, List.getElem_cons_succ, List.getElem_cons_zero, Act.put, List.setIfInBounds_toArray, List.set_cons_zero, List.set_cons_succ])
      refine till_take (i := 16) (oi := _) (v := ?_) rfl (by kernel_rfl) (by kernel_rfl) (by kernel_rfl) (by kernel_rfl) (fun _ _ _ h => h) hKept hS (Or.inl ⟨by rfl, ?_⟩) ?_; rotate_left; (intro wS hSw; have hSc := hSw.cell; go_simp; try with_reducible rfl); intro hKept; (try simp only [List.getElem?_toArray, List.getElem?_cons_succ, List.getElem?_cons_zero, List.getElem_toArray, List.getElem_cons_succ, List.getElem_cons_zero, Act.put, List.setIfInBounds_toArray, List.set_cons_zero, List.set_cons_succ])
      refine till_take (i := 17) (oi := _) (v := ?_) rfl (by kernel_rfl) (by kernel_rfl) (by kernel_rfl) (by kernel_rfl) (fun _ _ _ h => h) hKept hS (Or.inl ⟨by rfl, ?_⟩) ?_; rotate_left; (intro wS hSw; have hSc := hSw.cell; go_simp; try with_reducible rfl); intro hKept; (try simp only [List.getElem?_toArray, List.getElem?_cons_succ, List.getElem?_cons_zero, List.getElem_toArray, List.getElem_cons_succ, List.getElem_cons_zero, Act.put, List.setIfInBounds_toArray, List.set_cons_zero, List.set_cons_succ])
      refine till_take (i := 18) (oi := _) (v := ?_) rfl (by kernel_rfl) (by kernel_rfl) (by kernel_rfl) (by kernel_rfl) (fun _ _ _ h => h) hKept hS (Or.inl ⟨by rfl, ?_⟩) ?_; rotate_left; (intro wS hSw; have hSc := hSw.cell; go_simp; try with_reducible rfl); intro hKept; (try simp only [List.getElem?_toArray, List.getElem?_cons_succ, List.getElem?_cons_zero, List.getElem_toArray, List.getElem_cons_succ, List.getElem_cons_zero, Act.put, List.setIfInBounds_toArray, List.set_cons_zero, List.set_cons_succ])
      refine till_take (i := 19) (oi := _) (v := ?_) rfl (by kernel_rfl) (by kernel_rfl) (by kernel_rfl) (by kernel_rfl) (fun _ _ _ h => h) hKept hS (Or.inl ⟨by rfl, ?_⟩) ?_; rotate_left; (intro wS hSw; have hSc := hSw.cell; go_simp; try with_reducible rfl); intro hKept; (try simp only [List.getElem?_toArray, List.getElem?_cons_succ, List.getElem?_cons_zero, List.getElem_toArray, List.getElem_cons_succ, List.getElem_cons_zero, Act.put, List.setIfInBounds_toArray, List.set_cons_zero, List.set_cons_succ])
      refine till_take (i := 20) (oi := _) (v := ?_) rfl (by kernel_rfl) (by kernel_rfl) (by kernel_rfl) (by kernel_rfl) (fun _ _ _ h => h) hKept hS (Or.inl ⟨by rfl, ?_⟩) ?_; rotate_left; (intro wS hSw; have hSc := hSw.cell; go_simp; try with_reducible rfl); intro hKept; (try simp only [List.getElem?_toArray, List.getElem?_cons_succ, List.getElem?_cons_zero, List.getElem_toArray, List.getElem_cons_succ, List.getElem_cons_zero, Act.put, List.setIfInBounds_toArray, List.set_cons_zero, List.set_cons_succ])
      refine till_one (i := 7) (by simp only [List.getElem?_toArray, List.getElem?_cons_succ, List.getElem?_cons_zero]; rfl) (by kernel_rfl) hKept ?_; intro K hK; rw [if_pos (by rfl)]
      go_simp
      refine (blanks_nat g1.W N _ (by omega)).mono ?_
      rintro e w4 ⟨a4, c4, ws, rfl, ho4, hw4, he4⟩
      have HO4 := Aside.mk ho4
      have HW4 := Aside.mk hw4
      have HA4 := Aside.mk (HA3.out.drew.ext he4)
      have HZ4 := Aside.mk (HZ3.out.drew.ext he4)
      have HX4 := Aside.mk (((Ext.refl w3).drew).trans he4)
      clear ho4 hw4 he4 hc3 hf3
      refine hK.out _ _ (fun _ => HA4.out) ?_; clear hS; intro hS hKept; replace hS := hS (by decide); (try simp only [List.getElem?_toArray, List.getElem?_cons_succ, List.getElem?_cons_zero, List.getElem_toArray, List.getElem_cons_succ, List.getElem_cons_zero, Act.put, List.setIfInBounds_toArray, List.set_cons_zero, List.set_cons_succ])
      refine till_one (i := 21) (by simp only [List.getElem?_toArray, List.getElem?_cons_succ, List.getElem?_cons_zero]; rfl) (by kernel_rfl) hKept ?_; intro K hK; rw [if_pos (by rfl)]
      go_simp
      refine hK.out _ _ (fun _ => HA4.out.alloc _) ?_; clear hS; intro hS hKept; replace hS := hS (by decide); (try simp only [List.getElem?_toArray, List.getElem?_cons_succ, List.getElem?_cons_zero, List.getElem_toArray, List.getElem_cons_succ, List.getElem_cons_zero, Act.put, List.setIfInBounds_toArray, List.set_cons_zero, List.set_cons_succ])
      refine till_one (i := 22) (by simp only [List.getElem?_toArray, List.getElem?_cons_succ, List.getElem?_cons_zero]; rfl) (by kernel_rfl) hKept ?_; intro K hK; rw [if_pos (by rfl)]
      go_simp
      refine (concat_at _ _ [_, _, _, _] [vs.take T, ws, (vs.drop T).take (E - T), vs.drop Q] _ 4 g1.Rows.length _ rfl rfl (by have h1 := HV1.out.len; have h2 := HO4.out.1; have h3 := HV2.out.len; have h4 := HSUM.out; have h5 := HV3.out.len; simp only [List.flatten_cons, List.flatten_nil, List.length_append, List.length_nil, h1, h2, h3]; omega) (Holds.newN _ _ 1 4 [_, _, _, _] rfl (by omega) (by intro u hu; simp only [List.mem_cons, List.not_mem_nil, or_false] at hu; rcases hu with rfl | rfl | rfl | rfl <;> rfl)) (.cons (HV1.out.ext (HX4.out.alloc _)).self (.cons (Holds.of_own HO4.out (all2_one (fun a b hab => hab.oneCell) HW4.out) |>.ext (Ext.alloc1 _ _)).self (.cons (HV2.out.ext (HX4.out.alloc _)).self (.cons (HV3.out.ext (HX4.out.alloc _)).self .nil)))) (by omega) (by omega)).mono ?_
      rintro e w5 ⟨a5, c5, rfl, ho5, he5⟩
      have HO5 := Aside.mk ho5
      have HX5 := Aside.mk ((HX4.out.alloc _).trans he5)
      have HA5 := Aside.mk ((HA4.out.alloc _).ext he5)
      have HZ5 := Aside.mk ((HZ4.out.alloc _).ext he5)
      have HE5 := Aside.mk he5
      clear ho5 he5
      obtain ⟨hc5, hf5⟩ := HA5.out.rules
      refine hK.out _ _ (fun _ => HA5.out) ?_; clear hS; intro hS hKept; replace hS := hS (by decide); (try simp only [List.getElem?_toArray, List.getElem?_cons_succ, List.getElem?_cons_zero, List.getElem_toArray, List.getElem_cons_succ, List.getElem_cons_zero, Act.put, List.setIfInBounds_toArray, List.set_cons_zero, List.set_cons_succ])
      refine till_take (i := 23) (oi := _) (v := ?_) rfl (by kernel_rfl) (by kernel_rfl) (by kernel_rfl) (by kernel_rfl) (fun _ _ _ h => h) hKept hS (Or.inl ⟨by rfl, ?_⟩) ?_; rotate_left; (intro wS hSw; have hSc := hSw.cell; go_simp; try with_reducible rfl); intro hKept; (try simp only [List.getElem?_toArray, List.getElem?_cons_succ, List.getElem?_cons_zero, List.getElem_toArray, List.getElem_cons_succ, List.getElem_cons_zero, Act.put, List.setIfInBounds_toArray, List.set_cons_zero, List.set_cons_succ])
      refine till_one (i := 24) (by simp only [List.getElem?_toArray, List.getElem?_cons_succ, List.getElem?_cons_zero]; rfl) (by kernel_rfl) hKept ?_; intro K hK; rw [if_pos (by rfl)]
      go_simp
      refine hK.out _ _ (fun h => absurd rfl h) ?_
      intro _ _
      refine till_done (by kernel_rfl) ?_ _
      have HS1 := Aside.mk (HA5.out.set 13 (.slice a5 g1.Rows.length c5))
      have HA6 : Aside (Box _ w.heap.size 31 #[.int .i64 g1.W, .int .i64 g1.H, .int .i64 g1.X, .int .i64 g1.Y, .bool g1.Wrap, .int .i64 g1.A, .int .i64 g1.Top, .int .i64 g1.Bottom, .int .i64 g1.SX, .int .i64 g1.SY, .int .i64 g1.SA, .bool g1.NoWrap, .bool g1.Hidden, .slice a5 g1.Rows.length c5, .slice ab1 g1.Back.length cb1]) := ⟨HS1.out.1⟩
      have HZ6 := Aside.mk (HZ5.out.grown HS1.out.2 (by simp))
      go_wp2_with (first
        | (refine atLoad 31 (.tmp 4) rfl ?_; refine wpList_load_row rfl 31 (.tmp 4) rfl w.heap.size rfl 31 _ (0, 0) _ HA6.out Try.underlying31 rfl size31 ?_)
        | (refine atStore 31 (.tmp 8) (.tmp 49) rfl ?_; refine wpList_store_box _ rfl 31 (.tmp 8) (.tmp 49) rfl (w.heap.size + 1) _ rfl rfl 31 _ HZ6.out size31 rfl rfl ?_; intro w7 hb7 hg7; have HZ7 := Aside.mk hb7; have HG7 := Aside.mk hg7; clear hg7 hb7))
      refine bodyPost_ret (results_cell_row Try.results72 _ _ (w.heap.size + 1) 31 _ (0, 0) _ rfl HZ7.out Try.underlying31 rfl size31) rfl ?_
      rw [HDN.out]
      have hQ := HQ.out
      have hE := HEQ.out
      have hz3 := HZ3.out.lt
      have hz4 := HX4.out.size
      have hlD := downRows_length g1 T B N (by omega) (by omega)
      have ha2 : All2 (OwnC w5 (w.heap.size + 2)) [vs.take T, ws, (vs.drop T).take (E - T), vs.drop Q].flatten (downRows g1 T B N) := by
        unfold downRows
        refine rows4 ((HVS.out.imp fun a b hab => hab.ext HX5.out).take T) (HW4.out.imp fun a b hab => (hab.ext ((Ext.alloc1 _ _).trans HE5.out)).mono (by simp; omega)) ?_ ?_
        · rw [show B + 1 - N - T = E - T from by omega]
          exact ((HVS.out.imp fun a b hab => hab.ext HX5.out).drop T).take (E - T)
        · (rw [show B + 1 = Q from by omega]; exact (HVS.out.imp fun a b hab => hab.ext HX5.out).drop Q)
      have hown : OwnR w5 (w.heap.size + 2) (.slice a5 (downRows g1 T B N).length c5) (downRows g1 T B N) := by
        refine ⟨_, ?_, ha2⟩
        rw [hlD]
        exact own_mono HO5.out (by simp; omega)
      refine ⟨_, a5, c5, ab1, cb1, by simp only [hlD], ⟨rfl⟩, ⟨OwnR.mono (base := w.heap.size + 2) ((hown.keep HS1.out.2 (by intro j hj hk; omega)).keep HG7.out (by intro j hj hk; omega)) (by omega)⟩, ⟨OwnR.mono (base := w.heap.size + 2) (((HP3.out.ext HX5.out).keep HS1.out.2 (by intro j hj hk; omega)).keep HG7.out (by intro j hj hk; omega)) (by omega)⟩, ⟨?_⟩, ⟨?_⟩⟩
      · intro k hk hk'
        have h1 := own_base HO5.out k (by rw [hlD] at hk; exact hk)
        obtain ⟨_, h2, _⟩ := HP3.out.ex
        have h3 := own_lt h2 k hk'
        simp at h1
        omega
      · exact ((HE3.out.trans HX5.out).of_grown HS1.out.2 (by intro k hk; cases hk; omega)).of_grown HG7.out (by intro k hk; cases hk; omega)
end Go.Proofs.Ytmehkikkjebnnaa
