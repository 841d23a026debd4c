/-
  Walks: polyptychref4.New, its rows each in memory of its own; a cell of one of them written.
-/
import Derived.Test.YtmehkikkjebnnaaRefB
set_option linter.unusedVariables false
set_option linter.unusedSimpArgs false
namespace Go.Proofs.Ytmehkikkjebnnaa
open Go.RowKit
attribute [local go_sem] max2_i min2_i max_two min_two
attribute [local go_sem ↓] Go.wp_at_zero Go.wp_at_succ

theorem All2.of_get {α β : Type} {R : α → β → Prop} : ∀ {l : List α} {k : List β}, l.length = k.length → (∀ (i : Nat) (a : α) (b : β), l[i]? = some a → k[i]? = some b → R a b) → All2 R l k
  | [], [], _, _ => .nil
  | [], _ :: _, h, _ => by simp at h
  | _ :: _, [], h, _ => by simp at h
  | a :: l, b :: k, h, hr => .cons (hr 0 a b rfl rfl) (All2.of_get (by simpa using h) fun i x y hx hy => hr (i + 1) x y (by simpa using hx) (by simpa using hy))
theorem All2.at_ {α β : Type} {R : α → β → Prop} {l : List α} {k : List β} (h : All2 R l k) : ∀ (i : Nat) (a : α) (b : β), l[i]? = some a → k[i]? = some b → R a b := by
  induction h with
  | nil => intro i a b h1; simp at h1
  | cons h1 _ ih =>
    intro i a b ha hb
    cases i with
    | zero => simp at ha hb; subst ha hb; exact h1
    | succ i => exact ih i a b (by simpa using ha) (by simpa using hb)
/-- No two share their memory. -/
def ApartV (vs : List Value) : Prop := ∀ (i j : Nat) (a b : Value), i ≠ j → vs[i]? = some a → vs[j]? = some b → ∀ k, a.ownBlock = some k → b.ownBlock ≠ some k
theorem ApartV.nil : ApartV [] := by intro i j a b _ h; simp at h
theorem ApartV.snoc {vs : List Value} (h : ApartV vs) {v : Value} (hv : ∀ u ∈ vs, ∀ k, u.ownBlock = some k → v.ownBlock ≠ some k) : ApartV (vs ++ [v]) := by
  intro i j a b hij ha hb k hk
  rw [List.getElem?_append] at ha hb
  by_cases hi : i < vs.length
  · rw [if_pos hi] at ha
    by_cases hj : j < vs.length
    · rw [if_pos hj] at hb
      exact h i j a b hij ha hb k hk
    · rw [if_neg hj] at hb
      have hb2 := List.mem_of_getElem? hb
      simp at hb2
      subst hb2
      exact hv a (List.mem_of_getElem? ha) k hk
  · rw [if_neg hi] at ha
    have ha2 := List.mem_of_getElem? ha
    simp at ha2
    subst ha2
    by_cases hj : j < vs.length
    · rw [if_pos hj] at hb
      intro hbk
      exact hv b (List.mem_of_getElem? hb) k hbk hk
    · rw [if_neg hj] at hb
      obtain ⟨h1, _⟩ := List.getElem?_eq_some_iff.1 ha
      obtain ⟨h2, _⟩ := List.getElem?_eq_some_iff.1 hb
      simp at h1 h2
      omega
/-- Rows of the call's own, each apart. -/
structure OwnRD (w : World) (base : Nat) (v : Value) (ll : List (List Cell)) : Prop where
  mk_ ::
  ex : ∃ vs : List Value, w.ownsRow base 51 1 v ll.length vs ∧ All2 (OwnC w base) vs ll ∧ ApartV vs
theorem OwnRD.own {w : World} {base : Nat} {v : Value} {ll : List (List Cell)} (h : OwnRD w base v ll) : OwnR w base v ll := by
  obtain ⟨vs, h1, h2, _⟩ := h.ex
  exact ⟨vs, h1, h2⟩
theorem OwnRD.ext {w w' : World} {base : Nat} {v : Value} {ll : List (List Cell)} (h : OwnRD w base v ll) (he : Ext w w') : OwnRD w' base v ll := by
  obtain ⟨vs, h1, h2, h3⟩ := h.ex
  exact ⟨vs, own_ext h1 he, h2.imp (fun a b hab => hab.ext he), h3⟩
theorem OwnRD.mono {w : World} {base base' : Nat} {v : Value} {ll : List (List Cell)} (h : OwnRD w base v ll) (hb : base' ≤ base) : OwnRD w base' v ll := by
  obtain ⟨vs, h1, h2, h3⟩ := h.ex
  exact ⟨vs, own_mono h1 hb, h2.imp (fun a b hab => hab.mono hb), h3⟩
theorem OwnRD.keep {w w' : World} {base : Nat} {v : Value} {ll : List (List Cell)} {k : Nat} (h : OwnRD w base v ll) (hg : w.grownBy w' (some k)) (hk : ∀ j, base ≤ j → j = k → False) : OwnRD w' base v ll := by
  obtain ⟨vs, h1, h2, h3⟩ := h.ex
  exact ⟨vs, h1.kept hg (.inr fun e => hk k ((h1.lt k e).1) rfl), h2.imp (fun a b hab => hab.keep hg (fun e => hk k ((World.ownsRow.lt hab k e).1) rfl)), h3⟩
theorem OwnRD.box {w w' : World} {base b : Nat} {t : TypeId} {v : Value} {ll : List (List Cell)} {cs : Array Value} (h : OwnRD w base v ll) (hb : Box w b t cs) (hg : w.grownBy w' (some b)) (n1 : 51 ≠ t) (n2 : 53 ≠ t) : OwnRD w' base v ll := by
  obtain ⟨vs, h1, h2, h3⟩ := h.ex
  exact ⟨vs, own_box h1 hb n1 hg, h2.imp fun a c hab => own_box hab hb n2 hg, h3⟩
theorem OwnRD.nil (w : World) (base : Nat) : OwnRD w base (.slice none 0 0) [] := ⟨[], own_nil _ _ _ _, .nil, ApartV.nil⟩
/-- A row, and what becomes of the rows where it is written. -/
theorem OwnRD.at_ {w : World} {base n c : Nat} {a : Option Addr} {ll : List (List Cell)} (h : OwnRD w base (.slice a n c) ll) (i : Nat) (r : List Cell) (hi : ll[i]? = some r) (hp : 0 < r.length) :
    ∃ b g c', a = some ⟨b, 0, none⟩ ∧ w.cell? ⟨b, i, none⟩ = some (.slice (some ⟨g, 0, none⟩) r.length c') ∧ Aside (OwnC w base (.slice (some ⟨g, 0, none⟩) r.length c') r) ∧ base ≤ g ∧ g < w.heap.size ∧ base ≤ b ∧ b ≠ g ∧
      Aside (∀ w' r', r'.length = r.length → OwnC w' base (.slice (some ⟨g, 0, none⟩) r.length c') r' → w.grownBy w' (some g) → OwnRD w' base (.slice a n c) (ll.set i r')) := by
  obtain ⟨vs, h1, h2, h3⟩ := h.ex
  have hn : n = ll.length := by obtain ⟨a', c', hv⟩ := own_slice h1; injection hv
  subst hn
  have hil := (List.getElem?_eq_some_iff.1 hi).1
  obtain ⟨v, hv, hr⟩ := h2.get i hil
  have hri : ll[i] = r := by rw [List.getElem?_eq_getElem hil] at hi; injection hi
  rw [hri] at hr
  obtain ⟨av, cv, rfl⟩ := own_slice hr
  obtain ⟨g, rfl, hg1, hg2⟩ := OwnC.head hr hp
  rcases h1.2 with ⟨h4, h5⟩ | ⟨b, cap, cur, h4, hb, hh, _⟩
  · omega
  · injection h4 with e1 _ e2
    subst e1 e2
    have hc := World.ownsRow.cellAt h1 i (by omega)
    rw [hv] at hc
    have hbg : b ≠ g := by
      intro e
      subst e
      rcases hr.2 with ⟨k1, _⟩ | ⟨g', cap', cur', k1, _, kh, _⟩
      · cases k1
      · injection k1 with k1 _ _
        injection k1 with k1
        injection k1 with k1
        subst k1
        rw [hh] at kh
        injection kh with kh
        injection kh with _ kt
        exact absurd kt (by decide)
    refine ⟨b, g, cv, rfl, hc, ⟨hr⟩, hg1, hg2, hb, hbg, ⟨fun w' r' hl ho hgr => ⟨vs, ?_, ?_, h3⟩⟩⟩
    · rw [List.length_set]
      exact h1.kept hgr (.inr (by simp [Value.ownBlock]; exact hbg))
    · refine All2.of_get (by rw [List.length_set]; exact h2.length) fun j x y hx hy => ?_
      by_cases hij : i = j
      · subst hij
        rw [List.getElem?_set_self hil] at hy
        injection hy with hy
        rw [hv] at hx
        injection hx with hx
        subst hx hy
        show w'.ownsRow base _ 2 _ r'.length _
        have := ho
        unfold OwnC at this
        exact this
      · rw [List.getElem?_set_ne hij] at hy
        exact (h2.at_ j x y hx hy).keep hgr (fun e => h3 i j _ _ hij hv hx g rfl e)
theorem flatC_setR (l : List Cell) : ∀ (i : Nat) (x : Int), (flatC l).set (2 * i) (.int .i32 x) = flatC (l.set i ⟨x, (l.getD i default).A⟩) := by
  induction l with
  | nil => intro i x; simp [flatC]
  | cons c l ih =>
    intro i x
    cases i with
    | zero => rfl
    | succ i =>
      rw [show 2 * (i + 1) = 2 * i + 1 + 1 from by omega, flatC_cons, List.set_cons_succ, List.set_cons_succ, ih, List.set_cons_succ, flatC_cons]
      rfl
theorem OwnC.setR {w : World} {base g n c : Nat} {l : List Cell} (h : OwnC w base (.slice (some ⟨g, 0, none⟩) n c) l) (hn : n = l.length) (i : Nat) (x : Int) :
    OwnC (w.setCell ⟨g, i * 2, none⟩ (.int .i32 x)) base (.slice (some ⟨g, 0, none⟩) n c) (l.set i ⟨x, (l.getD i default).A⟩) := by
  subst hn
  have h1 := (World.ownsRow.stored h (2 * i) (.int .i32 x)).1
  rw [flatC_setR] at h1
  unfold OwnC
  rw [List.length_set, Nat.mul_comm i 2]
  exact h1

/-- What New leaves. -/
def NewD (w : World) (g : Grid) (e : Ending) (w' : World) : Prop :=
  ∃ (ar : Option Addr) (cr : Nat), e = .returned (.agg #[.int .i64 g.W, .int .i64 g.H, .int .i64 g.X, .int .i64 g.Y, .bool g.Wrap, .int .i64 g.A, .int .i64 g.Top, .int .i64 g.Bottom, .int .i64 g.SX, .int .i64 g.SY, .int .i64 g.SA, .bool g.NoWrap, .bool g.Hidden, .slice ar g.Rows.length cr, .slice none 0 0]) ∧ Aside (OwnRD w' w.heap.size (.slice ar g.Rows.length cr) g.Rows) ∧ Aside (Ext w w')

set_option maxRecDepth 100000 in
set_option maxHeartbeats 1000000 in
theorem sNewD_any (x y : Int) (w : World) : Calls Try.prog 15 #[.int .i64 x, .int .i64 y] w (NewD w (newG x y)) := by
  obtain ⟨W, hW⟩ : ∃ W, W = min (max x 1) 1000 := ⟨_, rfl⟩
  obtain ⟨H, hH⟩ : ∃ H, H = min (max y 1) 1000 := ⟨_, rfl⟩
  have hWb : 1 ≤ W ∧ W ≤ 1000 := by omega
  have hHb : 1 ≤ H ∧ H ≤ 1000 := by omega
  have HW' := Aside.mk hW
  have HH' := Aside.mk hH
  have hng : newG x y = ⟨W, H, 0, 0, false, 0, 0, H - 1, 0, 0, 0, false, false, blankRows W H, []⟩ := by rw [hW, hH]; rfl
  have HNG := Aside.mk hng
  clear hW hH hng
  have e1 : IntKind.i64.wrap (H - 1) = H - 1 := IntWalk.i64_in _ (by omega)
  go_enter Try.func15, Try.ntmps15
  go_wp2_with (first
    | (go_at_call_of 31 (Value.int IntKind.i64 x); refine (sheld_eq x 1 1000 W _ HW'.out).mono ?_; rintro e w1 ⟨rfl, rfl⟩)
    | (go_at_call_of 31 (Value.int IntKind.i64 y); refine (sheld_eq y 1 1000 H _ HH'.out).mono ?_; rintro e w1 ⟨rfl, rfl⟩))
  go_loopw [6] (fun i wr => ∃ (k : Nat) (ao : Option Addr) (co : Nat), (k : Int) ≤ H ∧ i = .int .i64 k ∧ Aside (OwnRD wr (w.heap.size + 2) (.slice ao k co) (List.replicate k (blankRow W))) ∧ Aside (Box wr (w.heap.size + 1) 31 #[.int .i64 (⟨W, H, 0, 0, false, 0, 0, H - 1, 0, 0, 0, false, false, [], []⟩ : Grid).W, .int .i64 (⟨W, H, 0, 0, false, 0, 0, H - 1, 0, 0, 0, false, false, [], []⟩ : Grid).H, .int .i64 (⟨W, H, 0, 0, false, 0, 0, H - 1, 0, 0, 0, false, false, [], []⟩ : Grid).X, .int .i64 (⟨W, H, 0, 0, false, 0, 0, H - 1, 0, 0, 0, false, false, [], []⟩ : Grid).Y, .bool (⟨W, H, 0, 0, false, 0, 0, H - 1, 0, 0, 0, false, false, [], []⟩ : Grid).Wrap, .int .i64 (⟨W, H, 0, 0, false, 0, 0, H - 1, 0, 0, 0, false, false, [], []⟩ : Grid).A, .int .i64 (⟨W, H, 0, 0, false, 0, 0, H - 1, 0, 0, 0, false, false, [], []⟩ : Grid).Top, .int .i64 (⟨W, H, 0, 0, false, 0, 0, H - 1, 0, 0, 0, false, false, [], []⟩ : Grid).Bottom, .int .i64 (⟨W, H, 0, 0, false, 0, 0, H - 1, 0, 0, 0, false, false, [], []⟩ : Grid).SX, .int .i64 (⟨W, H, 0, 0, false, 0, 0, H - 1, 0, 0, 0, false, false, [], []⟩ : Grid).SY, .int .i64 (⟨W, H, 0, 0, false, 0, 0, H - 1, 0, 0, 0, false, false, [], []⟩ : Grid).SA, .bool (⟨W, H, 0, 0, false, 0, 0, H - 1, 0, 0, 0, false, false, [], []⟩ : Grid).NoWrap, .bool (⟨W, H, 0, 0, false, 0, 0, H - 1, 0, 0, 0, false, false, [], []⟩ : Grid).Hidden, .slice ao k co, .slice none 0 0]) ∧ Aside (Box wr w.heap.size 31 #[.int .i64 0, .int .i64 0, .int .i64 0, .int .i64 0, .bool false, .int .i64 0, .int .i64 0, .int .i64 0, .int .i64 0, .int .i64 0, .int .i64 0, .bool false, .bool false, .slice none 0 0, .slice none 0 0]) ∧ Aside (Ext w wr)) (fun i _ => (H - intOf i).toNat)
  case atStart =>
    refine ⟨0, none, 0, by omega, rfl, ⟨OwnRD.nil _ _⟩, ⟨?_⟩, ⟨?_⟩, ⟨?_⟩⟩
    · exact Box.newAt _ _ _ _ (by simp)
    · exact (Box.new _ _ _).alloc _
    · exact (Ext.alloc1 _ _).alloc _
  case round =>
    obtain ⟨k, ao, co, hk, rfl, HO, HA, HZ, HE⟩ := hrel
    obtain ⟨hc1, hf1⟩ := HA.out.rules
    by_cases hlt : (k : Int) < H
    · obtain ⟨vs, hv1, hv2, hv3⟩ := HO.out.ex
      rw [List.length_replicate] at hv1
      have HV1 := Aside.mk hv1
      have HV2 := Aside.mk hv2
      have HV3 := Aside.mk hv3
      clear hv1 hv2 hv3
      obtain ⟨i0, hi, hz0, hz1, hz2⟩ := info_parts info51
      have hi' := Aside.mk hi
      clear hi
      go_wp2
      refine wp_region_till 8 (fun w' => Box w' (w.heap.size + 1) 31 #[.int .i64 (⟨W, H, 0, 0, false, 0, 0, H - 1, 0, 0, 0, false, false, [], []⟩ : Grid).W, .int .i64 (⟨W, H, 0, 0, false, 0, 0, H - 1, 0, 0, 0, false, false, [], []⟩ : Grid).H, .int .i64 (⟨W, H, 0, 0, false, 0, 0, H - 1, 0, 0, 0, false, false, [], []⟩ : Grid).X, .int .i64 (⟨W, H, 0, 0, false, 0, 0, H - 1, 0, 0, 0, false, false, [], []⟩ : Grid).Y, .bool (⟨W, H, 0, 0, false, 0, 0, H - 1, 0, 0, 0, false, false, [], []⟩ : Grid).Wrap, .int .i64 (⟨W, H, 0, 0, false, 0, 0, H - 1, 0, 0, 0, false, false, [], []⟩ : Grid).A, .int .i64 (⟨W, H, 0, 0, false, 0, 0, H - 1, 0, 0, 0, false, false, [], []⟩ : Grid).Top, .int .i64 (⟨W, H, 0, 0, false, 0, 0, H - 1, 0, 0, 0, false, false, [], []⟩ : Grid).Bottom, .int .i64 (⟨W, H, 0, 0, false, 0, 0, H - 1, 0, 0, 0, false, false, [], []⟩ : Grid).SX, .int .i64 (⟨W, H, 0, 0, false, 0, 0, H - 1, 0, 0, 0, false, false, [], []⟩ : Grid).SY, .int .i64 (⟨W, H, 0, 0, false, 0, 0, H - 1, 0, 0, 0, false, false, [], []⟩ : Grid).SA, .bool (⟨W, H, 0, 0, false, 0, 0, H - 1, 0, 0, 0, false, false, [], []⟩ : Grid).NoWrap, .bool (⟨W, H, 0, 0, false, 0, 0, H - 1, 0, 0, 0, false, false, [], []⟩ : Grid).Hidden, .slice ao k co, .slice none 0 0]) (by rfl) HA.out.drew ?_
      intro hS
      refine ⟨kept_none _ rfl, fun hKept => ?_⟩
      refine till_take (i := 0) (oi := _) (v := ?_) rfl (by kernel_rfl) (by kernel_rfl) (by kernel_rfl) (by kernel_rfl) (fun _ _ _ h => h) hKept hS (Or.inl ⟨by rfl, ?_⟩) ?_; rotate_left; (intro wS hSw; have hSc := hSw.cell; go_simp; try with_reducible rfl); intro hKept; (try simp only [List.getElem?_toArray, List.getElem?_cons_succ, List.getElem?_cons_zero, List.getElem_toArray, List.getElem_cons_succ, List.getElem_cons_zero, Act.put, List.setIfInBounds_toArray, List.set_cons_zero, List.set_cons_succ])
      refine till_take (i := 1) (oi := _) (v := ?_) rfl (by kernel_rfl) (by kernel_rfl) (by kernel_rfl) (by kernel_rfl) (fun _ _ _ h => h) hKept hS (Or.inl ⟨by rfl, ?_⟩) ?_; rotate_left; (intro wS hSw; have hSc := hSw.cell; go_simp; try with_reducible rfl); intro hKept; (try simp only [List.getElem?_toArray, List.getElem?_cons_succ, List.getElem?_cons_zero, List.getElem_toArray, List.getElem_cons_succ, List.getElem_cons_zero, Act.put, List.setIfInBounds_toArray, List.set_cons_zero, List.set_cons_succ])
      refine till_take (i := 2) (oi := _) (v := ?_) rfl (by kernel_rfl) (by kernel_rfl) (by kernel_rfl) (by kernel_rfl) (fun _ _ _ h => h) hKept hS (Or.inl ⟨by rfl, ?_⟩) ?_; rotate_left; (intro wS hSw; have hSc := hSw.cell; go_simp; try with_reducible rfl); intro hKept; (try simp only [List.getElem?_toArray, List.getElem?_cons_succ, List.getElem?_cons_zero, List.getElem_toArray, List.getElem_cons_succ, List.getElem_cons_zero, Act.put, List.setIfInBounds_toArray, List.set_cons_zero, List.set_cons_succ])
      refine till_take (i := 3) (oi := _) (v := ?_) rfl (by kernel_rfl) (by kernel_rfl) (by kernel_rfl) (by kernel_rfl) (fun _ _ _ h => h) hKept hS (Or.inl ⟨by rfl, ?_⟩) ?_; rotate_left; (intro wS hSw; have hSc := hSw.cell; go_simp; try with_reducible rfl); intro hKept; (try simp only [List.getElem?_toArray, List.getElem?_cons_succ, List.getElem?_cons_zero, List.getElem_toArray, List.getElem_cons_succ, List.getElem_cons_zero, Act.put, List.setIfInBounds_toArray, List.set_cons_zero, List.set_cons_succ])
      refine till_one (i := 4) (by simp only [List.getElem?_toArray, List.getElem?_cons_succ, List.getElem?_cons_zero]; rfl) (by kernel_rfl) hKept ?_; intro K hK; rw [if_pos (by rfl)]
      go_simp
      refine (sBlank_any W _).mono ?_
      rintro e w2 ⟨a2, c2, rfl, ho2, he2⟩
      have HO2 := Aside.mk ho2
      have HX2 := Aside.mk (((Ext.refl wr).drew).trans he2)
      have HA2 := Aside.mk (HA.out.ext HX2.out)
      clear ho2 he2
      refine hK.out _ _ (fun _ => HA2.out) ?_; clear hS; intro hS hKept; replace hS := hS (by decide); (try simp only [List.getElem?_toArray, List.getElem?_cons_succ, List.getElem?_cons_zero, List.getElem_toArray, List.getElem_cons_succ, List.getElem_cons_zero, Act.put, List.setIfInBounds_toArray, List.set_cons_zero, List.set_cons_succ])
      refine till_one (i := 5) (by simp only [List.getElem?_toArray, List.getElem?_cons_succ, List.getElem?_cons_zero]; rfl) (by kernel_rfl) hKept ?_; intro K hK; rw [if_pos (by rfl)]
      go_simp
      refine hK.out _ _ (fun _ => HA2.out.alloc _) ?_; clear hS; intro hS hKept; replace hS := hS (by decide); (try simp only [List.getElem?_toArray, List.getElem?_cons_succ, List.getElem?_cons_zero, List.getElem_toArray, List.getElem_cons_succ, List.getElem_cons_zero, Act.put, List.setIfInBounds_toArray, List.set_cons_zero, List.set_cons_succ])
      refine till_one (i := 6) (by simp only [List.getElem?_toArray, List.getElem?_cons_succ, List.getElem?_cons_zero]; rfl) (by kernel_rfl) hKept ?_; intro K hK
      refine step_append_holds _ (by rfl) _ _ 29 (by rfl) (w.heap.size + 2) 51 i0 (.slice none 0 0) 1 24 Try.underlying29 hi'.out hz0 hz1 hz2 rfl (by decide) _ k vs (by rfl) (own_ext HV1.out (HX2.out.alloc _)) _ 1 [.slice a2 (blankRow W).length c2] (by rfl) (Holds.new1 _ _ (.slice a2 (blankRow W).length c2) rfl) (by unfold maxLen; omega) (by omega) (by have := HA2.out.lt; simp; omega) ?_
      intro v' w4 hown hg hwh
      obtain ⟨av, cv, rfl⟩ := own_slice hown
      have HO4 := Aside.mk hown
      have HG4 := Aside.mk hg
      clear hown hg hwh
      go_simp
      have hne : some (w.heap.size + 1) ≠ (Value.slice ao k co).ownBlock := fun e => by have h1 := own_base HV1.out _ e.symm; omega
      have hne0 : some w.heap.size ≠ (Value.slice ao k co).ownBlock := fun e => by have h1 := own_base HV1.out _ e.symm; omega
      have HA4 := Aside.mk ((HA2.out.alloc _).grown HG4.out hne)
      have HZ4 := Aside.mk (((HZ.out.ext HX2.out).alloc _).grown HG4.out hne0)
      obtain ⟨hc4, hf4⟩ := HA4.out.rules
      refine hK.out _ _ (fun _ => HA4.out) ?_; clear hS; intro hS hKept; replace hS := hS (by decide); (try simp only [List.getElem?_toArray, List.getElem?_cons_succ, List.getElem?_cons_zero, List.getElem_toArray, List.getElem_cons_succ, List.getElem_cons_zero, Act.put, List.setIfInBounds_toArray, List.set_cons_zero, List.set_cons_succ])
      refine till_take (i := 7) (oi := _) (v := ?_) rfl (by kernel_rfl) (by kernel_rfl) (by kernel_rfl) (by kernel_rfl) (fun _ _ _ h => h) hKept hS (Or.inl ⟨by rfl, ?_⟩) ?_; rotate_left; (intro wS hSw; have hSc := hSw.cell; go_simp; try with_reducible rfl); intro hKept; (try simp only [List.getElem?_toArray, List.getElem?_cons_succ, List.getElem?_cons_zero, List.getElem_toArray, List.getElem_cons_succ, List.getElem_cons_zero, Act.put, List.setIfInBounds_toArray, List.set_cons_zero, List.set_cons_succ])
      refine till_one (i := 8) (by simp only [List.getElem?_toArray, List.getElem?_cons_succ, List.getElem?_cons_zero]; rfl) (by kernel_rfl) hKept ?_; intro K hK; rw [if_pos (by rfl)]
      go_simp
      refine hK.out _ _ (fun h => absurd rfl h) ?_
      intro _ _
      refine till_done (by kernel_rfl) ?_ _
      have HS := Aside.mk (HA4.out.set 13 (.slice av (k + 1) cv))
      go_wp2
      go_roundw
      case rel =>
        refine ⟨k + 1, av, cv, by omega, by go_num, ⟨?_⟩, ⟨HS.out.1⟩, ⟨HZ4.out.grown HS.out.2 (by simp)⟩, ⟨?_⟩⟩
        · refine OwnRD.keep (base := w.heap.size + 2) ⟨vs ++ [.slice a2 (blankRow W).length c2], ?_, ?_, ?_⟩ HS.out.2 (by intro j hj hk; omega)
          · rw [List.length_replicate]; exact HO4.out
          · rw [List.replicate_succ']
            have e2 : Ext wr (w2.alloc (.cells #[.slice a2 (blankRow W).length c2] 51)) := HX2.out.alloc _
            exact (HV2.out.imp fun a b hab => (hab.ext e2).grown (own_ext HV1.out e2) HG4.out).snoc (((HO2.out.ext (Ext.alloc1 _ _)).grown (own_ext HV1.out e2) HG4.out).mono (by have := HA.out.lt; simp; omega))
          · exact HV3.out.snoc (fun u hu kk hk hb => by
              obtain ⟨i, hi⟩ := List.getElem?_of_mem hu
              have hlen := HV2.out.length
              obtain ⟨r, hr⟩ : ∃ r, (List.replicate k (blankRow W))[i]? = some r := ⟨_, List.getElem?_eq_getElem (by have := (List.getElem?_eq_some_iff.1 hi).1; omega)⟩
              have h1 := (World.ownsRow.lt (HV2.out.at_ i u r hi hr) kk hk).2
              have h2 := (World.ownsRow.lt HO2.out kk hb).1
              simp at h2
              omega)
        · exact ((HE.out.trans (HX2.out.alloc _)).of_grown HG4.out (fun j hj => by have := own_base HV1.out j hj; omega)).of_grown HS.out.2 (by intro k hk; cases hk; omega)
      case measure => simp [intOf]; omega
    · go_wp2_with (first
        | (refine atLoad 31 (.tmp 5) rfl ?_; refine wpList_load_row rfl 31 (.tmp 5) rfl (w.heap.size + 1) rfl 31 _ (0, 0) _ HA.out Try.underlying31 rfl size31 ?_)
        | (refine atStore 31 (.tmp 4) (.tmp 30) rfl ?_; refine wpList_store_box _ rfl 31 (.tmp 4) (.tmp 30) rfl w.heap.size _ rfl rfl 31 _ HZ.out size31 rfl rfl ?_; intro w9 hbz hgz; have HZ9 := Aside.mk hbz; have HG9 := Aside.mk hgz; clear hgz hbz))
      refine bodyPost_ret (results_cell_row Try.results15 _ _ w.heap.size 31 _ (0, 0) _ rfl HZ9.out Try.underlying31 rfl size31) rfl ?_
      have hkH : k = H.toNat := by omega
      rw [HNG.out]
      have hr := HO.out.box HZ.out HG9.out (by decide) (by decide)
      have hlb : (blankRows W H).length = k := by unfold blankRows; rw [List.length_replicate, hkH]
      have hrr : OwnRD w9 w.heap.size (.slice ao (blankRows W H).length co) (blankRows W H) := by
        rw [hlb]
        unfold blankRows
        rw [← hkH]
        exact hr.mono (by omega)
      exact ⟨ao, co, by simp only [hlb], ⟨hrr⟩, ⟨HE.out.of_grown HG9.out (by intro k hk; cases hk; omega)⟩⟩
end Go.Proofs.Ytmehkikkjebnnaa
