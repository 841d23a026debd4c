/-
  Walks: polyptychref1: first, rune1, End, control.
-/
import Derived.Test.YtmehkikkjebnnaaStepP
import Derived.Test.YtmehkikkjebnnaaBitsA
import Derived.Test.YtmehkikkjebnnaaLawA
set_option linter.unusedVariables false
set_option linter.unusedSimpArgs false
namespace Go.Proofs.Ytmehkikkjebnnaa
open Go.RowKit
attribute [local go_sem] max2_i min2_i max_two min_two
attribute [local go_sem ↓] Go.wp_at_zero Go.wp_at_succ

/-- Its memory is of element type e. -/
def TypedV (w : World) (e : TypeId) (v : Value) : Prop := ∀ a n c, v = .slice (some a) (n + 1) c → ∃ cs fr, w.heap[a.block]? = some (.cells cs e fr)
theorem TypedV.ext {w w' : World} {e : TypeId} {v : Value} (h : TypedV w e v) (he : Ext w w') : TypedV w' e v := by
  intro a n c hv
  obtain ⟨cs, fr, hb⟩ := h a n c hv
  exact ⟨cs, fr, (he.block _ (Array.getElem?_eq_some_iff.1 hb).1).trans hb⟩
theorem TypedV.grown {w w' : World} {e t : TypeId} {v : Value} {b : Nat} {cs : Array Value} (h : TypedV w e v) (hg : w.grownBy w' (some b)) (hb : Box w b t cs) (hne : t ≠ e) : TypedV w' e v := by
  intro a n c hv
  obtain ⟨ds, fr, hd⟩ := h a n c hv
  refine ⟨ds, fr, (hg.block _ (Array.getElem?_eq_some_iff.1 hd).1 ?_).trans hd⟩
  intro hk
  injection hk with hk
  unfold Box at hb
  rw [hk, hb] at hd
  injection hd with hd
  injection hd with _ h2
  exact hne h2
theorem TypedV.nil (w : World) (e : TypeId) : TypedV w e (.slice none 0 0) := by intro a n c h; cases h
theorem TypedV.box {w : World} {b : Nat} {e : TypeId} {cs : Array Value} (h : Box w b e cs) (n c : Nat) : TypedV w e (.slice (some ⟨b, 0, none⟩) n c) := by
  intro a m d hv
  injection hv with h1 _ _
  injection h1 with h1
  subst h1
  exact ⟨cs, (0, 0), h⟩
theorem TypedV.own {w : World} {base n : Nat} {e : TypeId} {sz : Nat} {v : Value} {xs : List Value} (h : w.ownsRow base e sz v n xs) : TypedV w e v := by
  intro a m c hv
  rcases h.2 with ⟨rfl, _⟩ | ⟨g, cap, cur, rfl, _, hh, _⟩
  · cases hv
  · injection hv with h1 _ _
    injection h1 with h1
    subst h1
    exact ⟨cur, (0, 0), hh⟩
/-- A slice that reads as a list, its memory of element type e. -/
structure HoldsT (w : World) (e : TypeId) (sz : Nat) (v : Value) (n : Nat) (xs : List Value) : Prop where
  at_ : Holds w sz v n xs
  ty : TypedV w e v
theorem HoldsT.ext {w w' : World} {e : TypeId} {sz n : Nat} {v : Value} {xs : List Value} (h : HoldsT w e sz v n xs) (he : Ext w w') : HoldsT w' e sz v n xs := ⟨h.at_.ext he, h.ty.ext he⟩
theorem HoldsT.nil (w : World) (e : TypeId) (sz : Nat) : HoldsT w e sz (.slice none 0 0) 0 [] := ⟨Holds.nil w sz, TypedV.nil w e⟩
theorem HoldsT.own {w : World} {base n : Nat} {e : TypeId} {sz : Nat} {v : Value} {xs : List Value} (h : w.ownsRow base e sz v n xs) (h1 : ∀ u ∈ xs, u.oneCell' = true) : HoldsT w e sz v n xs := ⟨Holds.of_own h h1, TypedV.own h⟩
theorem HoldsT.grown {w w' : World} {e t : TypeId} {sz n b : Nat} {v : Value} {xs : List Value} {cs : Array Value} (h : HoldsT w e sz v n xs) (hg : w.grownBy w' (some b)) (hb : Box w b t cs) (hne : t ≠ e) : HoldsT w' e sz v n xs := by
  refine ⟨?_, h.ty.grown hg hb hne⟩
  obtain ⟨a, c, rfl, h1, h2, h3⟩ := h.at_.form
  refine ⟨h.at_.len, h.at_.one, a, c, rfl, h1, h2, fun hn => ?_⟩
  obtain ⟨b', o, rfl, hc⟩ := h3 hn
  refine ⟨b', o, rfl, fun j hj => ?_⟩
  obtain ⟨m, rfl⟩ := Nat.exists_eq_add_of_le' hn
  obtain ⟨ds, fr, hd⟩ := h.ty ⟨b', o, none⟩ m c rfl
  have hlt := (Array.getElem?_eq_some_iff.1 hd).1
  have hne' : some b' ≠ some b := by
    intro hk
    injection hk with hk
    unfold Box at hb
    subst hk
    rw [hb] at hd
    injection hd with hd
    injection hd with _ h2
    exact hne h2
  have he := hg.block b' hlt hne'
  rw [← hc j hj]
  unfold World.cell?
  simp only [he]
theorem Holds.boxed {w : World} {b : Nat} {t : TypeId} {cs : List Value} {n sz : Nat} (h : Box w b t cs.toArray) (hl : cs.length = n * sz) (h1 : ∀ u ∈ cs, u.oneCell' = true) (hn : n ≤ 1000000) : Holds w sz (.slice (some ⟨b, 0, none⟩) n n) n cs :=
  ⟨hl, h1, _, n, rfl, Nat.le_refl _, by unfold maxLen; omega, fun _ => ⟨b, 0, rfl, fun j hj => by rw [h.cell]; simp⟩⟩
theorem HoldsT.boxed {w : World} {b : Nat} {t : TypeId} {cs : List Value} {n sz : Nat} (h : Box w b t cs.toArray) (hl : cs.length = n * sz) (h1 : ∀ u ∈ cs, u.oneCell' = true) (hn : n ≤ 1000000) : HoldsT w t sz (.slice (some ⟨b, 0, none⟩) n n) n cs :=
  ⟨Holds.boxed h hl h1 hn, TypedV.box h n n⟩
/-- v reads as the runes l. -/
def RunesAt (w : World) (v : Value) (l : List Int) : Prop := HoldsT w 21 1 v l.length (l.map (Value.int .i32))
theorem RunesAt.ext {w w' : World} {v : Value} {l : List Int} (h : RunesAt w v l) (he : Ext w w') : RunesAt w' v l := HoldsT.ext h he
theorem RunesAt.nil (w : World) : RunesAt w (.slice none 0 0) [] := HoldsT.nil w _ 1
theorem RunesAt.one {w : World} {b : Nat} {r : Int} (h : Box w b 21 #[.int .i32 r]) : RunesAt w (.slice (some ⟨b, 0, none⟩) 1 1) [r] :=
  HoldsT.boxed (cs := [.int .i32 r]) (n := 1) (sz := 1) h rfl (by intro u hu; simp at hu; subst hu; rfl) (by omega)
/-- v reads as the integers l, its memory of the type int. -/
def IntsT (w : World) (v : Value) (l : List Int) : Prop := HoldsT w 3 1 v l.length (l.map (Value.int .i64))
theorem IntsT.ext {w w' : World} {v : Value} {l : List Int} (h : IntsT w v l) (he : Ext w w') : IntsT w' v l := HoldsT.ext h he
theorem IntsT.nil (w : World) : IntsT w (.slice none 0 0) [] := HoldsT.nil w _ 1
theorem IntsT.ints {w : World} {v : Value} {l : List Int} (h : IntsT w v l) : IntsAt w v l := HoldsT.at_ h
def flatA : List ActV → List Value → List Value
  | a :: l, v :: vs => .int .i64 a.K :: .int .i32 a.R :: v :: flatA l vs
  | _, _ => []
/-- v reads as the actions l. -/
structure ActsAt (w : World) (v : Value) (l : List ActV) : Prop where
  mk_ ::
  ex : ∃ vs : List Value, HoldsT w 35 3 v l.length (flatA l vs) ∧ All2 (fun v (a : ActV) => IntsT w v a.P) vs l
theorem ActsAt.ext {w w' : World} {v : Value} {l : List ActV} (h : ActsAt w v l) (he : Ext w w') : ActsAt w' v l := by
  obtain ⟨vs, h1, h2⟩ := h.ex
  exact ⟨vs, h1.ext he, h2.imp fun a b hab => hab.ext he⟩
theorem ActsAt.grown {w w' : World} {v : Value} {l : List ActV} {b : Nat} {t : TypeId} {cs : Array Value} (h : ActsAt w v l) (hg : w.grownBy w' (some b)) (hb : Box w b t cs) (h1 : t ≠ 35) (h2 : t ≠ 3) : ActsAt w' v l := by
  obtain ⟨vs, h3, h4⟩ := h.ex
  exact ⟨vs, h3.grown hg hb h1, h4.imp fun a c hab => HoldsT.grown hab hg hb h2⟩
theorem ActsAt.nil (w : World) : ActsAt w (.slice none 0 0) [] := ⟨[], HoldsT.nil w _ 3, .nil⟩
theorem IntsAt.oneCell {w : World} {v : Value} {l : List Int} (h : IntsAt w v l) : v.oneCell' = true := by
  obtain ⟨a, c, rfl, _⟩ := Holds.form h
  rfl
theorem flatA_append : ∀ (l k : List ActV) (vs us : List Value), vs.length = l.length → flatA (l ++ k) (vs ++ us) = flatA l vs ++ flatA k us
  | [], k, [], us, _ => rfl
  | [], _, _ :: _, _, h => by simp at h
  | _ :: _, _, [], _, h => by simp at h
  | a :: l, k, v :: vs, us, h => by
    have := flatA_append l k vs us (by simpa using h)
    simp only [List.cons_append, flatA, this]
theorem flatA_length : ∀ (l : List ActV) (vs : List Value), vs.length = l.length → (flatA l vs).length = l.length * 3
  | [], [], _ => rfl
  | [], _ :: _, h => by simp at h
  | _ :: _, [], h => by simp at h
  | a :: l, v :: vs, h => by
    have := flatA_length l vs (by simpa using h)
    simp only [flatA, List.length_cons, this]
    omega
theorem flatA_one : ∀ (l : List ActV) (vs : List Value), (∀ v ∈ vs, v.oneCell' = true) → ∀ u ∈ flatA l vs, u.oneCell' = true
  | [], _, _ => by intro u hu; simp [flatA] at hu
  | _ :: _, [], _ => by intro u hu; simp [flatA] at hu
  | a :: l, v :: vs, h => by
    intro u hu
    simp only [flatA, List.mem_cons] at hu
    rcases hu with rfl | rfl | rfl | hu
    · rfl
    · rfl
    · exact h _ (by simp)
    · exact flatA_one l vs (fun v hv => h v (by simp [hv])) u hu
theorem ActsAt.one {w : World} {b : Nat} (a : ActV) {v : Value} (h : Box w b 35 #[.int .i64 a.K, .int .i32 a.R, v]) (hv : IntsT w v a.P) : ActsAt w (.slice (some ⟨b, 0, none⟩) 1 1) [a] :=
  ⟨[v], HoldsT.boxed (cs := [.int .i64 a.K, .int .i32 a.R, v]) (n := 1) (sz := 3) h rfl (by intro u hu; simp at hu; rcases hu with rfl | rfl | rfl; rfl; rfl; exact hv.ints.oneCell) (by omega), .cons hv .nil⟩
theorem size40 : (Try.prog.info? 40).map (·.size) = some 3 := by kernel_rfl

/-- What a call leaves that hands back a rune begun, and runes. -/
def UtfRes (w : World) (r : UtfV × List Int) (e : Ending) (w' : World) : Prop :=
  ∃ a c, e = .returned (.tuple #[.agg #[.int .i64 r.1.Need, .int .i64 r.1.Min, .int .i64 r.1.Got], .slice a r.2.length c]) ∧ Aside (RunesAt w' (.slice a r.2.length c) r.2) ∧ Aside (Ext w w')
theorem UtfRes.of {w w' : World} (u : UtfV) (l : List Int) (a : Option Addr) (c : Nat) (h : RunesAt w' (.slice a l.length c) l) (he : Ext w w') : UtfRes w (u, l) (.returned (.tuple #[.agg #[.int .i64 u.Need, .int .i64 u.Min, .int .i64 u.Got], .slice a l.length c])) w' := ⟨a, c, rfl, ⟨h⟩, ⟨he⟩⟩
theorem and31u (b : Int) (h0 : 0 ≤ b) (h1 : b ≤ 255) : bits BinOp.and IntKind.u8 b 31 = b % 32 := by
  have h : ∀ n : Fin 256, bits BinOp.and IntKind.u8 (n.val : Int) 31 = (n.val : Int) % 32 := by decide +kernel
  have := h ⟨b.toNat, by omega⟩
  simpa [Int.toNat_of_nonneg h0] using this
theorem and15u (b : Int) (h0 : 0 ≤ b) (h1 : b ≤ 255) : bits BinOp.and IntKind.u8 b 15 = b % 16 := by
  have h : ∀ n : Fin 256, bits BinOp.and IntKind.u8 (n.val : Int) 15 = (n.val : Int) % 16 := by decide +kernel
  have := h ⟨b.toNat, by omega⟩
  simpa [Int.toNat_of_nonneg h0] using this
theorem and7u (b : Int) (h0 : 0 ≤ b) (h1 : b ≤ 255) : bits BinOp.and IntKind.u8 b 7 = b % 8 := by
  have h : ∀ n : Fin 256, bits BinOp.and IntKind.u8 (n.val : Int) 7 = (n.val : Int) % 8 := by decide +kernel
  have := h ⟨b.toNat, by omega⟩
  simpa [Int.toNat_of_nonneg h0] using this
theorem and63u (b : Int) (h0 : 0 ≤ b) (h1 : b ≤ 255) : bits BinOp.and IntKind.u8 b 63 = b % 64 := by
  have h : ∀ n : Fin 256, bits BinOp.and IntKind.u8 (n.val : Int) 63 = (n.val : Int) % 64 := by decide +kernel
  have := h ⟨b.toNat, by omega⟩
  simpa [Int.toNat_of_nonneg h0] using this

set_option maxHeartbeats 4000000 in
theorem first_any (b : Int) (w : World) (h0 : 0 ≤ b) (h1 : b ≤ 255) : Calls Try.prog 118 #[.int .u8 b] w (UtfRes w (firstR b)) := by
  have a31 := and31u b h0 h1
  have a15 := and15u b h0 h1
  have a7 := and7u b h0 h1
  have er : IntKind.i32.wrap b = b := IntWalk.i32_in _ (by omega)
  have e32 : IntKind.i64.wrap (b % 32) = b % 32 := IntWalk.i64_in _ (by omega)
  have e16 : IntKind.i64.wrap (b % 16) = b % 16 := IntWalk.i64_in _ (by omega)
  have e8 : IntKind.i64.wrap (b % 8) = b % 8 := IntWalk.i64_in _ (by omega)
  by_cases c1 : b < 128
  · rw [show firstR b = (⟨0, 0, 0⟩, [b]) from by unfold firstR; rw [if_pos c1]]
    go_enter Try.func118, Try.ntmps118
    go_wp2
    refine bodyPost_ret (results_cell_tmp Try.results118 _ _ w.heap.size 40 #[.int .i64 (⟨0, 0, 0⟩ : UtfV).Need, .int .i64 (⟨0, 0, 0⟩ : UtfV).Min, .int .i64 (⟨0, 0, 0⟩ : UtfV).Got] (0, 0) _ rfl ((Box.new _ _ _).alloc _) Try.underlying40 rfl size40) rfl ?_
    exact UtfRes.of ⟨0, 0, 0⟩ [b] _ _ (RunesAt.one (Box.newAt _ _ _ _ (by simp))) ((Ext.alloc1 _ _).alloc _)
  have d1 : decide (b < 128) = false := by simpa using c1
  by_cases c2 : 192 ≤ b ∧ b ≤ 223
  · rw [show firstR b = (⟨1, 128, b % 32⟩, []) from by unfold firstR; rw [if_neg c1, if_pos c2]]
    obtain ⟨c2a, c2b⟩ := c2
    go_enter Try.func118, Try.ntmps118
    go_wp2
    refine bodyPost_ret (results_cell_tmp Try.results118 _ _ w.heap.size 40 #[.int .i64 (⟨1, 128, b % 32⟩ : UtfV).Need, .int .i64 (⟨1, 128, b % 32⟩ : UtfV).Min, .int .i64 (⟨1, 128, b % 32⟩ : UtfV).Got] (0, 0) _ rfl (Box.new _ _ _) Try.underlying40 rfl size40) rfl ?_
    exact UtfRes.of ⟨1, 128, b % 32⟩ [] _ _ (RunesAt.nil _) (Ext.alloc1 _ _)
  by_cases c3 : 224 ≤ b ∧ b ≤ 239
  · rw [show firstR b = (⟨2, 2048, b % 16⟩, []) from by unfold firstR; rw [if_neg c1, if_neg c2, if_pos c3]]
    obtain ⟨c3a, c3b⟩ := c3
    have c2a : 192 ≤ b := by omega
    have d2 : decide (b ≤ 223) = false := by simp; omega
    go_enter Try.func118, Try.ntmps118
    go_wp2
    refine bodyPost_ret (results_cell_tmp Try.results118 _ _ w.heap.size 40 #[.int .i64 (⟨2, 2048, b % 16⟩ : UtfV).Need, .int .i64 (⟨2, 2048, b % 16⟩ : UtfV).Min, .int .i64 (⟨2, 2048, b % 16⟩ : UtfV).Got] (0, 0) _ rfl (Box.new _ _ _) Try.underlying40 rfl size40) rfl ?_
    exact UtfRes.of ⟨2, 2048, b % 16⟩ [] _ _ (RunesAt.nil _) (Ext.alloc1 _ _)
  by_cases c4 : 240 ≤ b ∧ b ≤ 247
  · rw [show firstR b = (⟨3, 65536, b % 8⟩, []) from by unfold firstR; rw [if_neg c1, if_neg c2, if_neg c3, if_pos c4]]
    obtain ⟨c4a, c4b⟩ := c4
    have c2a : 192 ≤ b := by omega
    have c3a : 224 ≤ b := by omega
    have d2 : decide (b ≤ 223) = false := by simp; omega
    have d3 : decide (b ≤ 239) = false := by simp; omega
    go_enter Try.func118, Try.ntmps118
    go_wp2
    refine bodyPost_ret (results_cell_tmp Try.results118 _ _ w.heap.size 40 #[.int .i64 (⟨3, 65536, b % 8⟩ : UtfV).Need, .int .i64 (⟨3, 65536, b % 8⟩ : UtfV).Min, .int .i64 (⟨3, 65536, b % 8⟩ : UtfV).Got] (0, 0) _ rfl (Box.new _ _ _) Try.underlying40 rfl size40) rfl ?_
    exact UtfRes.of ⟨3, 65536, b % 8⟩ [] _ _ (RunesAt.nil _) (Ext.alloc1 _ _)
  · rw [show firstR b = (⟨0, 0, 0⟩, [65533]) from by unfold firstR; rw [if_neg c1, if_neg c2, if_neg c3, if_neg c4]]
    have hlast : (128 ≤ b ∧ b < 192) ∨ 248 ≤ b := by omega
    clear c2 c3 c4
    rcases hlast with ⟨k1, k2⟩ | k1
    · have d2 : decide (192 ≤ b) = false := by simp; omega
      have d3 : decide (224 ≤ b) = false := by simp; omega
      have d4 : decide (240 ≤ b) = false := by simp; omega
      go_enter Try.func118, Try.ntmps118
      go_wp2
      refine bodyPost_ret (results_cell_tmp Try.results118 _ _ w.heap.size 40 #[.int .i64 (⟨0, 0, 0⟩ : UtfV).Need, .int .i64 (⟨0, 0, 0⟩ : UtfV).Min, .int .i64 (⟨0, 0, 0⟩ : UtfV).Got] (0, 0) _ rfl ((Box.new _ _ _).alloc _) Try.underlying40 rfl size40) rfl ?_
      exact UtfRes.of ⟨0, 0, 0⟩ [65533] _ _ (RunesAt.one (Box.newAt _ _ _ _ (by simp))) ((Ext.alloc1 _ _).alloc _)
    · have d2 : decide (b ≤ 223) = false := by simp; omega
      have d3 : decide (b ≤ 239) = false := by simp; omega
      have d4 : decide (b ≤ 247) = false := by simp; omega
      have k2 : 192 ≤ b := by omega
      have k3 : 224 ≤ b := by omega
      have k4 : 240 ≤ b := by omega
      go_enter Try.func118, Try.ntmps118
      go_wp2
      refine bodyPost_ret (results_cell_tmp Try.results118 _ _ w.heap.size 40 #[.int .i64 (⟨0, 0, 0⟩ : UtfV).Need, .int .i64 (⟨0, 0, 0⟩ : UtfV).Min, .int .i64 (⟨0, 0, 0⟩ : UtfV).Got] (0, 0) _ rfl ((Box.new _ _ _).alloc _) Try.underlying40 rfl size40) rfl ?_
      exact UtfRes.of ⟨0, 0, 0⟩ [65533] _ _ (RunesAt.one (Box.newAt _ _ _ _ (by simp))) ((Ext.alloc1 _ _).alloc _)

theorem rune1_any (n m : Int) (w : World) (hn : 0 ≤ n ∧ n ≤ 2147483647) : Calls Try.prog 119 #[.int .i64 n, .int .i64 m] w fun e w' => e = .returned (.int .i32 (rune1R n m)) ∧ w = w' := by
  have er : IntKind.i32.wrap n = n := IntWalk.i32_in _ (by omega)
  obtain ⟨hn0, hn1⟩ := hn
  by_cases c1 : n < m
  · rw [show rune1R n m = 65533 from by unfold rune1R; rw [if_pos (by omega)]]
    go_enter Try.func119, Try.ntmps119
    go_wp2
    go_ret
    exact ⟨rfl, rfl⟩
  by_cases c2 : n > 1114111
  · rw [show rune1R n m = 65533 from by unfold rune1R; rw [if_pos (by omega)]]
    go_enter Try.func119, Try.ntmps119
    go_wp2
    go_ret
    exact ⟨rfl, rfl⟩
  have d1 : decide (n < m) = false := by simpa using c1
  have d2 : decide (1114111 < n) = false := by simpa using c2
  by_cases c3 : 55296 ≤ n
  · by_cases c4 : n ≤ 57343
    · rw [show rune1R n m = 65533 from by unfold rune1R; rw [if_pos (by omega)]]
      go_enter Try.func119, Try.ntmps119
      go_wp2
      go_ret
      exact ⟨rfl, rfl⟩
    · rw [show rune1R n m = n from by unfold rune1R; rw [if_neg (by omega)]]
      have d4 : decide (n ≤ 57343) = false := by simpa using c4
      go_enter Try.func119, Try.ntmps119
      go_wp2
      go_ret
      exact ⟨rfl, rfl⟩
  · rw [show rune1R n m = n from by unfold rune1R; rw [if_neg (by omega)]]
    have d3 : decide (55296 ≤ n) = false := by simpa using c3
    go_enter Try.func119, Try.ntmps119
    go_wp2
    go_ret
    exact ⟨rfl, rfl⟩

/-- What a call leaves that hands back runes. -/
def RunesRes (w : World) (l : List Int) (e : Ending) (w' : World) : Prop :=
  ∃ a c, e = .returned (.slice a l.length c) ∧ Aside (RunesAt w' (.slice a l.length c) l) ∧ Aside (Ext w w')
theorem RunesRes.of {w w' : World} (l : List Int) (a : Option Addr) (c : Nat) (h : RunesAt w' (.slice a l.length c) l) (he : Ext w w') : RunesRes w l (.returned (.slice a l.length c)) w' := ⟨a, c, rfl, ⟨h⟩, ⟨he⟩⟩
theorem End_any (u : UtfV) (w : World) : Calls Try.prog 78 #[.agg #[.int .i64 u.Need, .int .i64 u.Min, .int .i64 u.Got]] w (RunesRes w (endR u)) := by
  by_cases c1 : u.Need > 0
  · rw [show endR u = [65533] from by unfold endR; rw [if_pos c1]]
    go_enter Try.func78, Try.ntmps78
    go_wp2
    go_ret
    exact RunesRes.of [65533] _ _ (RunesAt.one (Box.newAt _ _ _ _ (by simp))) ((Ext.alloc1 _ _).alloc _)
  · rw [show endR u = [] from by unfold endR; rw [if_neg c1]]
    have d1 : decide (0 < u.Need) = false := by simpa using c1
    go_enter Try.func78, Try.ntmps78
    go_wp2
    go_ret
    exact RunesRes.of [] _ _ (RunesAt.nil _) (Ext.alloc1 _ _)
/-- What a call leaves that hands back actions. -/
def ActsRes (w : World) (l : List ActV) (e : Ending) (w' : World) : Prop :=
  ∃ a c, e = .returned (.slice a l.length c) ∧ Aside (ActsAt w' (.slice a l.length c) l) ∧ Aside (Ext w w')
theorem ActsRes.of {w w' : World} (l : List ActV) (a : Option Addr) (c : Nat) (h : ActsAt w' (.slice a l.length c) l) (he : Ext w w') : ActsRes w l (.returned (.slice a l.length c)) w' := ⟨a, c, rfl, ⟨h⟩, ⟨he⟩⟩
theorem qcontrol_any (b : Int) (w : World) (h0 : 0 ≤ b) (h1 : b ≤ 255) : Calls Try.prog 79 #[.int .u8 b] w (ActsRes w (controlR b)) := by
  have er : IntKind.i32.wrap b = b := IntWalk.i32_in _ (by omega)
  by_cases c1 : 7 ≤ b
  · by_cases c2 : b ≤ 13
    · rw [show controlR b = [⟨2, b, []⟩] from by unfold controlR; rw [if_pos ⟨c1, c2⟩]]
      go_enter Try.func79, Try.ntmps79
      go_wp2
      go_ret
      exact ActsRes.of [⟨2, b, []⟩] _ _ (ActsAt.one ⟨2, b, []⟩ (Box.new _ _ _) (IntsT.nil _)) (Ext.alloc1 _ _)
    · rw [show controlR b = [] from by unfold controlR; rw [if_neg (by omega)]]
      have d2 : decide (b ≤ 13) = false := by simpa using c2
      go_enter Try.func79, Try.ntmps79
      go_wp2
      go_ret
      exact ActsRes.of [] _ _ (ActsAt.nil _) (Ext.refl _)
  · rw [show controlR b = [] from by unfold controlR; rw [if_neg (by omega)]]
    have d2 : decide (7 ≤ b) = false := by simpa using c1
    go_enter Try.func79, Try.ntmps79
    go_wp2
    go_ret
    exact ActsRes.of [] _ _ (ActsAt.nil _) (Ext.refl _)
end Go.Proofs.Ytmehkikkjebnnaa
