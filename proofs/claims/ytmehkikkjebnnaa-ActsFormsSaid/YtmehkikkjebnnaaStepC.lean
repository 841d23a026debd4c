/-
  Walks: polyptychref1: told, prints.
-/
import Derived.Test.YtmehkikkjebnnaaStepB
set_option linter.unusedVariables false
set_option linter.unusedSimpArgs false
namespace Go.Proofs.Ytmehkikkjebnnaa
open Go.RowKit
attribute [local go_sem] max2_i min2_i max_two min_two
attribute [local go_sem ↓] Go.wp_at_zero Go.wp_at_succ

theorem info3 : (Try.prog.info? 3).map (fun i => (i.zero, i.size, i.bytes)) = some (some (.int .i64 0), 1, 8) := by kernel_rfl
theorem own_empty (w : World) (base : Nat) (e : TypeId) (sz : Nat) (hb : base ≤ w.heap.size) : (w.alloc (.cells #[] e)).ownsRow base e sz (.slice (some ⟨w.heap.size, 0, none⟩) 0 0) 0 [] := by
  refine ⟨by simp, .inr ⟨w.heap.size, 0, #[], rfl, hb, heap_alloc_new w _, Nat.le_refl _, by unfold maxLen; omega, by simp, by simp⟩⟩
/-- What a call leaves that hands back integers. -/
def IntsRes (w : World) (l : List Int) (e : Ending) (w' : World) : Prop :=
  ∃ a c, e = .returned (.slice a l.length c) ∧ Aside (IntsT w' (.slice a l.length c) l) ∧ Aside (Ext w w')
theorem IntsRes.of {w w' : World} (l : List Int) (a : Option Addr) (c : Nat) (h : IntsT w' (.slice a l.length c) l) (he : Ext w w') : IntsRes w l (.returned (.slice a l.length c)) w' := ⟨a, c, rfl, ⟨h⟩, ⟨he⟩⟩

set_option maxHeartbeats 1000000 in
theorem told_any (l : List Int) (n : Int) (ap : Option Addr) (cp : Nat) (w : World) (hp : IntsT w (.slice ap l.length cp) l) :
    Calls Try.prog 80 #[.slice ap l.length cp, .int .i64 n] w (IntsRes w (toldR l n)) := by
  have HP := Aside.mk hp
  clear hp
  by_cases c1 : 16 ≤ l.length
  · rw [show toldR l n = l from by unfold toldR; rw [if_pos c1]]
    have d1 : (16 : Int) ≤ (l.length : Int) := by omega
    go_enter Try.func80, Try.ntmps80
    go_wp2
    go_ret
    exact IntsRes.of l ap cp HP.out (Ext.refl _)
  · rw [show toldR l n = l ++ [n] from by unfold toldR; rw [if_neg c1]]
    have d1 : decide (16 ≤ l.length) = false := by simpa using c1
    have d2 : decide ((16 : Int) ≤ (l.length : Int)) = false := by simp; omega
    obtain ⟨i0, hi, hz0, hz1, hz2⟩ := info_parts info3
    have hi' := Aside.mk hi
    have HLT : Aside (l.length < 16) := ⟨by omega⟩
    clear hi c1
    go_enter Try.func80, Try.ntmps80
    go_wp2_with (first
      | (at_builtin; refine wpList_append_holds _ rfl (.tmp 9) (.tmp 10) 28 rfl w.heap.size 3 i0 (.int .i64 0) 1 8 Try.underlying28 hi'.out hz0 hz1 hz2 rfl (by decide) _ 0 [] rfl ?c1 _ l.length (l.map (Value.int .i64)) rfl ?c2 ?c3 ?c4 ?c5 ?_))
    case c1 => exact own_empty w w.heap.size 3 1 (Nat.le_refl _)
    case c2 => exact (HP.out.ints.ext (Ext.alloc1 _ _))
    case c3 => have := HLT.out; unfold maxLen; omega
    case c4 => have := HLT.out; omega
    case c5 => simp
    intro v1 w1 hown hg1 hwh
    obtain ⟨a1, k1, rfl⟩ := own_slice hown
    have HO1 := Aside.mk hown
    have HX1 : Aside (Ext w w1) := ⟨(Ext.alloc1 w _).of_grown hg1 (by intro k hk; simp [Value.ownBlock] at hk; omega)⟩
    clear hown hg1 hwh
    go_wp2_with (first
      | (at_builtin; refine wpList_append_holds _ rfl (.tmp 11) (.tmp 13) 28 rfl w.heap.size 3 i0 (.int .i64 0) 1 8 Try.underlying28 hi'.out hz0 hz1 hz2 rfl (by decide) _ l.length (l.map (Value.int .i64)) rfl ?d1 _ 1 [.int .i64 n] rfl ?d2 ?d3 ?d4 ?d5 ?_))
    case d1 => exact own_ext HO1.out (Ext.alloc1 _ _)
    case d2 => exact Holds.new1 _ _ (.int .i64 n) rfl
    case d3 => have := HLT.out; unfold maxLen; omega
    case d4 => have := HLT.out; omega
    case d5 => have := HX1.out.size; simp; omega
    intro v2 w2 hown hg2 hwh
    obtain ⟨a2, k2, rfl⟩ := own_slice hown
    have HO2 := Aside.mk hown
    have HX2 : Aside (Ext w w2) := ⟨(HX1.out.alloc _).of_grown hg2 (fun k hk => own_base HO1.out k hk)⟩
    clear hown hg2 hwh
    go_wp2
    go_ret
    refine ⟨a2, k2, by simp, ⟨?_⟩, HX2⟩
    have h3 := HoldsT.own HO2.out (by intro u hu; simp at hu; rcases hu with ⟨x, _, rfl⟩ | rfl <;> rfl)
    unfold IntsT
    rw [List.length_append, List.map_append]
    exact h3

theorem info35 : (Try.prog.info? 35).map (fun i => (i.zero, i.size, i.bytes)) = some (some (.agg #[.int .i64 0, .int .i32 0, .slice none 0 0]), 3, 40) := by kernel_rfl
theorem IntsT.oneCell {w : World} {v : Value} {l : List Int} (h : IntsT w v l) : v.oneCell' = true := h.ints.oneCell
theorem flatP_one (l : List ActV) (h : ∀ a ∈ l, a.P = []) : ∀ u ∈ flatA l (l.map fun _ => Value.slice none 0 0), u.oneCell' = true :=
  flatA_one l _ (fun v hv => by obtain ⟨_, _, rfl⟩ := List.mem_map.1 hv; rfl)
theorem printsR_snoc (l : List Int) (k : Nat) (h : k < l.length) (r : Int) (hr : r = l.getD k 0) : printsR (l.take (k + 1)) = printsR (l.take k) ++ (if shown r then [⟨1, r, []⟩] else []) := by
  rw [take_succ_getD l k 0 h, ← hr]
  unfold printsR
  rw [List.filter_append, List.map_append]
  congr 1
  by_cases hs : shown r = true
  · rw [if_pos hs]; simp [List.filter_cons, hs]
  · rw [if_neg hs]; simp [List.filter_cons, hs]
theorem RunesAt.at_ {w : World} {a : Option Addr} {n c : Nat} {l : List Int} (h : RunesAt w (.slice a n c) l) (i : Nat) (hi : i < l.length) :
    ∃ b o, a = some ⟨b, o, none⟩ ∧ w.cell? ⟨b, o + i, none⟩ = some (.int .i32 (l.getD i 0)) := by
  have hn : n = l.length := by obtain ⟨a', c', hv, _⟩ := Holds.form (HoldsT.at_ h); injection hv
  subst hn
  obtain ⟨b, o, e1, h1⟩ := Holds.cell (HoldsT.at_ h) i (by omega)
  refine ⟨b, o, e1, ?_⟩
  rw [h1, List.getElem?_map, List.getElem?_eq_getElem hi, Option.map_some, getD_lt l i 0 hi]
def nilsOf (l : List ActV) : List Value := l.map fun _ => Value.slice none 0 0
theorem nilsOf_all (w : World) : ∀ l : List ActV, (∀ a ∈ l, a.P = []) → All2 (fun v (a : ActV) => IntsT w v a.P) (nilsOf l) l
  | [], _ => .nil
  | a :: l, h => .cons (by rw [h a (by simp)]; exact IntsT.nil w) (nilsOf_all w l fun b hb => h b (by simp [hb]))

/-- What a call leaves that hands back actions without parameters, in memory of its own. -/
def ActsOwn (w : World) (l : List ActV) (e : Ending) (w' : World) : Prop :=
  ∃ a c, e = .returned (.slice a l.length c) ∧ Aside (w'.ownsRow w.heap.size 35 3 (.slice a l.length c) l.length (flatA l (nilsOf l))) ∧ Aside (Ext w w')
theorem acts_own {w : World} {base : Nat} {a : Option Addr} {c : Nat} {l : List ActV} (h : w.ownsRow base 35 3 (.slice a l.length c) l.length (flatA l (nilsOf l))) (h1 : ∀ a ∈ l, a.P = []) : ActsAt w (.slice a l.length c) l :=
  ⟨nilsOf l, HoldsT.own h (flatA_one _ _ (fun v hv => by obtain ⟨_, _, rfl⟩ := List.mem_map.1 hv; rfl)), nilsOf_all _ _ h1⟩

set_option maxRecDepth 100000 in
set_option maxHeartbeats 2000000 in
theorem prints_any (l : List Int) (ap : Option Addr) (cp : Nat) (w : World) (hp : RunesAt w (.slice ap l.length cp) l) (hl : l.length ≤ 1000) :
    Calls Try.prog 77 #[.slice ap l.length cp] w (ActsOwn w (printsR l)) := by
  have HP := Aside.mk hp
  clear hp
  obtain ⟨i0, hi, hz0, hz1, hz2⟩ := info_parts info35
  have hi' := Aside.mk hi
  clear hi
  go_enter Try.func77, Try.ntmps77
  go_wp2
  go_loopw [3, 4] (fun so si wr => ∃ (k : Nat) (ao : Option Addr) (co : Nat), k ≤ l.length ∧ si = .int .i64 k ∧ so = .slice ao (printsR (l.take k)).length co ∧ Aside (wr.ownsRow w.heap.size 35 3 (.slice ao (printsR (l.take k)).length co) (printsR (l.take k)).length (flatA (printsR (l.take k)) (nilsOf (printsR (l.take k))))) ∧ Aside (Ext w wr)) (fun _ i _ => l.length - (intOf i).toNat)
  case atStart => exact ⟨0, none, 0, by omega, rfl, rfl, ⟨own_nil _ _ _ _⟩, ⟨Ext.refl _⟩⟩
  case round =>
    obtain ⟨k, ao, co, hk, rfl, rfl, HO, HE⟩ := hrel
    by_cases hlt : k < l.length
    · have hk0 : (0 : Int) ≤ (k : Int) := by omega
      have hk1 : (k : Int) < (l.length : Int) := by omega
      obtain ⟨b1, o1, ha1, hc1⟩ := (HP.out.ext HE.out).at_ k hlt
      obtain ⟨r, hr⟩ : ∃ r, r = l.getD k 0 := ⟨_, rfl⟩
      rw [← hr] at hc1
      have HS := Aside.mk (printsR_snoc l k hlt r hr)
      have HL2 : Aside ((printsR (l.take k)).length ≤ 1000) := ⟨Nat.le_trans (printsR_length _) (by rw [List.length_take]; omega)⟩
      have hsz := HE.out.size
      subst ha1
      clear hr
      by_cases c1 : 32 ≤ r
      · by_cases c2 : r < 127
        · have hs : Aside (shown r = true) := ⟨by unfold shown; simp; omega⟩
          go_wp2_with (first
            | (at_builtin; refine wpList_append_holds _ rfl (.tmp 30) (.tmp 36) 59 rfl w.heap.size 35 i0 (.agg #[.int .i64 0, .int .i32 0, .slice none 0 0]) 3 40 Try.underlying59 hi'.out hz0 hz1 hz2 rfl (by decide) _ (printsR (l.take k)).length _ rfl (own_ext HO.out (Ext.alloc1 _ _)) _ 1 [.int .i64 1, .int .i32 r, .slice none 0 0] rfl ?d2 ?d3 ?d4 ?d5 ?_))
          case d2 => exact Holds.newN wr 35 3 1 [.int .i64 1, .int .i32 r, .slice none 0 0] rfl (by omega) (by intro u hu; simp at hu; rcases hu with rfl | rfl | rfl <;> rfl)
          case d3 => have := HL2.out; unfold maxLen; omega
          case d4 => have := HL2.out; omega
          case d5 => first | (simp; omega) | omega
          intro v2 w2 hown hg2 hwh
          obtain ⟨a2, k2, rfl⟩ := own_slice hown
          have HO2 := Aside.mk hown
          have HX2 : Aside (Ext w w2) := ⟨(HE.out.alloc _).of_grown hg2 (fun k hk => own_base HO.out k hk)⟩
          clear hown hg2 hwh
          go_wp2
          go_roundw
          case rel =>
            refine ⟨k + 1, a2, k2, by omega, by go_num, ?_, ?_, HX2⟩
            · rw [HS.out, if_pos hs.out]; simp
            · rw [HS.out, if_pos hs.out]
              refine ⟨?_⟩
              have h4 := HO2.out
              unfold nilsOf
              rw [List.map_append, flatA_append _ _ _ _ (by simp), List.length_append]
              exact h4
          case measure => simp [intOf]; omega
        · have d2 : decide (r < 127) = false := by simpa using c2
          by_cases c3 : r > 159
          · have hs : Aside (shown r = true) := ⟨by unfold shown; simp; omega⟩
            go_wp2_with (first
              | (at_builtin; refine wpList_append_holds _ rfl (.tmp 30) (.tmp 36) 59 rfl w.heap.size 35 i0 (.agg #[.int .i64 0, .int .i32 0, .slice none 0 0]) 3 40 Try.underlying59 hi'.out hz0 hz1 hz2 rfl (by decide) _ (printsR (l.take k)).length _ rfl (own_ext HO.out (Ext.alloc1 _ _)) _ 1 [.int .i64 1, .int .i32 r, .slice none 0 0] rfl ?d2 ?d3 ?d4 ?d5 ?_))
            case d2 => exact Holds.newN wr 35 3 1 [.int .i64 1, .int .i32 r, .slice none 0 0] rfl (by omega) (by intro u hu; simp at hu; rcases hu with rfl | rfl | rfl <;> rfl)
            case d3 => have := HL2.out; unfold maxLen; omega
            case d4 => have := HL2.out; omega
            case d5 => first | (simp; omega) | omega
            intro v2 w2 hown hg2 hwh
            obtain ⟨a2, k2, rfl⟩ := own_slice hown
            have HO2 := Aside.mk hown
            have HX2 : Aside (Ext w w2) := ⟨(HE.out.alloc _).of_grown hg2 (fun k hk => own_base HO.out k hk)⟩
            clear hown hg2 hwh
            go_wp2
            go_roundw
            case rel =>
              refine ⟨k + 1, a2, k2, by omega, by go_num, ?_, ?_, HX2⟩
              · rw [HS.out, if_pos hs.out]; simp
              · rw [HS.out, if_pos hs.out]
                refine ⟨?_⟩
                have h4 := HO2.out
                unfold nilsOf
                rw [List.map_append, flatA_append _ _ _ _ (by simp), List.length_append]
                exact h4
            case measure => simp [intOf]; omega
          · have d3 : decide (159 < r) = false := by simpa using c3
            have hs : Aside (shown r = false) := ⟨by unfold shown; simp; omega⟩
            go_wp2
            go_roundw
            case rel =>
              refine ⟨k + 1, ao, co, by omega, by go_num, ?_, ?_, HE⟩
              · rw [HS.out, hs.out]; simp
              · rw [HS.out, hs.out]; rw [if_neg (by simp), List.append_nil]; exact HO
            case measure => simp [intOf]; omega
      · have d1 : decide (32 ≤ r) = false := by simpa using c1
        have hs : Aside (shown r = false) := ⟨by unfold shown; simp; omega⟩
        go_wp2
        go_roundw
        case rel =>
          refine ⟨k + 1, ao, co, by omega, by go_num, ?_, ?_, HE⟩
          · rw [HS.out, hs.out]; simp
          · rw [HS.out, hs.out]; rw [if_neg (by simp), List.append_nil]; exact HO
        case measure => simp [intOf]; omega
    · obtain rfl : k = l.length := by omega
      go_wp2
      go_ret
      have h3 := HO.out
      rw [List.take_length] at h3 ⊢
      exact ⟨ao, co, rfl, ⟨h3⟩, HE⟩
end Go.Proofs.Ytmehkikkjebnnaa
