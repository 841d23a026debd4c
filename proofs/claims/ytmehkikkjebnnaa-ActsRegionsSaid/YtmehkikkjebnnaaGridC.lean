/-
  Walks: slices.Clone over rows, slices.Grow of nothing, slices.Concat.
-/
import Derived.Test.YtmehkikkjebnnaaGridA
import Derived.Lib.AppendZerosOnto
set_option linter.unusedVariables false
set_option linter.unusedSimpArgs false
namespace Go.Proofs.Ytmehkikkjebnnaa
open Go.RowKit
attribute [local go_sem] max2_i min2_i max_two min_two
attribute [local go_sem ↓] Go.wp_at_zero Go.wp_at_succ

/-- What a call leaves that makes an outer row of its own, of given slices. -/
def MadeV (w : World) (n : Nat) (vs : List Value) (e : Ending) (w' : World) : Prop :=
  ∃ a c, e = .returned (.slice a n c) ∧ w'.ownsRow w.heap.size 51 1 (.slice a n c) n vs ∧ Ext w w'

set_option maxRecDepth 100000 in
theorem clone_rows (a : Option Addr) (n c : Nat) (vs : List Value) (w : World) (h : Holds w 1 (.slice a n c) n vs) (hl : n ≤ 1000000) :
    Calls Try.prog 115 #[.slice a n c] w (MadeV w n vs) := by
  have H := Aside.mk h
  clear h
  obtain ⟨i0, hi, hz0, hz1, hz2⟩ := info_parts info51
  have hi' := Aside.mk hi
  clear hi
  have he := fun (w : World) => Lib.run_eql_slice_nil (P := Try.prog) w 29 51 a n c 0 0 Try.underlying29
  cases a with
  | none =>
    go_enter Try.func115, Try.ntmps115
    go_wp2
    go_ret
    obtain ⟨a', c', hv', _, _, h3⟩ := H.out.form
    injection hv' with e1 _ _
    subst e1
    have h0 : n = 0 := by
      rcases Nat.eq_zero_or_pos n with h0 | h0
      · exact h0
      · obtain ⟨b, o, hh, _⟩ := h3 h0; cases hh
    subst h0
    have hvs : vs = [] := List.eq_nil_of_length_eq_zero (by simpa using H.out.len)
    subst hvs
    exact ⟨_, _, rfl, own_nil _ _ _ _, Ext.refl _⟩
  | some ad =>
    go_enter Try.func115, Try.ntmps115
    go_wp2_with (at_builtin; refine wpList_append_holds _ rfl _ _ 29 rfl w.heap.size 51 i0 (.slice none 0 0) 1 24 Try.underlying29 hi'.out hz0 hz1 hz2 rfl (by decide) _ 0 [] rfl ?c1 _ _ _ rfl (H.out.ext (Ext.alloc1 _ _)) ?c2 ?c3 ?c4 ?_)
    case c1 => exact World.ownsRow_made w #[] 0 (Nat.le_refl _) (by unfold maxLen; omega) (by simp)
    case c2 => unfold maxLen; omega
    case c3 => omega
    case c4 => simp
    intro v' w1 hown hg hwh
    obtain ⟨av, cv, rfl⟩ := own_slice hown
    go_wp2
    go_ret
    refine ⟨av, cv, ?_, ?_, ?_⟩
    · rfl
    · exact hown
    · exact (Ext.alloc1 _ _).of_grown hg (by intro k hk; simp [Value.ownBlock] at hk; omega)

section
variable {P : Program} (w : World)
theorem wpList_append_zeros_nil {ops : Array Oper} {rest : List Oper} {o : Oper} {a : Act} {Q : Exit → Act → World → Prop} (hgd : o.guard = none) (s x : Operand) (t tn : TypeId)
    (ho : o.op = .call { callee := .builtin .append, args := #[s, x], argTypes := #[t, tn] })
    (e : TypeId) (i : TypeInfo) (z : Value) (kn kq : IntKind) (ht : P.underlying t = some (.slice e)) (htn : P.underlying tn = some (.int kn)) (hi : P.info? e = some i) (hz : i.zero = some z)
    (k : Nat) (h0 : 0 < k) (hs : 0 < i.size) (hb : i.bytes = 24) (hk : k ≤ 1000000) (hsv : a.eval s = .slice none 0 0) (hxv : a.eval x = .int kq k)
    (h : wpList P ops Q rest (a.put o.dst (.slice (some ⟨w.heap.size, 0, none⟩) (0 + k) (grownCap w (0 + k) 0 e)))
      (w.drew.alloc (.cells ((#[] : Array Value) ++ Builtin.zeroCells z.cells k ++ Builtin.zeroCells z.cells (grownCap w (0 + k) 0 e - (0 + k))) e))) :
    wpList P ops Q (o :: rest) a w := by
  refine wpList_plain hgd fun K hK => ?_
  have hr := Lib.run_append_grow_zeros (P := P) w t tn o.type e i z kq kn ht htn hi hz none 0 0 [] (by simp [Builtin.firstCells]) k h0 hs (by omega) (by omega) (by rw [hb]; omega)
    (growslice_fits (need := 0 + k) (old := 0) (bytes := i.bytes) (by omega) (by rw [hb]; omega))
  unfold Oper.wp execOp
  simp only [ho, resolve, invoke, builtin, Sem.run_bind, Sem.run_pure, Result.andThen_ok, List.map_toArray, List.map_cons, List.map_nil, hsv, hxv, hr]
  exact hK _ _ h
end

set_option maxRecDepth 100000 in
theorem grow_nil (n : Nat) (w : World) (hn : n ≤ 1000000) :
    Calls Try.prog 133 #[.slice none 0 0, .int .i64 n] w (MadeV w 0 []) := by
  obtain ⟨i0, hi, hz0, hz1, hz2⟩ := info_parts info51
  have hi' := Aside.mk hi
  clear hi
  have e1 : IntKind.i64.wrap ((n : Int) - IntKind.i64.wrap (0 - 0)) = n := by
    have : IntKind.i64.wrap (0 - 0) = 0 := by decide
    rw [this]; exact IntWalk.i64_in _ (by omega)
  have h63 : (n : Int) ≤ 1000000 := by omega
  rcases Nat.eq_zero_or_pos n with h0 | h0
  · subst h0
    go_enter Try.func133, Try.ntmps133
    go_wp2
    go_ret
    exact ⟨_, _, rfl, own_nil _ _ _ _, Ext.refl _⟩
  · go_enter Try.func133, Try.ntmps133
    go_wp2_with (at_builtin; refine wpList_append_zeros_nil _ rfl _ _ 29 3 rfl 51 i0 (.slice none 0 0) .i64 .i64 Try.underlying29 Try.underlying3 hi'.out hz0 n h0 (by omega) hz2 hn rfl rfl ?_)
    go_ret
    have hge := grownCap_ge w n 0 51
    refine ⟨_, _, rfl, ⟨by simp, .inr ⟨w.heap.size, grownCap w n 0 51, _, rfl, Nat.le_refl _, heap_alloc_new w.drew _, Nat.zero_le _, grownCap_le_maxLen w n 0 51 (by unfold maxLen; omega), ?_, by simp⟩⟩, ((Ext.refl w).drew).alloc _⟩
    simp [size_zeroCells, Value.cells]
    omega

/-- All that lies ahead of a place, in one. -/
def upTo (xss : List (List Value)) (k : Nat) : List Value := (xss.take k).flatten
theorem upTo_succ {xss : List (List Value)} {k : Nat} {xs : List Value} (h : xss[k]? = some xs) : upTo xss (k + 1) = upTo xss k ++ xs := by
  unfold upTo
  rw [take_succ_some h]
  simp
theorem upTo_le (xss : List (List Value)) (k : Nat) : (upTo xss k).length ≤ xss.flatten.length := by
  unfold upTo
  have : xss.flatten = (xss.take k).flatten ++ (xss.drop k).flatten := by rw [← List.flatten_append, List.take_append_drop]
  rw [this, List.length_append]
  omega

theorem parts_at {w : World} {a : Option Addr} {c : Nat} {vs : List Value} {xss : List (List Value)} (h : Holds w 1 (.slice a xss.length c) xss.length vs) (hall : All2 (fun v xs => Holds w 1 v xs.length xs) vs xss)
    (k : Nat) (hk : k < xss.length) : ∃ b o av cv xs, a = some ⟨b, o, none⟩ ∧ w.cell? ⟨b, o + k, none⟩ = some (.slice av xs.length cv) ∧ Aside (Holds w 1 (.slice av xs.length cv) xs.length xs) ∧ Aside (xss[k]? = some xs) := by
  obtain ⟨b, o, e1, h3⟩ := Holds.cell h k (by omega)
  obtain ⟨v, hv, hr⟩ := hall.get k hk
  rw [hv] at h3
  obtain ⟨a', c', rfl, _⟩ := Holds.form hr
  exact ⟨b, o, a', c', _, e1, h3, ⟨hr⟩, ⟨List.getElem?_eq_getElem hk⟩⟩

set_option maxRecDepth 100000 in
theorem concat_rows (a : Option Addr) (c : Nat) (vs : List Value) (xss : List (List Value)) (w : World) (h : Holds w 1 (.slice a xss.length c) xss.length vs)
    (hall : All2 (fun v xs => Holds w 1 v xs.length xs) vs xss) (hl : xss.flatten.length ≤ 1000000) (hn : xss.length ≤ 100) :
    Calls Try.prog 116 #[.slice a xss.length c] w (MadeV w xss.flatten.length xss.flatten) := by
  obtain ⟨F, hF⟩ : ∃ F, F = xss.flatten := ⟨_, rfl⟩
  rw [← hF] at hl ⊢
  have HF := Aside.mk hF
  have H := Aside.mk h
  have HALL := Aside.mk hall
  clear h hall hF
  have hleF : ∀ k, (upTo xss k).length ≤ F.length := fun k => by rw [HF.out]; exact upTo_le xss k
  obtain ⟨i0, hi, hz0, hz1, hz2⟩ := info_parts info51
  have hi' := Aside.mk hi
  clear hi
  go_enter Try.func116, Try.ntmps116
  go_wp2
  go_loopw [3, 11] (fun o i wr => ∃ (k : Nat), k ≤ xss.length ∧ i = .int .i64 k ∧ o = .int .i64 (upTo xss k).length ∧ w = wr) (fun _ i _ => xss.length - (intOf i).toNat)
  case atStart => exact ⟨0, by omega, rfl, rfl, rfl⟩
  case round =>
    obtain ⟨k, hk, rfl, rfl, rfl⟩ := hrel
    by_cases hlt : k < xss.length
    · obtain ⟨b, o, av, cv, xs, ha, hcell, HX, hx⟩ := parts_at H.out HALL.out k hlt
      subst ha
      have hu := upTo_succ hx.out
      have hle := hleF (k + 1)
      rw [hu, List.length_append] at hle
      have e1 : IntKind.i64.wrap ((upTo xss k).length + (xs.length : Int)) = (upTo xss k).length + (xs.length : Int) := IntWalk.i64_in _ (by omega)
      have e2 : ¬ (((upTo xss k).length + (xs.length : Int) : Int) < 0) := by omega
      clear hx
      go_wp2
      go_roundw
      case rel => exact ⟨k + 1, by omega, by go_num, by rw [hu, List.length_append]; go_num, by first | trivial | rfl⟩
      case measure => simp [intOf]; omega
    · have hk' : k = xss.length := by omega
      subst hk'
      have hf : upTo xss xss.length = F := by rw [HF.out]; unfold upTo; rw [List.take_length]
      rw [hf]
      go_wp2_with (go_at_call 133; refine (grow_nil _ _ hl).mono ?_; rintro e w1 ⟨ag, cg, rfl, hg, he1⟩; have HG := Aside.mk hg; have HE1 := Aside.mk he1; clear hg he1)
      go_loopw [6, 27] (fun o i wr => ∃ (k : Nat) (ao : Option Addr) (co : Nat), k ≤ xss.length ∧ i = .int .i64 k ∧ o = .slice ao (upTo xss k).length co ∧ Aside (wr.ownsRow w.heap.size 51 1 (.slice ao (upTo xss k).length co) (upTo xss k).length (upTo xss k)) ∧ Aside (Ext w wr)) (fun _ i _ => xss.length - (intOf i).toNat)
      case atStart =>
        have hu0 : upTo xss 0 = [] := rfl
        refine ⟨0, ag, cg, ?_, ?_, ?_, ?_, ?_⟩
        · omega
        · rfl
        · simp only [hu0, List.length_nil]
        · simp only [hu0]; exact HG
        · exact HE1
      case round =>
        obtain ⟨k, ao, co, hk, rfl, rfl, HO, HE⟩ := hrel
        by_cases hlt : k < xss.length
        · obtain ⟨b, o, av, cv, xs, ha, hcell, HX, hx⟩ := parts_at (H.out.ext HE.out) (HALL.out.imp (fun a b h => h.ext HE.out)) k hlt
          subst ha
          have hu := upTo_succ hx.out
          have hle := hleF (k + 1)
          rw [hu, List.length_append] at hle
          clear hx
          go_wp2_with (at_builtin; refine wpList_append_holds _ rfl _ _ 29 rfl w.heap.size 51 i0 (.slice none 0 0) 1 24 Try.underlying29 hi'.out hz0 hz1 hz2 rfl (by decide) _ (upTo xss k).length (upTo xss k) rfl HO.out _ xs.length xs rfl HX.out ?c2 ?c3 HE.out.size ?_)
          case c2 => unfold maxLen; omega
          case c3 => omega
          intro v' w2 hown hg hwh
          obtain ⟨av, cv, rfl⟩ := own_slice hown
          have HN := Aside.mk hown
          have HG := Aside.mk hg
          clear hown hg hwh
          go_wp2
          go_roundw
          case rel =>
            refine ⟨k + 1, av, cv, by omega, by go_num, ?_, ⟨?_⟩, ⟨HE.out.of_grown HG.out (own_base HO.out)⟩⟩
            · rw [hu, List.length_append]
            · rw [hu, List.length_append]; exact HN.out
          case measure => simp [intOf]; omega
        · have hk' : k = xss.length := by omega
          subst hk'
          rw [hf]
          rw [hf] at HO
          go_wp2
          go_ret
          exact ⟨_, _, rfl, HO.out, HE.out⟩
end Go.Proofs.Ytmehkikkjebnnaa
