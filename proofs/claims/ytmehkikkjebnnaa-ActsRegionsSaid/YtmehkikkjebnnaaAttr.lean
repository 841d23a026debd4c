/-
  Walks: the package attr.
-/
import Derived.Test.YtmehkikkjebnnaaActE
set_option linter.unusedVariables false
set_option linter.unusedSimpArgs false
namespace Go.Proofs.Ytmehkikkjebnnaa
open Go.RowKit
attribute [local go_sem] max2_i min2_i max_two min_two
attribute [local go_sem ↓] Go.wp_at_zero Go.wp_at_succ

def flagI (b : Bool) (n : Int) : Int := if b then n else 0
def heldI (n : Int) : Int := min (max n 0) 8
theorem flag_any (b : Bool) (n : Int) (w : World) : Calls Try.prog 145 #[.bool b, .int .i64 n] w fun e w' => e = .returned (.int .i64 (flagI b n)) ∧ w = w' := by
  cases b
  all_goals
    go_enter Try.func145, Try.ntmps145
    go_wp2
    go_ret
    exact ⟨rfl, rfl⟩
theorem held_any (n : Int) (w : World) : Calls Try.prog 144 #[.int .i64 n] w fun e w' => e = .returned (.int .i64 (heldI n)) ∧ w = w' := by
  go_enter Try.func144, Try.ntmps144
  go_wp2
  go_ret
  exact ⟨rfl, rfl⟩
def andI (a n : Int) : Int := bits BinOp.and IntKind.i64 a n
def orI (a n : Int) : Int := bits BinOp.or IntKind.i64 a n
def makeA (b u t : Bool) (f k : Int) : Int := orI (orI (orI (orI (flagI b 1) (flagI u 2)) (flagI t 4)) (heldI f * 16)) (heldI k * 256)
def attrOne (a n : Int) : Int :=
  let b := andI a 1 != 0
  let u := andI a 2 != 0
  let t := andI a 4 != 0
  let f := heldI (andI (a / 16) 15)
  let k := heldI (andI (a / 256) 15)
  if n = -1 ∨ n = 0 then 0
  else if n = 1 ∨ n = 22 then makeA (n == 1) u t f k
  else if n = 4 ∨ n = 24 then makeA b (n == 4) t f k
  else if n = 7 ∨ n = 27 then makeA b u (n == 7) f k
  else if 30 ≤ n ∧ n ≤ 37 then makeA b u t (n - 29) k
  else if n = 39 then makeA b u t 0 k
  else if 40 ≤ n ∧ n ≤ 47 then makeA b u t f (n - 39)
  else if n = 49 then makeA b u t f 0
  else makeA b u t f k
theorem results_tmp5 {fn : Func} {t u v x y : Tmp} (h : fn.results = #[.tmp t, .tmp u, .tmp v, .tmp x, .tmp y]) (tmps : Array Value) (P : Program) (w : World) :
    (results fn tmps).run P w = .ok (.tuple #[tmps.getD t undef, tmps.getD u undef, tmps.getD v undef, tmps.getD x undef, tmps.getD y undef]) w := by
  simp [results, h]
theorem Parts_any (a : Int) (w : World) : Calls Try.prog 134 #[.int .i64 a] w fun e w' => e = .returned (.tuple #[.bool (andI a 1 != 0), .bool (andI a 2 != 0), .bool (andI a 4 != 0), .int .i64 (heldI (andI (a / 16) 15)), .int .i64 (heldI (andI (a / 256) 15))]) ∧ w = w' := by
  go_enter Try.func134, Try.ntmps134
  go_wp2_with (go_at_call 144; refine (held_any _ _).mono ?_; rintro e w1 ⟨rfl, rfl⟩)
  (try simp only [Exit.inBlock, Exit.then])
  refine bodyPost_ret (results_tmp5 rfl _ _ _) rfl ?_
  exact ⟨rfl, rfl⟩
theorem Make_any (b u t : Bool) (f k : Int) (w : World) : Calls Try.prog 135 #[.bool b, .bool u, .bool t, .int .i64 f, .int .i64 k] w fun e w' => e = .returned (.int .i64 (makeA b u t f k)) ∧ w = w' := by
  have h1 : wrap64 (heldI f * 16) = heldI f * 16 := by unfold wrap64 heldI; omega
  have h2 : wrap64 (heldI k * 256) = heldI k * 256 := by unfold wrap64 heldI; omega
  go_enter Try.func135, Try.ntmps135
  go_wp2_with (first
    | (go_at_call 144; refine (held_any _ _).mono ?_; rintro e w1 ⟨rfl, rfl⟩)
    | (go_at_call 145; refine (flag_any _ _ _).mono ?_; rintro e w1 ⟨rfl, rfl⟩))
  go_ret
  exact ⟨rfl, rfl⟩

set_option maxHeartbeats 1000000 in
theorem one_any (a n : Int) (w : World) : Calls Try.prog 117 #[.int .i64 a, .int .i64 n] w fun e w' => e = .returned (.int .i64 (attrOne a n)) ∧ w = w' := by
  by_cases hn : n = -1 ∨ n = 0 ∨ n = 1 ∨ n = 22 ∨ n = 4 ∨ n = 24 ∨ n = 7 ∨ n = 27 ∨ n = 39 ∨ n = 49
  · rcases hn with rfl | rfl | rfl | rfl | rfl | rfl | rfl | rfl | rfl | rfl
    all_goals
      go_enter Try.func117, Try.ntmps117
      go_wp2_with (first
        | (go_at_call 134; refine (Parts_any _ _).mono ?_; rintro e w1 ⟨rfl, rfl⟩)
        | (go_at_call 135; refine (Make_any _ _ _ _ _ _).mono ?_; rintro e w1 ⟨rfl, rfl⟩))
      go_ret
      exact ⟨rfl, rfl⟩
  have d1 : (n == -1) = false := by simp; omega
  have d2 : (n == 0) = false := by simp; omega
  have d3 : (n == 1) = false := by simp; omega
  have d4 : (n == 22) = false := by simp; omega
  have d5 : (n == 4) = false := by simp; omega
  have d6 : (n == 24) = false := by simp; omega
  have d7 : (n == 7) = false := by simp; omega
  have d8 : (n == 27) = false := by simp; omega
  have d9 : (n == 39) = false := by simp; omega
  have d10 : (n == 49) = false := by simp; omega
  have HN := Aside.mk hn
  clear hn
  rcases Bool.eq_false_or_eq_true (decide (30 ≤ n)) with h1 | h1
  · rcases Bool.eq_false_or_eq_true (decide (n ≤ 37)) with h2 | h2
    · have e1 : IntKind.i64.wrap (n - 29) = n - 29 := by simp at h1 h2; exact IntWalk.i64_in _ (by omega)
      have hp : attrOne a n = makeA (andI a 1 != 0) (andI a 2 != 0) (andI a 4 != 0) (n - 29) (heldI (andI (a / 256) 15)) := by
        have := HN.out
        simp at h1 h2
        unfold attrOne
        simp only
        rw [if_neg (by omega), if_neg (by omega), if_neg (by omega), if_neg (by omega), if_pos (by omega)]
      rw [hp]
      go_enter Try.func117, Try.ntmps117
      go_wp2_with (first
        | (go_at_call 134; refine (Parts_any _ _).mono ?_; rintro e w1 ⟨rfl, rfl⟩)
        | (go_at_call 135; refine (Make_any _ _ _ _ _ _).mono ?_; rintro e w1 ⟨rfl, rfl⟩))
      go_ret
      exact ⟨rfl, rfl⟩
    · rcases Bool.eq_false_or_eq_true (decide (40 ≤ n)) with h3 | h3
      · rcases Bool.eq_false_or_eq_true (decide (n ≤ 47)) with h4 | h4
        · have e1 : IntKind.i64.wrap (n - 39) = n - 39 := by simp at h1 h2 h3 h4; exact IntWalk.i64_in _ (by omega)
          have hp : attrOne a n = makeA (andI a 1 != 0) (andI a 2 != 0) (andI a 4 != 0) (heldI (andI (a / 16) 15)) (n - 39) := by
            have := HN.out
            simp at h1 h2 h3 h4
            unfold attrOne
            simp only
            rw [if_neg (by omega), if_neg (by omega), if_neg (by omega), if_neg (by omega), if_neg (by omega), if_neg (by omega), if_pos (by omega)]
          rw [hp]
          go_enter Try.func117, Try.ntmps117
          go_wp2_with (first
            | (go_at_call 134; refine (Parts_any _ _).mono ?_; rintro e w1 ⟨rfl, rfl⟩)
            | (go_at_call 135; refine (Make_any _ _ _ _ _ _).mono ?_; rintro e w1 ⟨rfl, rfl⟩))
          go_ret
          exact ⟨rfl, rfl⟩
        · have h9 := HN
          have hp : attrOne a n = makeA (andI a 1 != 0) (andI a 2 != 0) (andI a 4 != 0) (heldI (andI (a / 16) 15)) (heldI (andI (a / 256) 15)) := by
            have h7 := HN.out
            have h8 := h1
            simp at *
            unfold attrOne
            simp only
            rw [if_neg (by omega), if_neg (by omega), if_neg (by omega), if_neg (by omega), if_neg (by omega), if_neg (by omega), if_neg (by omega), if_neg (by omega)]
          rw [hp]
          go_enter Try.func117, Try.ntmps117
          go_wp2_with (first
            | (go_at_call 134; refine (Parts_any _ _).mono ?_; rintro e w1 ⟨rfl, rfl⟩)
            | (go_at_call 135; refine (Make_any _ _ _ _ _ _).mono ?_; rintro e w1 ⟨rfl, rfl⟩))
          go_ret
          exact ⟨rfl, rfl⟩
      · have h9 := HN
        have hp : attrOne a n = makeA (andI a 1 != 0) (andI a 2 != 0) (andI a 4 != 0) (heldI (andI (a / 16) 15)) (heldI (andI (a / 256) 15)) := by
          have h7 := HN.out
          have h8 := h1
          simp at *
          unfold attrOne
          simp only
          rw [if_neg (by omega), if_neg (by omega), if_neg (by omega), if_neg (by omega), if_neg (by omega), if_neg (by omega), if_neg (by omega), if_neg (by omega)]
        rw [hp]
        go_enter Try.func117, Try.ntmps117
        go_wp2_with (first
          | (go_at_call 134; refine (Parts_any _ _).mono ?_; rintro e w1 ⟨rfl, rfl⟩)
          | (go_at_call 135; refine (Make_any _ _ _ _ _ _).mono ?_; rintro e w1 ⟨rfl, rfl⟩))
        go_ret
        exact ⟨rfl, rfl⟩
  · have h3 : decide (40 ≤ n) = false := by simp at h1 ⊢; omega
    have hp : attrOne a n = makeA (andI a 1 != 0) (andI a 2 != 0) (andI a 4 != 0) (heldI (andI (a / 16) 15)) (heldI (andI (a / 256) 15)) := by
      have h7 := HN.out
      have h8 := h1
      simp at *
      unfold attrOne
      simp only
      rw [if_neg (by omega), if_neg (by omega), if_neg (by omega), if_neg (by omega), if_neg (by omega), if_neg (by omega), if_neg (by omega), if_neg (by omega)]
    rw [hp]
    go_enter Try.func117, Try.ntmps117
    go_wp2_with (first
      | (go_at_call 134; refine (Parts_any _ _).mono ?_; rintro e w1 ⟨rfl, rfl⟩)
      | (go_at_call 135; refine (Make_any _ _ _ _ _ _).mono ?_; rintro e w1 ⟨rfl, rfl⟩))
    go_ret
    exact ⟨rfl, rfl⟩

def attrApply (a : Int) (l : List Int) : Int := if l = [] then 0 else l.foldl attrOne a
theorem foldl_take_succ {α β : Type} (f : β → α → β) (b : β) (l : List α) (k : Nat) (d : α) (h : k < l.length) : (l.take (k + 1)).foldl f b = f ((l.take k).foldl f b) (l.getD k d) := by
  rw [take_succ_getD l k d h, List.foldl_append]
  rfl

set_option maxRecDepth 100000 in
theorem attrApply_any (a : Int) (v : Value) (l : List Int) (w : World) (h : IntsAt w v l) (hl : l.length ≤ 1000000) :
    Calls Try.prog 74 #[.int .i64 a, v] w fun e w' => e = .returned (.int .i64 (attrApply a l)) ∧ w = w' := by
  obtain ⟨ad, c, hv, hc, hm⟩ := h.slice
  have H := Aside.mk h
  clear h
  subst hv
  by_cases h0 : l.length = 0
  · have hnil : l = [] := List.eq_nil_of_length_eq_zero h0
    rw [show attrApply a l = 0 from by unfold attrApply; rw [if_pos hnil]]
    go_enter Try.func74, Try.ntmps74
    go_wp2
    go_ret
    exact ⟨rfl, rfl⟩
  · have hnil : ¬ l = [] := fun e => h0 (by rw [e]; rfl)
    have hAp := Aside.mk (show attrApply a l = l.foldl attrOne a from by unfold attrApply; rw [if_neg hnil])
    have hbe : ((l.length : Int) == 0) = false := by simpa using h0
    clear hnil
    go_enter Try.func74, Try.ntmps74
    go_wp2
    go_loopw [0, 12] (fun o i wr => ∃ (k : Nat), k ≤ l.length ∧ i = .int .i64 k ∧ o = .int .i64 ((l.take k).foldl attrOne a) ∧ w = wr) (fun _ i _ => l.length - (intOf i).toNat)
    case atStart => exact ⟨0, by omega, rfl, rfl, rfl⟩
    case round =>
      obtain ⟨k, hk, rfl, rfl, rfl⟩ := hrel
      by_cases hlt : k < l.length
      · obtain ⟨b, o, ha, hcell⟩ := H.out.at_ k hlt
        subst ha
        obtain ⟨p, hp0⟩ : ∃ p, l.getD k 0 = p := ⟨_, rfl⟩
        rw [hp0] at hcell
        obtain ⟨q, hq0⟩ : ∃ q, (l.take k).foldl attrOne a = q := ⟨_, rfl⟩
        rw [hq0]
        have HS := Aside.mk (foldl_take_succ attrOne a l k 0 hlt)
        rw [hp0, hq0] at HS
        clear hp0 hq0
        go_wp2_with (go_at_call 117; refine (one_any _ _ _).mono ?_; rintro e w1 ⟨rfl, rfl⟩)
        go_roundw

        case rel => exact ⟨k + 1, by omega, by go_num, by rw [HS.out], by first | trivial | rfl⟩
        case measure => simp [intOf]; omega
      · go_wp2
        go_ret
        refine ⟨?_, rfl⟩
        rw [hAp.out, show k = l.length from by omega, List.take_length]
        rfl
end Go.Proofs.Ytmehkikkjebnnaa
