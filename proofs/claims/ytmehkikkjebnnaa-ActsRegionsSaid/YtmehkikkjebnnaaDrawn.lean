/-
  A region that draws its order, and of which one operation (number L, for which all that is taken first is waited) may turn what its loads read: a condition S on the world is owed behind each operation but that one.
-/
import Derived.Deep.RegionHeld3
import Derived.Test.YtmehkikkjebnnaaMem
set_option linter.unusedVariables false
set_option linter.unusedSimpArgs false
namespace Go.Proofs.Ytmehkikkjebnnaa
section
variable {P : Program} {ops : Array Oper} {Q : Exit → Act → World → Prop} {md : Region.Mode} {S : World → Prop} {L : Nat}

def edgeOn (md : Region.Mode) (ops : Array Oper) (k i : Nat) : Bool := ((ops[k]?).map fun o => o.after.any fun e => Region.binds md e && e.on == i).getD false
/-- Operation L waits for i, through others maybe. -/
def climbs (md : Region.Mode) (ops : Array Oper) (L : Nat) : Nat → Nat → Bool
  | 0, _ => false
  | n + 1, i => match ((List.range ops.size).filter fun k => edgeOn md ops k i).getLast? with
    | some k => k == L || climbs md ops L n k
    | none => false
/-- What has come up has come up behind all that it waits for. -/
def Kept (md : Region.Mode) (ops : Array Oper) (listed : Array Bool) : Prop := ∀ k o, ops[k]? = some o → listed.getD k true = true → ∀ e ∈ o.after, Region.binds md e = true → listed.getD e.on false = true

theorem edgeOn_spec {k i : Nat} (h : edgeOn md ops k i = true) : ∃ o, ops[k]? = some o ∧ ∃ e ∈ o.after, Region.binds md e = true ∧ e.on = i := by
  unfold edgeOn at h
  cases ho : ops[k]? with
  | none => rw [ho] at h; cases h
  | some o =>
    rw [ho, Option.map_some, Option.getD_some, Array.any_eq_true'] at h
    obtain ⟨e, he, h⟩ := h
    rw [Bool.and_eq_true, beq_iff_eq] at h
    exact ⟨o, rfl, e, he, h.1, h.2⟩

theorem getD_both {l : Array Bool} {i : Nat} (h : l.getD i false = true) : l.getD i true = true := by
  by_cases hlt : i < l.size
  · simpa [Array.getD_eq_getD_getElem?, hlt] using h
  · simp [Array.getD_eq_getD_getElem?, Array.getElem?_eq_none (Nat.le_of_not_lt hlt)] at h

theorem climbs_listed {listed : Array Bool} (hk : Kept md ops listed) (hL : L ∈ Region.ready md ops listed) : ∀ (n i : Nat), climbs md ops L n i = true → listed.getD i false = true
  | 0, _, h => by cases h
  | n + 1, i, h => by
    unfold climbs at h
    cases hg : ((List.range ops.size).filter fun k => edgeOn md ops k i).getLast? with
    | none => rw [hg] at h; cases h
    | some k =>
      rw [hg] at h
      have hm := List.mem_of_getLast? hg
      rw [List.mem_filter] at hm
      obtain ⟨o, ho, e, he, hb, hei⟩ := edgeOn_spec hm.2
      rw [← hei]
      simp only [Bool.or_eq_true, beq_iff_eq] at h
      rcases h with h | h
      · subst h
        obtain ⟨_, o', ho', hall⟩ := mem_ready.1 hL
        rw [ho] at ho'
        injection ho' with ho'
        subst ho'
        exact hall e he hb
      · exact hk k o ho (getD_both (climbs_listed hk hL n k h)) e he hb

theorem Kept.next {listed : Array Bool} {i : Nat} (hk : Kept md ops listed) (hi : i ∈ Region.ready md ops listed) : Kept md ops (listed.setIfInBounds i true) := by
  intro k o ho hl e he hb
  refine getD_set_true ?_
  by_cases h : k = i
  · subst h
    obtain ⟨_, o', ho', hall⟩ := mem_ready.1 hi
    rw [ho] at ho'
    injection ho' with ho'
    subst ho'
    exact hall e he hb
  · rw [getD_set_ne true (fun e => h e.symm)] at hl
    exact hk k o ho hl e he hb

/-- Whatever comes up next, the rest goes too; S holds behind each but L. -/
def wpTill (P : Program) (md : Region.Mode) (ops : Array Oper) (Q : Exit → Act → World → Prop) (S : World → Prop) (L : Nat) : Nat → Array Bool → Act → World → Prop
  | 0, listed, a, w => Region.ready md ops listed = [] ∧ Q .normal a w
  | n + 1, listed, a, w =>
    (Region.ready md ops listed = [] → Q .normal a w) ∧
    ∀ i ∈ Region.ready md ops listed, wpOp P ops Q i (fun a' w' => (i ≠ L → S w') ∧ wpTill P md ops Q S L n (listed.setIfInBounds i true) a' w') a w

theorem wpAny_of_till : ∀ (n : Nat) (listed : Array Bool) (a : Act) (w : World), wpTill P md ops Q S L n listed a w → wpAny P md ops Q n listed a w
  | 0, _, _, _, h => h
  | n + 1, _, _, _, h => ⟨h.1, fun i hi => wpOp_mono (fun a' w' hk => wpAny_of_till n _ a' w' hk.2) (h.2 i hi)⟩

theorem wpTill_first {i : Nat} {oi : Oper} {v : Value} (hi : ops[i]? = some oi) (hsel : ∀ (j : Nat) (o : Oper) cs b, ops[j]? = some o → o.op ≠ .select cs b)
    (hQ : ∀ c a w, Q (.panic c) (a.put oi.dst v) w → Q (.panic c) a w) {f : Nat} (hc : (climbs md ops L f i || decide (ops.size ≤ L)) = true) (n : Nat) :
    ∀ (listed : Array Bool) (a : Act) (w : World), Kept md ops listed →
      (∀ j oj, ops[j]? = some oj → j ≠ i → listed.getD j true = false → (∀ e ∈ oj.after, Region.binds md e = true → e.on ≠ i) → oi.apart ops oj = true) →
      i ∈ Region.ready md ops listed → YieldsIf P ops S oi v a → S w →
      wpTill P md ops Q S L n (listed.setIfInBounds i true) (a.put oi.dst v) w → wpTill P md ops Q S L (n + 1) listed a w := by
  induction n with
  | zero =>
    intro listed a w _ _ hr hy hS hrest
    constructor
    · intro h0
      rw [h0] at hr
      cases hr
    · intro j hj
      by_cases hij : j = i
      · rw [hij]
        exact hy.wpOp hi hS ⟨fun _ => hS, hrest⟩
      · have hm := ready_mono hj hij
        rw [hrest.1] at hm
        cases hm
  | succ n ih =>
    intro listed a w hk hap hr hy hS hrest
    constructor
    · intro h0
      rw [h0] at hr
      cases hr
    · intro j hj
      by_cases hij : j = i
      · rw [hij]
        exact hy.wpOp hi hS ⟨fun _ => hS, hrest⟩
      · have hun' : ¬ listed.getD i false = true := fun h => by
          have h1 := getD_both h
          rw [(mem_ready.1 hr).1] at h1
          cases h1
        have hjL : j ≠ L := fun h => by
          subst h
          rw [Bool.or_eq_true, decide_eq_true_eq] at hc
          rcases hc with hc | hc
          · exact hun' (climbs_listed hk hj f i hc)
          · obtain ⟨_, o, ho, _⟩ := mem_ready.1 hj
            have := (Array.getElem?_eq_some_iff.1 ho).1
            omega
        obtain ⟨hun, oj, hoj, hwait⟩ := mem_ready.1 hj
        have hno : ∀ e ∈ oj.after, Region.binds md e = true → e.on ≠ i := fun e he hb hei => hun' (hei ▸ hwait e he hb)
        have hstep := wpOp_putIf hoj (hap j oj hoj hij hun hno) (fun cs b => hsel i oi cs b hi) (fun cs b => hsel j oj cs b hoj) hQ hy (hrest.2 j (ready_mono hj hij))
        refine wpOp_mono (fun a' w' hk' => ?_) hstep
        obtain ⟨hy', hk1, hk2⟩ := hk'
        refine ⟨hk1, ih (listed.setIfInBounds j true) a' w' (hk.next hj) ?_ (ready_mono hr (fun e => hij e.symm)) hy' (hk1 hjL) ?_⟩
        · intro k ok hok hki hku hkno
          refine hap k ok hok hki ?_ hkno
          by_cases hjk : j = k
          · rw [← hjk]; exact hun
          · rwa [getD_set_ne true hjk] at hku
        · rw [Array.setIfInBounds_comm _ _ hij]
          exact hk2

/-- Kept holds where nothing has come up. -/
theorem kept_none (n : Nat) (h : ops.size = n) : Kept md ops (Array.replicate n false) := by
  intro k o ho hl
  have hlt : k < n := h ▸ (Array.getElem?_eq_some_iff.1 ho).1
  simp [Array.getD_eq_getD_getElem?, hlt] at hl

/-- The beginning. -/
theorem wp_region_till (L : Nat) (S : World → Prop) {id : Nat} {a : Act} {w : World} (hm : P.follows .mixedOrders = true) (hS : S w.drew)
    (h : S w.drew → Kept .any ops (Array.replicate ops.size false) ∧ (Kept .any ops (Array.replicate ops.size false) → wpTill P .any ops Q S L ops.size (Array.replicate ops.size false) a w.drew)) : (Code.region id ops true).wp P Q a w :=
  wp_region_any hm (wpAny_of_till _ _ _ _ ((h hS).2 (h hS).1))

/-- Number i is taken first. -/
theorem till_take {i : Nat} {oi : Oper} {v : Value} {n : Nat} {listed : Array Bool} {a : Act} {w : World} (hi : ops[i]? = some oi)
    (hs : Region.noSelect ops = true) (hf : Region.free md ops listed i = true) (hr : (Region.ready md ops listed).contains i = true) (hc : (climbs md ops L ops.size i || decide (ops.size ≤ L)) = true)
    (hQ : ∀ c a w, Q (.panic c) (a.put oi.dst v) w → Q (.panic c) a w) (hk : Kept md ops listed) (hS : S w) (hy : YieldsIf P ops S oi v a)
    (h : Kept md ops (listed.setIfInBounds i true) → wpTill P md ops Q S L n (listed.setIfInBounds i true) (a.put oi.dst v) w) : wpTill P md ops Q S L (n + 1) listed a w :=
  have hr' : i ∈ Region.ready md ops listed := by simpa using hr
  wpTill_first hi (Region.noSelect_spec hs) hQ hc n listed a w hk (Region.free_spec hi hf) hr' hy hS (h (hk.next hr'))

/-- Number i alone may come up. -/
theorem till_one {i : Nat} {oi : Oper} {n : Nat} {listed : Array Bool} {a : Act} {w : World} (hi : ops[i]? = some oi) (hr : Region.ready md ops listed = [i]) (hk : Kept md ops listed)
    (h : ∀ K' : Act → World → Prop, Aside (∀ a w, (i ≠ L → S w) → ((i ≠ L → S w) → Kept md ops (listed.setIfInBounds i true) → wpTill P md ops Q S L n (listed.setIfInBounds i true) a w) → K' a w) → if Region.wanted oi (yielded ops a.tmps) = true then Oper.wp P oi a w K' Q else K' (a.put oi.dst undef) w) :
    wpTill P md ops Q S L (n + 1) listed a w := by
  refine ⟨(fun h0 => by rw [hr] at h0; cases h0), fun j hj => ?_⟩
  have hr' : i ∈ Region.ready md ops listed := by rw [hr]; exact List.mem_singleton.2 rfl
  rw [hr] at hj
  obtain rfl := List.mem_singleton.1 hj
  exact wpOp_step hi (fun K' hK => h K' ⟨fun a w hS hW => hK a w ⟨hS, hW hS (hk.next hr')⟩⟩)

/-- Two numbers may come up. -/
theorem till_two {i j : Nat} {oi oj : Oper} {n : Nat} {listed : Array Bool} {a : Act} {w : World} (hi : ops[i]? = some oi) (hj : ops[j]? = some oj) (hr : Region.ready md ops listed = [i, j]) (hk : Kept md ops listed)
    (h1 : ∀ K' : Act → World → Prop, Aside (∀ a w, (i ≠ L → S w) → ((i ≠ L → S w) → Kept md ops (listed.setIfInBounds i true) → wpTill P md ops Q S L n (listed.setIfInBounds i true) a w) → K' a w) → if Region.wanted oi (yielded ops a.tmps) = true then Oper.wp P oi a w K' Q else K' (a.put oi.dst undef) w)
    (h2 : ∀ K' : Act → World → Prop, Aside (∀ a w, (j ≠ L → S w) → ((j ≠ L → S w) → Kept md ops (listed.setIfInBounds j true) → wpTill P md ops Q S L n (listed.setIfInBounds j true) a w) → K' a w) → if Region.wanted oj (yielded ops a.tmps) = true then Oper.wp P oj a w K' Q else K' (a.put oj.dst undef) w) :
    wpTill P md ops Q S L (n + 1) listed a w := by
  refine ⟨(fun h0 => by rw [hr] at h0; cases h0), fun k hkr => ?_⟩
  have hri : i ∈ Region.ready md ops listed := by rw [hr]; simp
  have hrj : j ∈ Region.ready md ops listed := by rw [hr]; simp
  rw [hr] at hkr
  rcases List.mem_cons.1 hkr with rfl | hkr
  · exact wpOp_step hi (fun K' hK => h1 K' ⟨fun a w hS hW => hK a w ⟨hS, hW hS (hk.next hri)⟩⟩)
  · obtain rfl := List.mem_singleton.1 hkr
    exact wpOp_step hj (fun K' hK => h2 K' ⟨fun a w hS hW => hK a w ⟨hS, hW hS (hk.next hrj)⟩⟩)

theorem till_done {listed : Array Bool} {a : Act} {w : World} (hr : Region.ready md ops listed = []) (h : Q .normal a w) :
    ∀ n, wpTill P md ops Q S L n listed a w
  | 0 => ⟨hr, h⟩
  | _ + 1 => ⟨fun _ => h, by rw [hr]; simp⟩
end

section
variable {P : Program} {ops : Array Oper} {Q : Exit → Act → World → Prop} {o : Oper} {rest : List Oper} {a : Act} {w : World}
/-- The operation at hand is a load, a store, a call: these fail at once where it is another one. -/
theorem atLoad (ty : TypeId) (x : Operand) (h : o.op = .load ty x) (k : wpList P ops Q (o :: rest) a w) : wpList P ops Q (o :: rest) a w := k
theorem atStore (ty : TypeId) (x y : Operand) (h : o.op = .store ty x y) (k : wpList P ops Q (o :: rest) a w) : wpList P ops Q (o :: rest) a w := k
end
end Go.Proofs.Ytmehkikkjebnnaa
