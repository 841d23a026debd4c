/-
  The plain values of the walks: cells, rows of cells, screens; and how they lie in memory.
-/
import Derived.Test.YtmehkikkjebnnaaMem
set_option linter.unusedVariables false
set_option linter.unusedSimpArgs false
namespace Go.Proofs.Ytmehkikkjebnnaa
open Go.RowKit

structure Cell where
  R : Int
  A : Int
deriving DecidableEq
instance : Inhabited Cell := ⟨⟨0, 0⟩⟩
def blankC : Cell := ⟨32, 0⟩

def cellV (c : Cell) : List Value := [.int .i32 c.R, .int .i64 c.A]
def flatC (l : List Cell) : List Value := l.flatMap cellV
theorem flatC_nil : flatC [] = [] := rfl
theorem flatC_cons (c : Cell) (l : List Cell) : flatC (c :: l) = .int .i32 c.R :: .int .i64 c.A :: flatC l := rfl
theorem flatC_append (l k : List Cell) : flatC (l ++ k) = flatC l ++ flatC k := by simp [flatC]
theorem flatC_length (l : List Cell) : (flatC l).length = l.length * 2 := by
  induction l with
  | nil => rfl
  | cons c l ih => rw [flatC_cons]; simp only [List.length_cons, ih]; omega
theorem flatC_one (l : List Cell) : ∀ u ∈ flatC l, u.oneCell' = true := by
  induction l with
  | nil => intro u hu; cases hu
  | cons c l ih =>
    intro u hu
    rw [flatC_cons] at hu
    rcases List.mem_cons.1 hu with rfl | hu
    · rfl
    · rcases List.mem_cons.1 hu with rfl | hu
      · rfl
      · exact ih u hu
theorem flatC_get (l : List Cell) : ∀ (i : Nat) (h : i < l.length), (flatC l)[2 * i]? = some (.int .i32 (l.getD i default).R) ∧ (flatC l)[2 * i + 1]? = some (.int .i64 (l.getD i default).A) := by
  induction l with
  | nil => intro i h; simp at h
  | cons c l ih =>
    intro i h
    rw [flatC_cons]
    cases i with
    | zero => exact ⟨rfl, rfl⟩
    | succ i =>
      have := ih i (by simpa using h)
      refine ⟨?_, ?_⟩
      · rw [show 2 * (i + 1) = 2 * i + 1 + 1 from by omega]
        simpa using this.1
      · rw [show 2 * (i + 1) + 1 = 2 * i + 1 + 1 + 1 from by omega]
        simpa using this.2
theorem flatC_set (l : List Cell) : ∀ (i : Nat) (c : Cell), (((flatC l).set (2 * i) (.int .i32 c.R)).set (2 * i + 1) (.int .i64 c.A)) = flatC (l.set i c) := by
  induction l with
  | nil => intro i c; simp [flatC]
  | cons d l ih =>
    intro i c
    cases i with
    | zero => rfl
    | succ i =>
      rw [show 2 * (i + 1) + 1 = 2 * i + 1 + 1 + 1 from by omega, show 2 * (i + 1) = 2 * i + 1 + 1 from by omega]
      rw [flatC_cons, List.set_cons_succ, List.set_cons_succ, List.set_cons_succ, List.set_cons_succ, ih, List.set_cons_succ, flatC_cons]
theorem flatC_take (l : List Cell) : ∀ n, flatC (l.take n) = (flatC l).take (2 * n) := by
  induction l with
  | nil => intro n; simp [flatC]
  | cons c l ih =>
    intro n
    cases n with
    | zero => rfl
    | succ n => rw [List.take_succ_cons, flatC_cons, flatC_cons, ih, show 2 * (n + 1) = 2 * n + 1 + 1 from by omega, List.take_succ_cons, List.take_succ_cons]
theorem flatC_drop (l : List Cell) : ∀ n, flatC (l.drop n) = (flatC l).drop (2 * n) := by
  induction l with
  | nil => intro n; simp [flatC]
  | cons c l ih =>
    intro n
    cases n with
    | zero => rfl
    | succ n => rw [List.drop_succ_cons, flatC_cons, ih, show 2 * (n + 1) = 2 * n + 1 + 1 from by omega, List.drop_succ_cons, List.drop_succ_cons]

/-- v reads as the row l. -/
def CellsAt (w : World) (v : Value) (l : List Cell) : Prop := Holds w 2 v l.length (flatC l)
theorem CellsAt.ext {w w' : World} {v : Value} {l : List Cell} (h : CellsAt w v l) (he : Ext w w') : CellsAt w' v l := Holds.ext h he
theorem CellsAt.at_ {w : World} {a : Option Addr} {n c : Nat} {l : List Cell} (h : CellsAt w (.slice a n c) l) (i : Nat) (hi : i < l.length) :
    ∃ b o, a = some ⟨b, o, none⟩ ∧ w.cell? ⟨b, o + i * 2, none⟩ = some (.int .i32 (l.getD i default).R) ∧ w.cell? ⟨b, o + i * 2 + 1, none⟩ = some (.int .i64 (l.getD i default).A) := by
  have hn : n = l.length := by obtain ⟨a', c', hv, _⟩ := Holds.form h; injection hv
  subst hn
  obtain ⟨b, o, e1, h1⟩ := Holds.cell h (2 * i) (by omega)
  obtain ⟨b', o', e2, h2⟩ := Holds.cell h (2 * i + 1) (by omega)
  rw [e1] at e2
  injection e2 with e2
  injection e2 with e3 e4
  subst e3 e4
  have := flatC_get l i hi
  rw [Nat.mul_comm i 2]
  exact ⟨b, o, e1, by rw [h1, this.1], by rw [Nat.add_assoc, h2, this.2]⟩

/-- Two lists, member by member. -/
inductive All2 {α β : Type} (R : α → β → Prop) : List α → List β → Prop
  | nil : All2 R [] []
  | cons {a : α} {b : β} {l : List α} {k : List β} : R a b → All2 R l k → All2 R (a :: l) (b :: k)
namespace All2
variable {α β : Type} {R S : α → β → Prop} {l l' : List α} {k k' : List β}
theorem imp (h : ∀ a b, R a b → S a b) : ∀ {l : List α} {k : List β}, All2 R l k → All2 S l k
  | _, _, .nil => .nil
  | _, _, .cons h1 h2 => .cons (h _ _ h1) (imp h h2)
theorem length (h : All2 R l k) : l.length = k.length := by
  induction h with
  | nil => rfl
  | cons _ _ ih => simp [ih]
theorem append (h : All2 R l k) (h' : All2 R l' k') : All2 R (l ++ l') (k ++ k') := by
  induction h with
  | nil => exact h'
  | cons h1 _ ih => exact .cons h1 ih
theorem snoc (h : All2 R l k) {a : α} {b : β} (hab : R a b) : All2 R (l ++ [a]) (k ++ [b]) := h.append (.cons hab .nil)
theorem take (h : All2 R l k) : ∀ n, All2 R (l.take n) (k.take n) := by
  induction h with
  | nil => intro n; simpa using All2.nil
  | cons h1 _ ih => intro n; cases n with
    | zero => exact .nil
    | succ n => exact .cons h1 (ih n)
theorem drop (h : All2 R l k) : ∀ n, All2 R (l.drop n) (k.drop n) := by
  induction h with
  | nil => intro n; simpa using All2.nil
  | cons h1 h2 ih => intro n; cases n with
    | zero => exact .cons h1 h2
    | succ n => exact ih n
theorem set (h : All2 R l k) {a : α} {b : β} (hab : R a b) : ∀ n, All2 R (l.set n a) (k.set n b) := by
  induction h with
  | nil => intro n; simpa using All2.nil
  | cons h1 h2 ih => intro n; cases n with
    | zero => exact .cons hab h2
    | succ n => exact .cons h1 (ih n)
theorem get (h : All2 R l k) : ∀ (i : Nat) (hi : i < k.length), ∃ a, l[i]? = some a ∧ R a k[i] := by
  induction h with
  | nil => intro i hi; simp at hi
  | cons h1 h2 ih => intro i hi; cases i with
    | zero => exact ⟨_, rfl, h1⟩
    | succ n => exact ih n (by simpa using hi)
end All2

/-- v reads as the rows ll. -/
structure RowsAt (w : World) (v : Value) (ll : List (List Cell)) : Prop where
  mk_ ::
  ex : ∃ vs : List Value, Holds w 1 v ll.length vs ∧ All2 (CellsAt w) vs ll
theorem RowsAt.ext {w w' : World} {v : Value} {ll : List (List Cell)} (h : RowsAt w v ll) (he : Ext w w') : RowsAt w' v ll := by
  obtain ⟨vs, h1, h2⟩ := h.ex
  exact ⟨vs, h1.ext he, h2.imp (fun a b hab => hab.ext he)⟩
theorem CellsAt.oneCell {w : World} {v : Value} {l : List Cell} (h : CellsAt w v l) : v.oneCell' = true := by
  obtain ⟨a, c, rfl, _⟩ := Holds.form h
  rfl
/-- The row at a place. -/
theorem RowsAt.at_ {w : World} {a : Option Addr} {n c : Nat} {ll : List (List Cell)} (h : RowsAt w (.slice a n c) ll) (i : Nat) (hi : i < ll.length) :
    ∃ b o a' c' r, a = some ⟨b, o, none⟩ ∧ w.cell? ⟨b, o + i, none⟩ = some (.slice a' r.length c') ∧ CellsAt w (.slice a' r.length c') r ∧ Aside (ll[i]? = some r) := by
  obtain ⟨vs, h1, h2⟩ := h.ex
  have hn : n = ll.length := by obtain ⟨a', c', hv, _⟩ := Holds.form h1; injection hv
  subst hn
  obtain ⟨b, o, e1, h3⟩ := Holds.cell h1 i (by omega)
  obtain ⟨v, hv, hr⟩ := h2.get i hi
  rw [hv] at h3
  obtain ⟨a', c', rfl, _⟩ := Holds.form hr
  exact ⟨b, o, a', c', _, e1, h3, hr, ⟨List.getElem?_eq_getElem hi⟩⟩
theorem RowsAt.slice {w : World} {v : Value} {ll : List (List Cell)} (h : RowsAt w v ll) : ∃ a c, v = .slice a ll.length c ∧ ll.length ≤ c ∧ c ≤ maxLen := by
  obtain ⟨vs, h1, _⟩ := h.ex
  obtain ⟨a, c, rfl, h3, h4, _⟩ := h1.form
  exact ⟨a, c, rfl, h3, h4⟩
theorem CellsAt.slice {w : World} {v : Value} {l : List Cell} (h : CellsAt w v l) : ∃ a c, v = .slice a l.length c ∧ l.length ≤ c ∧ c ≤ maxLen := by
  obtain ⟨a, c, rfl, h3, h4, _⟩ := Holds.form h
  exact ⟨a, c, rfl, h3, h4⟩

/-- A screen. -/
structure Grid where
  W : Int
  H : Int
  X : Int
  Y : Int
  Wrap : Bool
  A : Int
  Top : Int
  Bottom : Int
  SX : Int
  SY : Int
  SA : Int
  NoWrap : Bool
  Hidden : Bool
  Rows : List (List Cell)
  Back : List (List Cell)
deriving DecidableEq

/-- Rows of the call's own: a row of cells; rows of rows. -/
def OwnC (w : World) (base : Nat) (v : Value) (l : List Cell) : Prop := w.ownsRow base 53 2 v l.length (flatC l)
structure OwnR (w : World) (base : Nat) (v : Value) (ll : List (List Cell)) : Prop where
  mk_ ::
  ex : ∃ vs : List Value, w.ownsRow base 51 1 v ll.length vs ∧ All2 (OwnC w base) vs ll
theorem OwnC.ext {w w' : World} {base : Nat} {v : Value} {l : List Cell} (h : OwnC w base v l) (he : Ext w w') : OwnC w' base v l := own_ext h he
theorem OwnC.mono {w : World} {base base' : Nat} {v : Value} {l : List Cell} (h : OwnC w base v l) (hb : base' ≤ base) : OwnC w base' v l := own_mono h hb
theorem OwnC.setBelow {w : World} {base : Nat} {v : Value} {l : List Cell} (h : OwnC w base v l) {a : Addr} (ha : a.block < base) (u : Value) : OwnC (w.setCell a u) base v l := ownsRow_setCell_below h ha u
theorem OwnC.at_ {w : World} {base : Nat} {v : Value} {l : List Cell} (h : OwnC w base v l) : CellsAt w v l := Holds.of_own h (flatC_one l)
theorem OwnC.oneCell {w : World} {base : Nat} {v : Value} {l : List Cell} (h : OwnC w base v l) : v.oneCell' = true := h.at_.oneCell
theorem OwnR.ext {w w' : World} {base : Nat} {v : Value} {ll : List (List Cell)} (h : OwnR w base v ll) (he : Ext w w') : OwnR w' base v ll := by
  obtain ⟨vs, h1, h2⟩ := h.ex
  exact ⟨vs, own_ext h1 he, h2.imp (fun a b hab => hab.ext he)⟩
theorem OwnR.mono {w : World} {base base' : Nat} {v : Value} {ll : List (List Cell)} (h : OwnR w base v ll) (hb : base' ≤ base) : OwnR w base' v ll := by
  obtain ⟨vs, h1, h2⟩ := h.ex
  exact ⟨vs, own_mono h1 hb, h2.imp (fun a b hab => hab.mono hb)⟩
theorem OwnR.setBelow {w : World} {base : Nat} {v : Value} {ll : List (List Cell)} (h : OwnR w base v ll) {a : Addr} (ha : a.block < base) (u : Value) : OwnR (w.setCell a u) base v ll := by
  obtain ⟨vs, h1, h2⟩ := h.ex
  exact ⟨vs, ownsRow_setCell_below h1 ha u, h2.imp (fun a b hab => hab.setBelow ha u)⟩
/-- What is owned stays where other blocks are written: below the base, say. -/
theorem OwnC.keep {w w' : World} {base : Nat} {v : Value} {l : List Cell} {k : Nat} (h : OwnC w base v l) (hg : w.grownBy w' (some k)) (hk : v.ownBlock ≠ some k) : OwnC w' base v l :=
  h.kept hg (.inr hk)
theorem OwnR.keep {w w' : World} {base : Nat} {v : Value} {ll : List (List Cell)} {k : Nat} (h : OwnR w base v ll) (hg : w.grownBy w' (some k)) (hk : ∀ j, base ≤ j → j = k → False) : OwnR w' base v ll := by
  obtain ⟨vs, h1, h2⟩ := h.ex
  refine ⟨vs, h1.kept hg (.inr fun e => hk k ((h1.lt k e).1) rfl), h2.imp (fun a b hab => hab.keep hg (fun e => hk k ((World.ownsRow.lt hab k e).1) rfl))⟩
theorem OwnR.nil (w : World) (base : Nat) : OwnR w base (.slice none 0 0) [] := ⟨[], own_nil _ _ _ _, .nil⟩
theorem all2_one {α : Type} {R : Value → α → Prop} (h : ∀ a b, R a b → a.oneCell' = true) {vs : List Value} {ll : List α} (h2 : All2 R vs ll) : ∀ u ∈ vs, u.oneCell' = true := by
  induction h2 with
  | nil => intro u hu; cases hu
  | cons h1 _ ih =>
    intro u hu
    rcases List.mem_cons.1 hu with rfl | hu
    · exact h _ _ h1
    · exact ih u hu
theorem OwnR.at_ {w : World} {base : Nat} {v : Value} {ll : List (List Cell)} (h : OwnR w base v ll) : RowsAt w v ll := by
  obtain ⟨vs, h1, h2⟩ := h.ex
  exact ⟨vs, Holds.of_own h1 (all2_one (fun a b hab => hab.oneCell) h2), h2.imp (fun a b hab => hab.at_)⟩
/-- A row of the call's own written on: the cells that are owned elsewhere stay. -/
theorem own_grown {w w' : World} {base n : Nat} {e : TypeId} {sz : Nat} {v : Value} {xs : List Value} {row : Option Nat} (h : w.ownsRow base e sz v n xs) (hg : w.grownBy w' row) (hne : v.ownBlock = none ∨ v.ownBlock ≠ row) : w'.ownsRow base e sz v n xs := h.kept hg hne
theorem own_type_ne {w : World} {b b' : Nat} {e e' : TypeId} {s s' n n' : Nat} {v v' : Value} {xs xs' : List Value} (h : w.ownsRow b e s v n xs) (h' : w.ownsRow b' e' s' v' n' xs') (hne : e ≠ e') : v.ownBlock = none ∨ v.ownBlock ≠ v'.ownBlock := by
  rcases h.2 with ⟨rfl, _⟩ | ⟨g, cap, cur, rfl, _, hh, _⟩
  · exact .inl rfl
  · refine .inr fun hk => ?_
    rcases h'.2 with ⟨rfl, _⟩ | ⟨g', cap', cur', rfl, _, hh', _⟩
    · simp [Value.ownBlock] at hk
    · have : g = g' := by simpa [Value.ownBlock] using hk
      subst this
      rw [hh] at hh'
      injection hh' with hh'
      injection hh' with _ ht
      exact hne ht
/-- What a call leaves that hands back a screen, its rows the call's own (from block 'base' on), having turned nothing below 'base'. -/
def PassG (base : Nat) (w : World) (g : Grid) (e : Ending) (w' : World) : Prop :=
  ∃ (r : Grid) (ar : Option Addr) (cr : Nat) (ab : Option Addr) (cb : Nat), e = .returned (.agg #[.int .i64 r.W, .int .i64 r.H, .int .i64 r.X, .int .i64 r.Y, .bool r.Wrap, .int .i64 r.A, .int .i64 r.Top, .int .i64 r.Bottom, .int .i64 r.SX, .int .i64 r.SY, .int .i64 r.SA, .bool r.NoWrap, .bool r.Hidden, .slice ar r.Rows.length cr, .slice ab r.Back.length cb]) ∧ Aside (r = g) ∧
    Aside (OwnR w' base (.slice ar r.Rows.length cr) r.Rows) ∧ Aside (OwnR w' base (.slice ab r.Back.length cb) r.Back) ∧ Aside (∀ k, (Value.slice ar r.Rows.length cr).ownBlock = some k → (Value.slice ab r.Back.length cb).ownBlock ≠ some k) ∧ Aside (Below base w w')
theorem OwnC.grown {w w' : World} {base base' n : Nat} {u v : Value} {l : List Cell} {vs : List Value} (h : OwnC w base u l) (hv : w.ownsRow base' 51 1 v n vs) (hg : w.grownBy w' v.ownBlock) : OwnC w' base u l :=
  h.kept hg (own_type_ne h hv (by decide))
theorem take_succ_some {α : Type} {l : List α} {i : Nat} {r : α} (h : l[i]? = some r) : l.take (i + 1) = l.take i ++ [r] := by
  obtain ⟨hi, hr⟩ := List.getElem?_eq_some_iff.1 h
  rw [List.take_succ_eq_append_getElem hi, hr]
theorem getD_lt {α : Type} (l : List α) (i : Nat) (d : α) (h : i < l.length) : l.getD i d = l[i] := by simp [List.getD_eq_getElem?_getD, h]
theorem take_succ_getD {α : Type} (l : List α) (i : Nat) (d : α) (h : i < l.length) : l.take (i + 1) = l.take i ++ [l.getD i d] := by
  rw [List.take_succ_eq_append_getElem h, getD_lt l i d h]
end Go.Proofs.Ytmehkikkjebnnaa
