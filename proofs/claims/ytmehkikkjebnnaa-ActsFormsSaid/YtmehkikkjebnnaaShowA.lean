/-
  Walks: polyptychlaw6.show, bytes fed to a new screen.
-/
import Derived.Test.YtmehkikkjebnnaaStepI
import Derived.Deep.DeepCutAuto
import Derived.Deep.CutBlock
import Derived.Deep.QuietTactic
import Derived.BigQuiet
import Derived.Laws.Cover4
import Derived.Laws.Concat
set_option linter.unusedVariables false
set_option linter.unusedSimpArgs false
namespace Go.Proofs.Ytmehkikkjebnnaa
open Go.RowKit
attribute [local go_sem] max2_i min2_i max_two min_two
attribute [local go_sem ↓] Go.wp_at_zero Go.wp_at_succ

def applyA (g : Grid) (a : ActV) : Grid := applyG g a.K a.R a.P
def feedA (g : Grid) (l : List ActV) : Grid := l.foldl applyA g
def stepG (p : EscV × Grid) (b : Int) : EscV × Grid := ((stepR p.1 b).1, feedA p.2 (stepR p.1 b).2)
def runS (p : EscV × Grid) (l : List Int) : EscV × Grid := l.foldl stepG p
def bytesI (s : ByteArray) : List Int := s.data.toList.map fun c => (c.toNat : Int)
theorem parsOk_par {l : List Int} (h : ParsOk l) : ParOk l := ⟨Nat.le_trans h.1 (by omega), fun p hp => by have := (h.2 p hp).2; omega⟩
theorem feedA_wf {g : Grid} (h : WFG g) : ∀ l : List ActV, WFG (feedA g l) := by
  intro l
  induction l generalizing g with
  | nil => exact h
  | cons a l ih => exact ih (applyG_wf h _ _ _)
theorem feedA_snoc (g : Grid) (l : List ActV) (k : Nat) (a : ActV) (h : l[k]? = some a) : feedA g (l.take (k + 1)) = applyA (feedA g (l.take k)) a := by
  rw [take_succ_some h]
  unfold feedA
  rw [List.foldl_append]
  rfl
theorem runS_ok {p : EscV × Grid} (h1 : EscOk p.1) (h2 : WFG p.2) : ∀ l : List Int, (∀ b ∈ l, 0 ≤ b) → EscOk (runS p l).1 ∧ WFG (runS p l).2 := by
  intro l
  induction l generalizing p with
  | nil => intro _; exact ⟨h1, h2⟩
  | cons b l ih => intro hb; exact ih (p := stepG p b) (stepR_ok h1 b (hb b (by simp))) (feedA_wf h2 _) (fun c hc => hb c (by simp [hc]))
theorem bytesI_mem {s : ByteArray} {b : Int} (h : b ∈ bytesI s) : 0 ≤ b ∧ b ≤ 255 := by
  unfold bytesI at h
  obtain ⟨c, _, rfl⟩ := List.mem_map.1 h
  have := c.toNat_lt
  omega
theorem bytesI_length (s : ByteArray) : (bytesI s).length = s.size := by unfold bytesI; simp
theorem runS_snoc (p : EscV × Grid) (l : List Int) (k : Nat) (b : Int) (h : l[k]? = some b) : runS p (l.take (k + 1)) = stepG (runS p (l.take k)) b := by
  rw [take_succ_some h]
  unfold runS
  rw [List.foldl_append]
  rfl
theorem flatA_get : ∀ (l : List ActV) (vs : List Value) (hl : vs.length = l.length) (i : Nat) (h : i < l.length), (flatA l vs)[i * 3]? = some (.int .i64 l[i].K) ∧ (flatA l vs)[i * 3 + 1]? = some (.int .i32 l[i].R) ∧ (flatA l vs)[i * 3 + 2]? = some (vs[i]'(by omega))
  | [], _, _, i, h => by simp at h
  | _ :: _, [], hl, _, _ => by simp at hl
  | a :: l, v :: vs, hl, 0, h => ⟨rfl, rfl, rfl⟩
  | a :: l, v :: vs, hl, i + 1, h => by
    have := flatA_get l vs (by simpa using hl) i (by simpa using h)
    rw [show (i + 1) * 3 = i * 3 + 1 + 1 + 1 from by omega]
    simpa [flatA] using this
/-- The action at a place. -/
theorem ActsAt.at_ {w : World} {a : Option Addr} {n c : Nat} {l : List ActV} (h : ActsAt w (.slice a n c) l) (i : Nat) (hi : i < l.length) :
    ∃ b o ac pa pc, a = some ⟨b, o, none⟩ ∧ w.cell? ⟨b, o + i * 3, none⟩ = some (.int .i64 ac.K) ∧ w.cell? ⟨b, o + i * 3 + 1, none⟩ = some (.int .i32 ac.R) ∧ w.cell? ⟨b, o + i * 3 + 2, none⟩ = some (.slice pa ac.P.length pc) ∧ Aside (l[i]? = some ac) ∧ Aside (IntsT w (.slice pa ac.P.length pc) ac.P) := by
  obtain ⟨vs, h1, h2⟩ := h.ex
  have hn : n = l.length := by obtain ⟨a', c', hv, _⟩ := Holds.form h1.at_; injection hv
  subst hn
  have hvl := h2.length
  obtain ⟨b, o, e1, k1⟩ := Holds.cell h1.at_ (i * 3) (by omega)
  obtain ⟨b', o', e2, k2⟩ := Holds.cell h1.at_ (i * 3 + 1) (by omega)
  obtain ⟨b'', o'', e3, k3⟩ := Holds.cell h1.at_ (i * 3 + 2) (by omega)
  rw [e1] at e2 e3
  injection e2 with e2
  injection e2 with q1 q2
  injection e3 with e3
  injection e3 with q3 q4
  subst q1 q2 q3 q4
  obtain ⟨g1, g2, g3⟩ := flatA_get l vs hvl i hi
  obtain ⟨v, hv, hp⟩ := h2.get i hi
  obtain ⟨pa, pc, rfl, _⟩ := Holds.form hp.at_
  have hvi : vs[i]'(by omega) = .slice pa l[i].P.length pc := by
    have := List.getElem?_eq_getElem (l := vs) (i := i) (by omega)
    rw [this] at hv
    injection hv
  exact ⟨b, o, l[i], pa, pc, e1, by rw [k1, g1], by rw [Nat.add_assoc, k2, g2], by rw [Nat.add_assoc, k3, g3, hvi], ⟨List.getElem?_eq_getElem hi⟩, ⟨hp⟩⟩
theorem own_boxT {w w' : World} {base n b : Nat} {e t : TypeId} {sz : Nat} {v : Value} {xs : List Value} {cs : Array Value} (h : w.ownsRow base e sz v n xs) (hb : Box w b t cs) (hne : e ≠ t) (hg : w.grownBy w' (some b)) : w'.ownsRow base e sz v n xs := own_box h hb hne hg
theorem InG.boxT {w w' : World} {base b : Nat} {t : TypeId} {g : Grid} {ar ab : Option Addr} {cr cb : Nat} {cs : Array Value} (h : InG w base g ar cr ab cb) (hb : Box w b t cs) (hg : w.grownBy w' (some b)) (h1 : 51 ≠ t) (h2 : 53 ≠ t) : InG w' base g ar cr ab cb := by
  obtain ⟨vs, k1, k2⟩ := h.rows.ex
  obtain ⟨us, k3, k4⟩ := h.back.ex
  exact ⟨⟨vs, own_box k1 hb h1 hg, k2.imp fun a c hab => own_box hab hb h2 hg⟩, ⟨us, own_box k3 hb h1 hg, k4.imp fun a c hab => own_box hab hb h2 hg⟩, h.apart⟩
/-- What a row, and rows, show. -/
def cellB (s : ByteArray) (c : Cell) : ByteArray := s ++ Utf8.encode (if c.R = 32 then 46 else c.R)
def rowB (s : ByteArray) (l : List Cell) : ByteArray := l.foldl cellB s
def lineB (p : ByteArray × Nat) (r : List Cell) : ByteArray × Nat := (rowB (if 0 < p.2 then p.1 ++ ⟨#[47]⟩ else p.1) r, p.2 + 1)
def rowsB (ll : List (List Cell)) : ByteArray := (ll.foldl lineB (⟨#[]⟩, 0)).1
theorem rowB_snoc (s : ByteArray) (l : List Cell) (k : Nat) (h : k < l.length) : rowB s (l.take (k + 1)) = cellB (rowB s (l.take k)) (l.getD k default) := by
  rw [take_succ_getD l k default h]
  unfold rowB
  rw [List.foldl_append]
  rfl
theorem lineB_count (ll : List (List Cell)) : ∀ p : ByteArray × Nat, (ll.foldl lineB p).2 = p.2 + ll.length := by
  induction ll with
  | nil => intro p; rfl
  | cons r ll ih => intro p; rw [List.foldl_cons, ih]; simp [lineB]; omega
theorem rowsB_snoc (ll : List (List Cell)) (k : Nat) (r : List Cell) (h : ll[k]? = some r) : rowsB (ll.take (k + 1)) = rowB (if 0 < k then rowsB (ll.take k) ++ ⟨#[47]⟩ else rowsB (ll.take k)) r := by
  have hk : k < ll.length := (List.getElem?_eq_some_iff.1 h).1
  rw [take_succ_some h]
  unfold rowsB
  rw [List.foldl_append]
  have hc := lineB_count (ll.take k) (⟨#[]⟩, 0)
  rw [List.length_take] at hc
  have h1 : ∀ p : ByteArray × Nat, (lineB p r).1 = rowB (if 0 < p.2 then p.1 ++ ⟨#[47]⟩ else p.1) r := fun _ => rfl
  rw [List.foldl_cons, List.foldl_nil, h1, hc, show (0 : Nat) + min k ll.length = k from by omega]
/-- What region 6 leaves. -/
def StepAt (w0 : World) (e : EscV) (l : List ActV) (s12 s13 : Value) (w : World) : Prop :=
  ∃ (P : Nat) (a1 a2 : Option Addr) (c1 c2 : Nat), s12 = .pointer (some ⟨P, 0, none⟩) ∧ s13 = .slice a2 l.length c2 ∧ Aside (Box w P 42 #[.int .i64 e.Mode, .int .i64 e.U.Need, .int .i64 e.U.Min, .int .i64 e.U.Got, .slice a1 e.Par.length c1, .int .i64 e.Num, .bool e.Priv, .bool e.Skip]) ∧ Aside (IntsT w (.slice a1 e.Par.length c1) e.Par) ∧ Aside (ActsAt w (.slice a2 l.length c2) l) ∧ Aside (Ext w0 w)

set_option maxRecDepth 100000 in
set_option maxHeartbeats 4000000 in
theorem show_any (W H : Int) (s : ByteArray) (w : World) (hsz : s.size ≤ 1000) :
    Calls Try.prog 13 #[.int .i64 W, .int .i64 H, .string s] w fun e w' => e = .returned (.tuple #[.string (rowsB (runS (zE, newG W H) (bytesI s)).2.Rows), .int .i64 (runS (zE, newG W H) (bytesI s)).2.X, .int .i64 (runS (zE, newG W H) (bytesI s)).2.Y]) ∧ Ext w w' := by
  obtain ⟨g0, hg0⟩ : ∃ g0, newG W H = g0 := ⟨_, rfl⟩
  have HG := Aside.mk hg0
  clear hg0
  go_enter Try.func13, Try.ntmps13
  go_wp2_with (fail)
  refine (sNew_to W H g0 _ HG.out).mono ?_
  rintro e w0 ⟨a0, c0, b0, d0, rfl, HI0, HX0, HW0⟩
  have HB0 := Aside.mk ((Box.new w0 31 #[.int .i64 g0.W, .int .i64 g0.H, .int .i64 g0.X, .int .i64 g0.Y, .bool g0.Wrap, .int .i64 g0.A, .int .i64 g0.Top, .int .i64 g0.Bottom, .int .i64 g0.SX, .int .i64 g0.SY, .int .i64 g0.SA, .bool g0.NoWrap, .bool g0.Hidden, .slice a0 g0.Rows.length c0, .slice b0 g0.Back.length d0]).alloc (.cells #[.int .i64 zE.Mode, .int .i64 zE.U.Need, .int .i64 zE.U.Min, .int .i64 zE.U.Got, .slice none 0 0, .int .i64 zE.Num, .bool zE.Priv, .bool zE.Skip] 42))
  have HE0 := Aside.mk (Box.newAt (w0.alloc (.cells #[.int .i64 g0.W, .int .i64 g0.H, .int .i64 g0.X, .int .i64 g0.Y, .bool g0.Wrap, .int .i64 g0.A, .int .i64 g0.Top, .int .i64 g0.Bottom, .int .i64 g0.SX, .int .i64 g0.SY, .int .i64 g0.SA, .bool g0.NoWrap, .bool g0.Hidden, .slice a0 g0.Rows.length c0, .slice b0 g0.Back.length d0] 31)) 42 #[.int .i64 zE.Mode, .int .i64 zE.U.Need, .int .i64 zE.U.Min, .int .i64 zE.U.Got, .slice none 0 0, .int .i64 zE.Num, .bool zE.Priv, .bool zE.Skip] (w0.heap.size + 1) (by simp))
  have HX1 := Aside.mk ((Ext.alloc1 w0 (.cells #[.int .i64 g0.W, .int .i64 g0.H, .int .i64 g0.X, .int .i64 g0.Y, .bool g0.Wrap, .int .i64 g0.A, .int .i64 g0.Top, .int .i64 g0.Bottom, .int .i64 g0.SX, .int .i64 g0.SY, .int .i64 g0.SA, .bool g0.NoWrap, .bool g0.Hidden, .slice a0 g0.Rows.length c0, .slice b0 g0.Back.length d0] 31)).alloc (.cells #[.int .i64 zE.Mode, .int .i64 zE.U.Need, .int .i64 zE.U.Min, .int .i64 zE.U.Got, .slice none 0 0, .int .i64 zE.Num, .bool zE.Priv, .bool zE.Skip] 42))
  have HI1 := Aside.mk (HI0.out.ext HX1.out)
  have HG0 := Aside.mk HX0.out.size
  have HXX := Aside.mk (HX0.out.trans HX1.out)
  go_wp2
  go_loopw [11] (fun si wr => ∃ (k : Nat) (t : EscV) (g : Grid) (a1 b1 p1 : Option Addr) (c1 d1 q1 : Nat), k ≤ s.size ∧ si = .int .i64 k ∧ Aside (runS (zE, g0) ((bytesI s).take k) = (t, g)) ∧
      Aside (Box wr w0.heap.size 31 #[.int .i64 g.W, .int .i64 g.H, .int .i64 g.X, .int .i64 g.Y, .bool g.Wrap, .int .i64 g.A, .int .i64 g.Top, .int .i64 g.Bottom, .int .i64 g.SX, .int .i64 g.SY, .int .i64 g.SA, .bool g.NoWrap, .bool g.Hidden, .slice a1 g.Rows.length c1, .slice b1 g.Back.length d1]) ∧ Aside (InG wr w.heap.size g a1 c1 b1 d1) ∧
      Aside (Box wr (w0.heap.size + 1) 42 #[.int .i64 t.Mode, .int .i64 t.U.Need, .int .i64 t.U.Min, .int .i64 t.U.Got, .slice p1 t.Par.length q1, .int .i64 t.Num, .bool t.Priv, .bool t.Skip]) ∧ Aside (IntsT wr (.slice p1 t.Par.length q1) t.Par) ∧ Aside (Ext w wr)) (fun i _ => s.size - (intOf i).toNat)
  case atStart => exact ⟨0, zE, g0, a0, b0, none, c0, d0, 0, by omega, rfl, ⟨rfl⟩, HB0, HI1, HE0, ⟨IntsT.nil _⟩, HXX⟩
  case round =>
    obtain ⟨k, t, g, a1, b1, p1, c1, d1, q1, hk, rfl, HR, HB, HI, HE, HP, HX⟩ := hrel
    clear HB0 HE0 HI1 HI0 HX1 HXX
    by_cases hlt : k < s.size
    · have hk0 : (0 : Int) ≤ (k : Int) := by omega
      have hk1 : (k : Int) < (s.size : Int) := by omega
      obtain ⟨b, hb⟩ : ∃ b : Int, ((s[k]'hlt).toNat : Int) = b := ⟨_, rfl⟩
      have hbk : (bytesI s)[k]? = some b := by unfold bytesI; rw [List.getElem?_map, ← hb]; simp [hlt]; rfl
      have hb2 := bytesI_mem (List.mem_of_getElem? hbk)
      obtain ⟨hb0, hb1⟩ := hb2
      have HBK := Aside.mk hbk
      have hok : EscOk t ∧ WFG g := by
        have := runS_ok (p := (zE, g0)) EscOk.z HW0.out ((bytesI s).take k) (fun c hc => (bytesI_mem (List.mem_of_mem_take hc)).1)
        rw [HR.out] at this
        exact this
      have HOE := Aside.mk hok.1
      have HOG := Aside.mk hok.2
      obtain ⟨⟨t2, l2⟩, hr⟩ : ∃ r : EscV × List ActV, stepR t b = r := ⟨_, rfl⟩
      have hU := fun w ap cp hp => Step_any t b ap cp w hb0 hb1 HOE.out hp
      simp only [hr] at hU
      have HU := Aside.mk hU
      have HRS : Aside (runS (zE, g0) ((bytesI s).take (k + 1)) = (t2, feedA g l2)) := ⟨by rw [runS_snoc _ _ _ _ hbk, HR.out]; unfold stepG; simp only [hr]⟩
      have HAO : Aside (ActsOk l2) := ⟨by have := stepR_acts HOE.out b; rw [hr] at this; exact this⟩
      clear hU hr hok hbk
      go_upto_region 6 with fail
      go_cut [12, 13] (fun s12 s13 wx => StepAt wr t2 l2 s12 s13 wx)
      case first =>
        refine wp_region_till 100 (fun w' => Box w' (w0.heap.size + 1) 42 #[.int .i64 t.Mode, .int .i64 t.U.Need, .int .i64 t.U.Min, .int .i64 t.U.Got, .slice p1 t.Par.length q1, .int .i64 t.Num, .bool t.Priv, .bool t.Skip]) (by rfl) (HE.out.drew) ?_
        intro hS
        refine ⟨kept_none _ rfl, fun hKept => ?_⟩
        refine till_take (i := 0) (oi := _) (v := ?_) rfl (by kernel_rfl) (by kernel_rfl) (by kernel_rfl) (by kernel_rfl) (fun _ _ _ h => h) hKept hS (Or.inl ⟨by rfl, ?_⟩) ?_; rotate_left; (intro wS hSw; have hSc := hSw.cell; go_simp; try with_reducible rfl); intro hKept; (try simp only [List.getElem?_toArray, List.getElem?_cons_succ, List.getElem?_cons_zero, List.getElem_toArray, List.getElem_cons_succ, List.getElem_cons_zero, Act.put, List.setIfInBounds_toArray, List.set_cons_zero, List.set_cons_succ])
        refine till_take (i := 1) (oi := _) (v := ?_) rfl (by kernel_rfl) (by kernel_rfl) (by kernel_rfl) (by kernel_rfl) (fun _ _ _ h => h) hKept hS (Or.inl ⟨by rfl, ?_⟩) ?_; rotate_left; (intro wS hSw; have hSc := hSw.cell; go_simp; try with_reducible rfl); intro hKept; (try simp only [List.getElem?_toArray, List.getElem?_cons_succ, List.getElem?_cons_zero, List.getElem_toArray, List.getElem_cons_succ, List.getElem_cons_zero, Act.put, List.setIfInBounds_toArray, List.set_cons_zero, List.set_cons_succ])
        refine till_take (i := 2) (oi := _) (v := ?_) rfl (by kernel_rfl) (by kernel_rfl) (by kernel_rfl) (by kernel_rfl) (fun _ _ _ h => h) hKept hS (Or.inl ⟨by rfl, ?_⟩) ?_; rotate_left; (intro wS hSw; have hSc := hSw.cell; go_simp; try with_reducible rfl); intro hKept; (try simp only [List.getElem?_toArray, List.getElem?_cons_succ, List.getElem?_cons_zero, List.getElem_toArray, List.getElem_cons_succ, List.getElem_cons_zero, Act.put, List.setIfInBounds_toArray, List.set_cons_zero, List.set_cons_succ])
        refine till_take (i := 3) (oi := _) (v := ?_) rfl (by kernel_rfl) (by kernel_rfl) (by kernel_rfl) (by kernel_rfl) (fun _ _ _ h => h) hKept hS (Or.inl ⟨by rfl, ?_⟩) ?_; rotate_left; (intro wS hSw; have hSc := hSw.cell; go_simp; try with_reducible rfl); intro hKept; (try simp only [List.getElem?_toArray, List.getElem?_cons_succ, List.getElem?_cons_zero, List.getElem_toArray, List.getElem_cons_succ, List.getElem_cons_zero, Act.put, List.setIfInBounds_toArray, List.set_cons_zero, List.set_cons_succ])
        refine till_two (i := 4) (j := 8) (by simp only [List.getElem?_toArray, List.getElem?_cons_succ, List.getElem?_cons_zero]; rfl) (by simp only [List.getElem?_toArray, List.getElem?_cons_succ, List.getElem?_cons_zero]; rfl) (by kernel_rfl) hKept ?_ ?_
        all_goals (intro K hK; rw [if_pos (by rfl)])
        · go_simp
          refine (HU.out _ _ _ (HP.out.ext ((Ext.refl _).drew))).mono ?_
          rintro e w1 ⟨a2, c2, a3, c3, rfl, hp1, ha1, he1⟩
          have HX1 := Aside.mk (((Ext.refl wr).drew).trans he1.out)
          go_simp
          refine hK.out _ _ (fun _ => HE.out.ext HX1.out) ?_; clear hS; intro hS hKept; replace hS := hS (by decide); (try simp only [List.getElem?_toArray, List.getElem?_cons_succ, List.getElem?_cons_zero, List.getElem_toArray, List.getElem_cons_succ, List.getElem_cons_zero, Act.put, List.setIfInBounds_toArray, List.set_cons_zero, List.set_cons_succ])
          refine till_take (i := 5) (oi := _) (v := ?_) rfl (by kernel_rfl) (by kernel_rfl) (by kernel_rfl) (by kernel_rfl) (fun _ _ _ h => h) hKept hS (Or.inl ⟨by rfl, ?_⟩) ?_; rotate_left; (intro wS hSw; have hSc := hSw.cell; go_simp; try with_reducible rfl); intro hKept; (try simp only [List.getElem?_toArray, List.getElem?_cons_succ, List.getElem?_cons_zero, List.getElem_toArray, List.getElem_cons_succ, List.getElem_cons_zero, Act.put, List.setIfInBounds_toArray, List.set_cons_zero, List.set_cons_succ])
          refine till_take (i := 6) (oi := _) (v := ?_) rfl (by kernel_rfl) (by kernel_rfl) (by kernel_rfl) (by kernel_rfl) (fun _ _ _ h => h) hKept hS (Or.inl ⟨by rfl, ?_⟩) ?_; rotate_left; (intro wS hSw; have hSc := hSw.cell; go_simp; try with_reducible rfl); intro hKept; (try simp only [List.getElem?_toArray, List.getElem?_cons_succ, List.getElem?_cons_zero, List.getElem_toArray, List.getElem_cons_succ, List.getElem_cons_zero, Act.put, List.setIfInBounds_toArray, List.set_cons_zero, List.set_cons_succ])
          refine till_take (i := 7) (oi := _) (v := ?_) rfl (by kernel_rfl) (by kernel_rfl) (by kernel_rfl) (by kernel_rfl) (fun _ _ _ h => h) hKept hS (Or.inl ⟨by rfl, ?_⟩) ?_; rotate_left; (intro wS hSw; have hSc := hSw.cell; go_simp; try with_reducible rfl); intro hKept; (try simp only [List.getElem?_toArray, List.getElem?_cons_succ, List.getElem?_cons_zero, List.getElem_toArray, List.getElem_cons_succ, List.getElem_cons_zero, Act.put, List.setIfInBounds_toArray, List.set_cons_zero, List.set_cons_succ])
          refine till_one (i := 8) (by simp only [List.getElem?_toArray, List.getElem?_cons_succ, List.getElem?_cons_zero]; rfl) (by kernel_rfl) hKept ?_; intro K hK; rw [if_pos (by rfl)]
          go_simp
          refine hK.out _ _ (fun _ => (HE.out.ext HX1.out).alloc _) ?_; clear hS; intro hS hKept; replace hS := hS (by decide); (try simp only [List.getElem?_toArray, List.getElem?_cons_succ, List.getElem?_cons_zero, List.getElem_toArray, List.getElem_cons_succ, List.getElem_cons_zero, Act.put, List.setIfInBounds_toArray, List.set_cons_zero, List.set_cons_succ])
          refine till_one (i := 9) (by simp only [List.getElem?_toArray, List.getElem?_cons_succ, List.getElem?_cons_zero]; rfl) (by kernel_rfl) hKept ?_; intro K hK
          refine step_store_box _ rfl 42 (.tmp 12) (.tmp 36) rfl w1.heap.size #[.int .i64 t2.Mode, .int .i64 t2.U.Need, .int .i64 t2.U.Min, .int .i64 t2.U.Got, .slice a2 t2.Par.length c2, .int .i64 t2.Num, .bool t2.Priv, .bool t2.Skip] (by rfl) (by rfl) 42 _ (Box.new w1 42 #[.int .i64 0, .int .i64 0, .int .i64 0, .int .i64 0, .slice none 0 0, .int .i64 0, .bool false, .bool false]) size42 rfl rfl ?_
          intro w2 hb2 hg2
          have hne : w0.heap.size + 1 ≠ w1.heap.size := by have := HE.out.lt; have := HX1.out.size; omega
          have HB2 := Aside.mk hb2
          have HX2 : Aside (Ext wr w2) := ⟨(HX1.out.alloc _).of_grown hg2 (by intro k hk; cases hk; exact HX1.out.size)⟩
          have HP2 : Aside (IntsT w2 (.slice a2 t2.Par.length c2) t2.Par) := ⟨HoldsT.grown (hp1.out.ext (Ext.alloc1 _ _)) hg2 (Box.new w1 42 #[.int .i64 0, .int .i64 0, .int .i64 0, .int .i64 0, .slice none 0 0, .int .i64 0, .bool false, .bool false]) (by decide)⟩
          have HA2 : Aside (ActsAt w2 (.slice a3 l2.length c3) l2) := ⟨ActsAt.grown (ha1.out.ext (Ext.alloc1 _ _)) hg2 (Box.new w1 42 #[.int .i64 0, .int .i64 0, .int .i64 0, .int .i64 0, .slice none 0 0, .int .i64 0, .bool false, .bool false]) (by decide) (by decide)⟩
          clear hb2 hg2 hne
          go_simp
          refine hK.out _ _ (fun _ => HE.out.ext HX2.out) ?_; clear hS; intro hS hKept; replace hS := hS (by decide); (try simp only [List.getElem?_toArray, List.getElem?_cons_succ, List.getElem?_cons_zero, List.getElem_toArray, List.getElem_cons_succ, List.getElem_cons_zero, Act.put, List.setIfInBounds_toArray, List.set_cons_zero, List.set_cons_succ])
          refine till_take (i := 10) (oi := _) (v := ?_) rfl (by kernel_rfl) (by kernel_rfl) (by kernel_rfl) (by kernel_rfl) (fun _ _ _ h => h) hKept hS (Or.inl ⟨by rfl, ?_⟩) ?_; rotate_left; (intro wS hSw; have hSc := hSw.cell; go_simp; try with_reducible rfl); intro hKept; (try simp only [List.getElem?_toArray, List.getElem?_cons_succ, List.getElem?_cons_zero, List.getElem_toArray, List.getElem_cons_succ, List.getElem_cons_zero, Act.put, List.setIfInBounds_toArray, List.set_cons_zero, List.set_cons_succ])
          refine till_done (by kernel_rfl) ?_ _
          go_wp2_with fail
          go_meet
          exact ⟨_, _, _, _, _, rfl, rfl, HB2, HP2, HA2, HX2⟩
        · go_simp
          refine hK.out _ _ (fun _ => (HE.out.alloc _).drew) ?_; clear hS; intro hS hKept; replace hS := hS (by decide); (try simp only [List.getElem?_toArray, List.getElem?_cons_succ, List.getElem?_cons_zero, List.getElem_toArray, List.getElem_cons_succ, List.getElem_cons_zero, Act.put, List.setIfInBounds_toArray, List.set_cons_zero, List.set_cons_succ])
          refine till_one (i := 4) (by simp only [List.getElem?_toArray, List.getElem?_cons_succ, List.getElem?_cons_zero]; rfl) (by kernel_rfl) hKept ?_; intro K hK; rw [if_pos (by rfl)]
          go_simp
          refine (HU.out _ _ _ (HP.out.ext (((Ext.alloc1 _ _).drew)))).mono ?_
          rintro e w1 ⟨a2, c2, a3, c3, rfl, hp1, ha1, he1⟩
          have HX1 := Aside.mk (((Ext.alloc1 wr (.cells #[.int .i64 0, .int .i64 0, .int .i64 0, .int .i64 0, .slice none 0 0, .int .i64 0, .bool false, .bool false] 42)).drew).trans he1.out)
          have HZ1 := Aside.mk (((Box.new wr 42 #[.int .i64 0, .int .i64 0, .int .i64 0, .int .i64 0, .slice none 0 0, .int .i64 0, .bool false, .bool false]).drew).ext he1.out)
          go_simp
          refine hK.out _ _ (fun _ => HE.out.ext HX1.out) ?_; clear hS; intro hS hKept; replace hS := hS (by decide); (try simp only [List.getElem?_toArray, List.getElem?_cons_succ, List.getElem?_cons_zero, List.getElem_toArray, List.getElem_cons_succ, List.getElem_cons_zero, Act.put, List.setIfInBounds_toArray, List.set_cons_zero, List.set_cons_succ])
          refine till_take (i := 5) (oi := _) (v := ?_) rfl (by kernel_rfl) (by kernel_rfl) (by kernel_rfl) (by kernel_rfl) (fun _ _ _ h => h) hKept hS (Or.inl ⟨by rfl, ?_⟩) ?_; rotate_left; (intro wS hSw; have hSc := hSw.cell; go_simp; try with_reducible rfl); intro hKept; (try simp only [List.getElem?_toArray, List.getElem?_cons_succ, List.getElem?_cons_zero, List.getElem_toArray, List.getElem_cons_succ, List.getElem_cons_zero, Act.put, List.setIfInBounds_toArray, List.set_cons_zero, List.set_cons_succ])
          refine till_take (i := 6) (oi := _) (v := ?_) rfl (by kernel_rfl) (by kernel_rfl) (by kernel_rfl) (by kernel_rfl) (fun _ _ _ h => h) hKept hS (Or.inl ⟨by rfl, ?_⟩) ?_; rotate_left; (intro wS hSw; have hSc := hSw.cell; go_simp; try with_reducible rfl); intro hKept; (try simp only [List.getElem?_toArray, List.getElem?_cons_succ, List.getElem?_cons_zero, List.getElem_toArray, List.getElem_cons_succ, List.getElem_cons_zero, Act.put, List.setIfInBounds_toArray, List.set_cons_zero, List.set_cons_succ])
          refine till_take (i := 7) (oi := _) (v := ?_) rfl (by kernel_rfl) (by kernel_rfl) (by kernel_rfl) (by kernel_rfl) (fun _ _ _ h => h) hKept hS (Or.inl ⟨by rfl, ?_⟩) ?_; rotate_left; (intro wS hSw; have hSc := hSw.cell; go_simp; try with_reducible rfl); intro hKept; (try simp only [List.getElem?_toArray, List.getElem?_cons_succ, List.getElem?_cons_zero, List.getElem_toArray, List.getElem_cons_succ, List.getElem_cons_zero, Act.put, List.setIfInBounds_toArray, List.set_cons_zero, List.set_cons_succ])
          refine till_one (i := 9) (by simp only [List.getElem?_toArray, List.getElem?_cons_succ, List.getElem?_cons_zero]; rfl) (by kernel_rfl) hKept ?_; intro K hK
          refine step_store_box _ rfl 42 (.tmp 12) (.tmp 36) rfl wr.heap.size #[.int .i64 t2.Mode, .int .i64 t2.U.Need, .int .i64 t2.U.Min, .int .i64 t2.U.Got, .slice a2 t2.Par.length c2, .int .i64 t2.Num, .bool t2.Priv, .bool t2.Skip] (by rfl) (by rfl) 42 _ HZ1.out size42 rfl rfl ?_
          intro w2 hb2 hg2
          have HB2 := Aside.mk hb2
          have HX2 : Aside (Ext wr w2) := ⟨HX1.out.of_grown hg2 (by intro k hk; cases hk; omega)⟩
          have HP2 : Aside (IntsT w2 (.slice a2 t2.Par.length c2) t2.Par) := ⟨HoldsT.grown hp1.out hg2 HZ1.out (by decide)⟩
          have HA2 : Aside (ActsAt w2 (.slice a3 l2.length c3) l2) := ⟨ActsAt.grown ha1.out hg2 HZ1.out (by decide) (by decide)⟩
          clear hb2 hg2
          go_simp
          refine hK.out _ _ (fun _ => HE.out.ext HX2.out) ?_; clear hS; intro hS hKept; replace hS := hS (by decide); (try simp only [List.getElem?_toArray, List.getElem?_cons_succ, List.getElem?_cons_zero, List.getElem_toArray, List.getElem_cons_succ, List.getElem_cons_zero, Act.put, List.setIfInBounds_toArray, List.set_cons_zero, List.set_cons_succ])
          refine till_take (i := 10) (oi := _) (v := ?_) rfl (by kernel_rfl) (by kernel_rfl) (by kernel_rfl) (by kernel_rfl) (fun _ _ _ h => h) hKept hS (Or.inl ⟨by rfl, ?_⟩) ?_; rotate_left; (intro wS hSw; have hSc := hSw.cell; go_simp; try with_reducible rfl); intro hKept; (try simp only [List.getElem?_toArray, List.getElem?_cons_succ, List.getElem?_cons_zero, List.getElem_toArray, List.getElem_cons_succ, List.getElem_cons_zero, Act.put, List.setIfInBounds_toArray, List.set_cons_zero, List.set_cons_succ])
          refine till_done (by kernel_rfl) ?_ _
          go_wp2_with fail
          go_meet
          exact ⟨_, _, _, _, _, rfl, rfl, HB2, HP2, HA2, HX2⟩
      case rest =>
        obtain ⟨P, a2, a3, c2, c3, rfl, rfl, HB2, HP2, HA2, HX2⟩ := hcut
        have HE2 := Aside.mk (HE.out.ext HX2.out)
        have HBg := Aside.mk (HB.out.ext HX2.out)
        have HIg := Aside.mk (HI.out.ext HX2.out)
        go_wp2_with (first
          | (refine atLoad 42 (.tmp 12) rfl ?_; refine wpList_load_row rfl 42 (.tmp 12) rfl P rfl 42 #[.int .i64 t2.Mode, .int .i64 t2.U.Need, .int .i64 t2.U.Min, .int .i64 t2.U.Got, .slice a2 t2.Par.length c2, .int .i64 t2.Num, .bool t2.Priv, .bool t2.Skip] (0, 0) _ HB2.out Try.underlying42 rfl size42 ?_)
          | (refine atStore 42 (.tmp 10) (.tmp 38) rfl ?_; refine wpList_store_box _ rfl 42 (.tmp 10) (.tmp 38) rfl (w0.heap.size + 1) _ rfl rfl 42 _ HE2.out size42 rfl rfl ?_; intro w3 hbz hgz; have HE3 := Aside.mk hbz; have HG3 := Aside.mk hgz; clear hgz hbz))
        have HB3 := Aside.mk (HBg.out.grown HG3.out (by simp))
        have HI3 := Aside.mk (HIg.out.boxT HE2.out HG3.out (by decide) (by decide))
        have HP3 : Aside (IntsT w3 (.slice a2 t2.Par.length c2) t2.Par) := ⟨HoldsT.grown HP2.out HG3.out HE2.out (by decide)⟩
        have HA3 := Aside.mk (HA2.out.grown HG3.out HE2.out (by decide) (by decide))
        have HX3 : Aside (Ext w w3) := ⟨(HX.out.trans HX2.out).of_grown HG3.out (by intro k hk; cases hk; have := HG0.out; omega)⟩
        clear HB2 HP2 HA2 HBg HIg
        have hl3 : l2.length ≤ 3 := HAO.out.1
        go_loopw [41] (fun sj wy => ∃ (j : Nat) (h : Grid) (a4 b4 : Option Addr) (c4 d4 : Nat), j ≤ l2.length ∧ sj = .int .i64 j ∧ Aside (feedA g (l2.take j) = h) ∧
            Aside (Box wy w0.heap.size 31 #[.int .i64 h.W, .int .i64 h.H, .int .i64 h.X, .int .i64 h.Y, .bool h.Wrap, .int .i64 h.A, .int .i64 h.Top, .int .i64 h.Bottom, .int .i64 h.SX, .int .i64 h.SY, .int .i64 h.SA, .bool h.NoWrap, .bool h.Hidden, .slice a4 h.Rows.length c4, .slice b4 h.Back.length d4]) ∧ Aside (InG wy w.heap.size h a4 c4 b4 d4) ∧
            Aside (Box wy (w0.heap.size + 1) 42 #[.int .i64 t2.Mode, .int .i64 t2.U.Need, .int .i64 t2.U.Min, .int .i64 t2.U.Got, .slice a2 t2.Par.length c2, .int .i64 t2.Num, .bool t2.Priv, .bool t2.Skip]) ∧ Aside (IntsT wy (.slice a2 t2.Par.length c2) t2.Par) ∧ Aside (ActsAt wy (.slice a3 l2.length c3) l2) ∧ Aside (Ext w wy)) (fun i _ => l2.length - (intOf i).toNat)
        case atStart => exact ⟨0, g, a1, b1, c1, d1, by omega, rfl, ⟨rfl⟩, HB3, HI3, HE3, HP3, HA3, HX3⟩
        case round =>
          obtain ⟨j, h, a4, b4, c4, d4, hj, rfl, HF, HBj, HIj, HEj, HPj, HAj, HXj⟩ := hrel
          have HOH : Aside (WFG h) := ⟨by rw [← HF.out]; exact feedA_wf HOG.out _⟩
          by_cases hjl : j < l2.length
          · have hj0 : (0 : Int) ≤ (j : Int) := by omega
            have hj1 : (j : Int) < (l2.length : Int) := by omega
            obtain ⟨b5, o5, ac, pa, pc, ha5, hc50, hc51, hc52, hac, hpv⟩ := HAj.out.at_ j hjl
            have HPO : Aside (ParsOk ac.P) := ⟨HAO.out.2 ac (List.mem_of_getElem? hac.out)⟩
            subst ha5
            obtain ⟨h2, hh2⟩ : ∃ h2, applyG h ac.K ac.R ac.P = h2 := ⟨_, rfl⟩
            have HF2 : Aside (feedA g (l2.take (j + 1)) = h2) := ⟨by rw [feedA_snoc _ _ _ _ hac.out, HF.out]; exact hh2⟩
            have HH2 := Aside.mk hh2
            clear hh2
            go_wp2_with (first | (refine atLoad 31 (.tmp 9) rfl ?_; refine wpList_load_row rfl 31 (.tmp 9) rfl w0.heap.size rfl 31 _ (0, 0) _ (HBj.out.alloc _) Try.underlying31 rfl size31 ?_))
            refine (Apply_to h h2 ac.K ac.R ac.P pa _ _ pc _ _ _ HH2.out HOH.out (parsOk_par HPO.out) (hpv.out.ints.ext (Ext.alloc1 _ _)) (HIj.out.rows.at_.ext (Ext.alloc1 _ _)) (HIj.out.back.at_.ext (Ext.alloc1 _ _))).mono ?_
            rintro e w5 ⟨a5, c5, b6, d5, rfl, HI5, HX5, HW5⟩
            have HXj5 := Aside.mk ((Ext.alloc1 _ _).trans HX5.out)
            have HB5 := Aside.mk (HBj.out.ext HXj5.out)
            go_wp2_with (first
              | ((refine atStore 31 (.tmp 9) (.tmp 47) rfl ?_; refine wpList_store_box _ rfl 31 (.tmp 9) (.tmp 47) rfl w0.heap.size _ rfl rfl 31 _ HB5.out size31 rfl rfl ?_; intro w6 hbz hgz; have HB6 := Aside.mk hbz; have HG6 := Aside.mk hgz; clear hgz hbz)))
            go_roundw
            case rel =>
              refine ⟨j + 1, h2, a5, b6, c5, d5, by omega, by go_num, HF2, HB6, ⟨(HI5.out.box HB5.out HG6.out).mono (by have := HXj.out.size; simp; omega)⟩, ⟨(HEj.out.ext HXj5.out).grown HG6.out (by simp)⟩, ⟨HoldsT.grown (HPj.out.ext HXj5.out) HG6.out HB5.out (by decide)⟩, ⟨(HAj.out.ext HXj5.out).grown HG6.out HB5.out (by decide) (by decide)⟩, ⟨(HXj.out.trans HXj5.out).of_grown HG6.out (by intro k hk; cases hk; have := HG0.out; omega)⟩⟩
            case measure => simp [intOf]; omega
          · obtain rfl : j = l2.length := by omega
            have HF3 : Aside (feedA g l2 = h) := ⟨by have := HF.out; rwa [List.take_length] at this⟩
            go_wp2
            go_roundw
            case rel => exact ⟨k + 1, t2, h, a4, b4, a2, c4, d4, c2, by omega, by go_num, ⟨by rw [HRS.out, HF3.out]⟩, HBj, HIj, HEj, HPj, HXj⟩
            case measure => simp [intOf]; omega
    · obtain rfl : k = s.size := by omega
      have HRF : Aside (runS (zE, g0) (bytesI s) = (t, g)) := ⟨by have h1 := HR.out; rwa [List.take_of_length_le (by rw [bytesI_length]; exact Nat.le_refl _)] at h1⟩
      have HOG : Aside (WFG g) := ⟨by have h1 := runS_ok (p := (zE, g0)) EscOk.z HW0.out (bytesI s) (fun c hc => (bytesI_mem hc).1); rw [HRF.out] at h1; exact h1.2⟩
      obtain ⟨hcB, hfB⟩ := HB.out.rules
      obtain ⟨wo, rfl⟩ : ∃ wo : World, wo = wr := ⟨_, rfl⟩
      have hrows := HOG.out.rows
      have hHb := HOG.out.H
      have hrl : g.Rows.length ≤ 1000 := by omega
      clear hrows hHb
      go_wp2
      go_loopw [16, 52] (fun so sy wr => ∃ (y : Nat) (S : ByteArray), y ≤ g.Rows.length ∧ sy = .int .i64 y ∧ so = .string S ∧ S.size ≤ y * 5000 ∧ Aside (S = rowsB (g.Rows.take y)) ∧ Aside (Ext wo wr)) (fun _ i _ => g.Rows.length - (intOf i).toNat)
      case atStart => exact ⟨0, ⟨#[]⟩, by omega, rfl, rfl, Nat.zero_le _, ⟨rfl⟩, ⟨Ext.refl _⟩⟩
      case round =>
        obtain ⟨y, S, hy, rfl, rfl, hS, HS, HX5⟩ := hrel
        obtain ⟨wq, rfl⟩ : ∃ wq : World, wq = wr := ⟨_, rfl⟩
        have HB5 := Aside.mk (HB.out.ext HX5.out)
        clear hcB hfB
        obtain ⟨hcB, hfB⟩ := HB5.out.rules
        by_cases hyl : y < g.Rows.length
        · obtain ⟨b7, o7, a8, c8, r8, ha7, hc7, hr8, hi8⟩ := (HI.out.rows.at_.ext HX5.out).at_ y hyl
          have hy0 : (0 : Int) ≤ (y : Int) := by omega
          have hy1 : (y : Int) < (g.Rows.length : Int) := by omega
          have hr1 : r8.length ≤ 1000 := by have h1 := HOG.out.wide r8 (List.mem_of_getElem? hi8.out); have := HOG.out.W; omega
          have HR8 := Aside.mk hr8
          have HN := Aside.mk (rowsB_snoc g.Rows y r8 hi8.out)
          clear hr8
          subst ha7
          by_cases hyp : 0 < y
          · have hyi : (0 : Int) < (y : Int) := by omega
            have HN2 : Aside (rowsB (g.Rows.take (y + 1)) = rowB (S ++ ⟨#[47]⟩) r8) := ⟨by rw [HN.out, if_pos hyp, HS.out]⟩
            have hz47 : (⟨#[47]⟩ : ByteArray).size = 1 := rfl
            go_wp2
            go_loopw [16, 65] (fun so sx wr => ∃ (x : Nat) (S2 : ByteArray), x ≤ r8.length ∧ sx = .int .i64 x ∧ so = .string S2 ∧ S2.size ≤ (S.size + 1) + 4 * x ∧ Aside (S2 = rowB (S ++ ⟨#[47]⟩) (r8.take x)) ∧ Aside (Ext wq wr)) (fun _ i _ => r8.length - (intOf i).toNat)
            case atStart => exact ⟨0, (S ++ ⟨#[47]⟩), by omega, rfl, rfl, by first | omega | (rw [ByteArray.size_append]; have h47 : (⟨#[47]⟩ : ByteArray).size = 1 := rfl; omega), ⟨rfl⟩, ⟨Ext.refl _⟩⟩
            case round =>
              obtain ⟨x, S2, hx, rfl, rfl, hS2, HS2, HX6⟩ := hrel
              by_cases hxl : x < r8.length
              · obtain ⟨b9, o9, ha9, hc9, hc9'⟩ := (HR8.out.ext HX6.out).at_ x hxl
                obtain ⟨r, hrr⟩ : ∃ r, r = r8.getD x default := ⟨_, rfl⟩
                rw [← hrr] at hc9 hc9'
                have hx0 : (0 : Int) ≤ (x : Int) := by omega
                have hx1 : (x : Int) < (r8.length : Int) := by omega
                have HRR := Aside.mk hrr
                clear hrr
                subst ha9
                by_cases h32 : r.R = 32
                · have e32 : (r.R == 32) = true := by simpa using h32
                  have HT : Aside (rowB (S ++ ⟨#[47]⟩) (r8.take (x + 1)) = S2 ++ Utf8.encode 46) := ⟨by rw [rowB_snoc _ _ _ hxl, ← HRR.out, ← HS2.out]; unfold cellB; rw [if_pos h32]⟩
                  have hes := encode_size_le 46
                  have hk : ¬ (S2.size + (Utf8.encode 46).size > 9223372036854775807) := by omega
                  clear h32
                  go_wp2
                  go_roundw
                  case rel => exact ⟨x + 1, S2 ++ Utf8.encode 46, by omega, by go_num, rfl, by rw [ByteArray.size_append]; omega, ⟨HT.out.symm⟩, ⟨(HX6.out.alloc _)⟩⟩
                  case measure => simp [intOf]; omega
                · have e32 : (r.R == 32) = false := by simpa using h32
                  have HT : Aside (rowB (S ++ ⟨#[47]⟩) (r8.take (x + 1)) = S2 ++ Utf8.encode r.R) := ⟨by rw [rowB_snoc _ _ _ hxl, ← HRR.out, ← HS2.out]; unfold cellB; rw [if_neg h32]⟩
                  have hes := encode_size_le r.R
                  have hk : ¬ (S2.size + (Utf8.encode r.R).size > 9223372036854775807) := by omega
                  clear h32
                  go_wp2
                  go_roundw
                  case rel => exact ⟨x + 1, S2 ++ Utf8.encode r.R, by omega, by go_num, rfl, by rw [ByteArray.size_append]; omega, ⟨HT.out.symm⟩, ⟨(HX6.out.alloc _)⟩⟩
                  case measure => simp [intOf]; omega
              · obtain rfl : x = r8.length := by omega
                go_wp2
                go_roundw
                case rel => exact ⟨y + 1, S2, by omega, by go_num, rfl, by omega, ⟨by rw [HN2.out, HS2.out, List.take_length]⟩, ⟨HX5.out.trans HX6.out⟩⟩
                case measure => simp [intOf]; omega
          · have hyi : decide ((0 : Int) < (y : Int)) = false := by simp; omega
            have hyn : decide (0 < y) = false := by simpa using hyp
            have HN2 : Aside (rowsB (g.Rows.take (y + 1)) = rowB S r8) := ⟨by rw [HN.out, if_neg hyp, HS.out]⟩
            go_wp2
            go_loopw [16, 65] (fun so sx wr => ∃ (x : Nat) (S2 : ByteArray), x ≤ r8.length ∧ sx = .int .i64 x ∧ so = .string S2 ∧ S2.size ≤ S.size + 4 * x ∧ Aside (S2 = rowB S (r8.take x)) ∧ Aside (Ext wq wr)) (fun _ i _ => r8.length - (intOf i).toNat)
            case atStart => exact ⟨0, S, by omega, rfl, rfl, by first | omega | (rw [ByteArray.size_append]; have h47 : (⟨#[47]⟩ : ByteArray).size = 1 := rfl; omega), ⟨rfl⟩, ⟨Ext.refl _⟩⟩
            case round =>
              obtain ⟨x, S2, hx, rfl, rfl, hS2, HS2, HX6⟩ := hrel
              by_cases hxl : x < r8.length
              · obtain ⟨b9, o9, ha9, hc9, hc9'⟩ := (HR8.out.ext HX6.out).at_ x hxl
                obtain ⟨r, hrr⟩ : ∃ r, r = r8.getD x default := ⟨_, rfl⟩
                rw [← hrr] at hc9 hc9'
                have hx0 : (0 : Int) ≤ (x : Int) := by omega
                have hx1 : (x : Int) < (r8.length : Int) := by omega
                have HRR := Aside.mk hrr
                clear hrr
                subst ha9
                by_cases h32 : r.R = 32
                · have e32 : (r.R == 32) = true := by simpa using h32
                  have HT : Aside (rowB S (r8.take (x + 1)) = S2 ++ Utf8.encode 46) := ⟨by rw [rowB_snoc _ _ _ hxl, ← HRR.out, ← HS2.out]; unfold cellB; rw [if_pos h32]⟩
                  have hes := encode_size_le 46
                  have hk : ¬ (S2.size + (Utf8.encode 46).size > 9223372036854775807) := by omega
                  clear h32
                  go_wp2
                  go_roundw
                  case rel => exact ⟨x + 1, S2 ++ Utf8.encode 46, by omega, by go_num, rfl, by rw [ByteArray.size_append]; omega, ⟨HT.out.symm⟩, ⟨(HX6.out.alloc _)⟩⟩
                  case measure => simp [intOf]; omega
                · have e32 : (r.R == 32) = false := by simpa using h32
                  have HT : Aside (rowB S (r8.take (x + 1)) = S2 ++ Utf8.encode r.R) := ⟨by rw [rowB_snoc _ _ _ hxl, ← HRR.out, ← HS2.out]; unfold cellB; rw [if_neg h32]⟩
                  have hes := encode_size_le r.R
                  have hk : ¬ (S2.size + (Utf8.encode r.R).size > 9223372036854775807) := by omega
                  clear h32
                  go_wp2
                  go_roundw
                  case rel => exact ⟨x + 1, S2 ++ Utf8.encode r.R, by omega, by go_num, rfl, by rw [ByteArray.size_append]; omega, ⟨HT.out.symm⟩, ⟨(HX6.out.alloc _)⟩⟩
                  case measure => simp [intOf]; omega
              · obtain rfl : x = r8.length := by omega
                go_wp2
                go_roundw
                case rel => exact ⟨y + 1, S2, by omega, by go_num, rfl, by omega, ⟨by rw [HN2.out, HS2.out, List.take_length]⟩, ⟨HX5.out.trans HX6.out⟩⟩
                case measure => simp [intOf]; omega
        · obtain rfl : y = g.Rows.length := by omega
          go_wp2
          go_quiet (fail)
          go_wp2
          go_ret3
          refine ⟨?_, by first | exact (HX.out.trans HX5.out) | exact (HX.out.trans HX5.out).drewN _⟩
          rw [HS.out, List.take_length, HG.out]
          show _ = Ending.returned (.tuple #[.string (rowsB (runS (zE, g0) (bytesI s)).2.Rows), .int .i64 (runS (zE, g0) (bytesI s)).2.X, .int .i64 (runS (zE, g0) (bytesI s)).2.Y])
          rw [HRF.out]
          rfl
end Go.Proofs.Ytmehkikkjebnnaa
