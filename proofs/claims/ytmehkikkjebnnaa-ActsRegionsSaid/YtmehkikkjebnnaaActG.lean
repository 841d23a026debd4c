/-
  Walks: acts.span, the closures of acts.row and acts.long, acts.row.
-/
import Derived.Test.YtmehkikkjebnnaaActF
set_option linter.unusedVariables false
set_option linter.unusedSimpArgs false
namespace Go.Proofs.Ytmehkikkjebnnaa
open Go.RowKit
attribute [local go_sem] max2_i min2_i max_two min_two
attribute [local go_sem ↓] Go.wp_at_zero Go.wp_at_succ

def spanOf (l : List Int) (at_ all : Int) : Int × Int × Bool :=
  let p := parOf l 0 0
  if p = 0 then (at_, all, true) else if p = 1 then (0, at_ + 1, true) else if p = 2 then (0, all, true) else (0, 0, false)

set_option maxRecDepth 100000 in
set_option maxHeartbeats 1000000 in
theorem span_any (k r : Int) (l : List Int) (ap : Option Addr) (cp : Nat) (at_ all F T : Int) (ok : Bool) (w : World) (hl : l.length ≤ 1000000) (hla : IntsAt w (.slice ap l.length cp) l) (ha : 0 ≤ at_ ∧ at_ ≤ 1000000) (hs : spanOf l at_ all = (F, T, ok)) :
    Calls Try.prog 110 #[.agg #[.int .i64 k, .int .i32 r, .slice ap l.length cp], .int .i64 at_, .int .i64 all] w fun e w' => e = .returned (.tuple #[.int .i64 F, .int .i64 T, .bool ok]) ∧ Ext w w' := by
  have HL := Aside.mk hla
  clear hla
  have HW := Aside.mk (Ext.alloc1 w (.cells #[.int .i64 k, .int .i32 r, .slice ap l.length cp] 35))
  have e1 : IntKind.i64.wrap (at_ + 1) = at_ + 1 := IntWalk.i64_in _ (by omega)
  obtain ⟨p, hp⟩ : ∃ p, p = parOf l 0 0 := ⟨_, rfl⟩
  have HP := Aside.mk hp
  have hs' : (if p = 0 then (at_, all, true) else if p = 1 then (0, at_ + 1, true) else if p = 2 then (0, all, true) else ((0 : Int), (0 : Int), false)) = (F, T, ok) := by rw [← hs, hp]; rfl
  clear hp hs
  by_cases h0 : p = 0
  · subst h0
    rw [if_pos rfl] at hs'
    cases hs'
    go_enter Try.func110, Try.ntmps110
    go_wp2_with (go_at_call 61; refine (par_eq k _ _ l 0 0 _ _ (HL.out.ext HW.out) hl (by omega) HP.out).mono ?_; rintro e w1 ⟨rfl, he1⟩; have HE1 := Aside.mk he1; clear he1)
    go_ret3
    exact ⟨rfl, HW.out.trans HE1.out⟩
  have d0 : (p == 0) = false := by simpa using h0
  by_cases h1 : p = 1
  · subst h1
    rw [if_neg h0, if_pos rfl] at hs'
    cases hs'
    go_enter Try.func110, Try.ntmps110
    go_wp2_with (go_at_call 61; refine (par_eq k _ _ l 0 0 _ _ (HL.out.ext HW.out) hl (by omega) HP.out).mono ?_; rintro e w1 ⟨rfl, he1⟩; have HE1 := Aside.mk he1; clear he1)
    go_ret3
    exact ⟨rfl, HW.out.trans HE1.out⟩
  have d1 : (p == 1) = false := by simpa using h1
  by_cases h2 : p = 2
  · subst h2
    rw [if_neg h0, if_neg h1, if_pos rfl] at hs'
    cases hs'
    go_enter Try.func110, Try.ntmps110
    go_wp2_with (go_at_call 61; refine (par_eq k _ _ l 0 0 _ _ (HL.out.ext HW.out) hl (by omega) HP.out).mono ?_; rintro e w1 ⟨rfl, he1⟩; have HE1 := Aside.mk he1; clear he1)
    go_ret3
    exact ⟨rfl, HW.out.trans HE1.out⟩
  have d2 : (p == 2) = false := by simpa using h2
  rw [if_neg h0, if_neg h1, if_neg h2] at hs'
  cases hs'
  go_enter Try.func110, Try.ntmps110
  go_wp2_with (go_at_call 61; refine (par_eq k _ _ l 0 0 _ _ (HL.out.ext HW.out) hl (by omega) HP.out).mono ?_; rintro e w1 ⟨rfl, he1⟩; have HE1 := Aside.mk he1; clear he1)
  go_ret3
  exact ⟨rfl, HW.out.trans HE1.out⟩

theorem callf65 : ∀ (args : Array Value) (w : World), (callFunc 65 args).run Try.prog w = .ok (.enter 65 args) w := by
  intro args w
  simp [callFunc, go_sem, Try.func65, Try.f65]
theorem callf67 : ∀ (args : Array Value) (w : World), (callFunc 67 args).run Try.prog w = .ok (.enter 67 args) w := by
  intro args w
  simp [callFunc, go_sem, Try.func67, Try.f67]
theorem callf69 : ∀ (args : Array Value) (w : World), (callFunc 69 args).run Try.prog w = .ok (.enter 69 args) w := by
  intro args w
  simp [callFunc, go_sem, Try.func69, Try.f69]
theorem callf112 : ∀ (args : Array Value) (w : World), (callFunc 112 args).run Try.prog w = .ok (.enter 112 args) w := by
  intro args w
  simp [callFunc, go_sem, Try.func112, Try.f112]

set_option maxRecDepth 100000 in
theorem row1_turns (b1 b2 : Nat) (F T : Int) (W : World) (ha : Box W b1 3 #[.int .i64 F]) (hr : Box W b2 3 #[.int .i64 T]) :
    Turns W 112 #[.pointer (some ⟨b1, 0, none⟩), .pointer (some ⟨b2, 0, none⟩)] (fun row => clearC row F T) := by
  intro w1 a c l he hl hn
  rw [show (#[Value.slice a l.length c] ++ #[.pointer (some ⟨b1, 0, none⟩), .pointer (some ⟨b2, 0, none⟩)] : Array Value) = #[.slice a l.length c, .pointer (some ⟨b1, 0, none⟩), .pointer (some ⟨b2, 0, none⟩)] from rfl]
  have HL := Aside.mk hl
  have HA := Aside.mk (ha.ext he)
  have HR := Aside.mk (hr.ext he)
  clear ha hr hl
  obtain ⟨hc1, hf1⟩ := HA.out.rules
  obtain ⟨hc2, hf2⟩ := HR.out.rules
  go_enter Try.func112, Try.ntmps112
  go_wp2_with (go_at_call 70; refine (Clear_any _ l _ _ _ HL.out hn).mono ?_; rintro e w2 ⟨a2, c2, rfl, ho, he2⟩; have HO := Aside.mk ho; have HE := Aside.mk he2; clear ho he2)
  go_ret
  exact ⟨a2, c2, rfl, HO.out, HE.out⟩
set_option maxRecDepth 100000 in
theorem long1_turns (g : Grid) (ar ab : Option Addr) (nr cr nb cb b1 b2 : Nat) (N : Int) (W : World) (ha : Box W b1 31 #[.int .i64 g.W, .int .i64 g.H, .int .i64 g.X, .int .i64 g.Y, .bool g.Wrap, .int .i64 g.A, .int .i64 g.Top, .int .i64 g.Bottom, .int .i64 g.SX, .int .i64 g.SY, .int .i64 g.SA, .bool g.NoWrap, .bool g.Hidden, .slice ar nr cr, .slice ab nb cb]) (hr : Box W b2 3 #[.int .i64 N]) :
    Turns W 65 #[.pointer (some ⟨b1, 0, none⟩), .pointer (some ⟨b2, 0, none⟩)] (fun row => insertC row g.X N) := by
  intro w1 a c l he hl hn
  rw [show (#[Value.slice a l.length c] ++ #[.pointer (some ⟨b1, 0, none⟩), .pointer (some ⟨b2, 0, none⟩)] : Array Value) = #[.slice a l.length c, .pointer (some ⟨b1, 0, none⟩), .pointer (some ⟨b2, 0, none⟩)] from rfl]
  have HL := Aside.mk hl
  have HA := Aside.mk (ha.ext he)
  have HR := Aside.mk (hr.ext he)
  clear ha hr hl
  obtain ⟨hc1, hf1⟩ := HA.out.rules
  obtain ⟨hc2, hf2⟩ := HR.out.rules
  go_enter Try.func65, Try.ntmps65
  go_wp2_with (go_at_call 66; refine (Insert_any _ l _ _ _ HL.out hn).mono ?_; rintro e w2 ⟨a2, c2, rfl, ho, he2⟩; have HO := Aside.mk ho; have HE := Aside.mk he2; clear ho he2)
  go_ret
  exact ⟨a2, c2, rfl, HO.out, HE.out⟩
set_option maxRecDepth 100000 in
theorem long2_turns (g : Grid) (ar ab : Option Addr) (nr cr nb cb b1 b2 : Nat) (N : Int) (W : World) (ha : Box W b1 31 #[.int .i64 g.W, .int .i64 g.H, .int .i64 g.X, .int .i64 g.Y, .bool g.Wrap, .int .i64 g.A, .int .i64 g.Top, .int .i64 g.Bottom, .int .i64 g.SX, .int .i64 g.SY, .int .i64 g.SA, .bool g.NoWrap, .bool g.Hidden, .slice ar nr cr, .slice ab nb cb]) (hr : Box W b2 3 #[.int .i64 N]) :
    Turns W 67 #[.pointer (some ⟨b1, 0, none⟩), .pointer (some ⟨b2, 0, none⟩)] (fun row => deleteC row g.X N) := by
  intro w1 a c l he hl hn
  rw [show (#[Value.slice a l.length c] ++ #[.pointer (some ⟨b1, 0, none⟩), .pointer (some ⟨b2, 0, none⟩)] : Array Value) = #[.slice a l.length c, .pointer (some ⟨b1, 0, none⟩), .pointer (some ⟨b2, 0, none⟩)] from rfl]
  have HL := Aside.mk hl
  have HA := Aside.mk (ha.ext he)
  have HR := Aside.mk (hr.ext he)
  clear ha hr hl
  obtain ⟨hc1, hf1⟩ := HA.out.rules
  obtain ⟨hc2, hf2⟩ := HR.out.rules
  go_enter Try.func67, Try.ntmps67
  go_wp2_with (go_at_call 68; refine (Delete_any _ l _ _ _ HL.out hn).mono ?_; rintro e w2 ⟨a2, c2, rfl, ho, he2⟩; have HO := Aside.mk ho; have HE := Aside.mk he2; clear ho he2)
  go_ret
  exact ⟨a2, c2, rfl, HO.out, HE.out⟩
set_option maxRecDepth 100000 in
theorem long3_turns (g : Grid) (ar ab : Option Addr) (nr cr nb cb b1 b2 : Nat) (N : Int) (W : World) (ha : Box W b1 31 #[.int .i64 g.W, .int .i64 g.H, .int .i64 g.X, .int .i64 g.Y, .bool g.Wrap, .int .i64 g.A, .int .i64 g.Top, .int .i64 g.Bottom, .int .i64 g.SX, .int .i64 g.SY, .int .i64 g.SA, .bool g.NoWrap, .bool g.Hidden, .slice ar nr cr, .slice ab nb cb]) (hr : Box W b2 3 #[.int .i64 N]) (hw : IntKind.i64.wrap (g.X + N) = g.X + N) :
    Turns W 69 #[.pointer (some ⟨b1, 0, none⟩), .pointer (some ⟨b2, 0, none⟩)] (fun row => clearC row g.X (g.X + N)) := by
  intro w1 a c l he hl hn
  rw [show (#[Value.slice a l.length c] ++ #[.pointer (some ⟨b1, 0, none⟩), .pointer (some ⟨b2, 0, none⟩)] : Array Value) = #[.slice a l.length c, .pointer (some ⟨b1, 0, none⟩), .pointer (some ⟨b2, 0, none⟩)] from rfl]
  have HL := Aside.mk hl
  have HA := Aside.mk (ha.ext he)
  have HR := Aside.mk (hr.ext he)
  clear ha hr hl
  obtain ⟨hc1, hf1⟩ := HA.out.rules
  obtain ⟨hc2, hf2⟩ := HR.out.rules
  go_enter Try.func69, Try.ntmps69
  go_wp2_with (go_at_call 70; refine (Clear_any _ l _ _ _ HL.out hn).mono ?_; rintro e w2 ⟨a2, c2, rfl, ho, he2⟩; have HO := Aside.mk ho; have HE := Aside.mk he2; clear ho he2)
  go_ret
  exact ⟨a2, c2, rfl, HO.out, HE.out⟩

def rowG (g : Grid) (l : List Int) : Grid := turnG g fun r => clearC r (spanOf l g.X g.W).1 (spanOf l g.X g.W).2.1

set_option maxRecDepth 100000 in
set_option maxHeartbeats 1000000 in
theorem row_any (g : Grid) (k r : Int) (l : List Int) (ap ar ab : Option Addr) (cp cr cb base : Nat) (w : World) (hg : WFG g) (hpar : ParOk l) (hla : IntsAt w (.slice ap l.length cp) l) (hin : InG w base g ar cr ab cb) (hbase : base ≤ w.heap.size) :
    Calls Try.prog 63 #[.agg #[.int .i64 g.W, .int .i64 g.H, .int .i64 g.X, .int .i64 g.Y, .bool g.Wrap, .int .i64 g.A, .int .i64 g.Top, .int .i64 g.Bottom, .int .i64 g.SX, .int .i64 g.SY, .int .i64 g.SA, .bool g.NoWrap, .bool g.Hidden, .slice ar g.Rows.length cr, .slice ab g.Back.length cb], .agg #[.int .i64 k, .int .i32 r, .slice ap l.length cp]] w (PassR base w (rowG g l)) := by
  have HIN := Aside.mk hin
  have HL := Aside.mk hla
  have hl := hpar.1
  clear hla hin
  have HA := Aside.mk (((Box.new w 31 #[.int .i64 g.W, .int .i64 g.H, .int .i64 g.X, .int .i64 g.Y, .bool g.Wrap, .int .i64 g.A, .int .i64 g.Top, .int .i64 g.Bottom, .int .i64 g.SX, .int .i64 g.SY, .int .i64 g.SA, .bool g.NoWrap, .bool g.Hidden, .slice ar g.Rows.length cr, .slice ab g.Back.length cb]).alloc (.cells #[.int .i64 k, .int .i32 r, .slice ap l.length cp] 35)).alloc (.cells #[.int .i64 0, .int .i64 0, .int .i64 0, .int .i64 0, .bool false, .int .i64 0, .int .i64 0, .int .i64 0, .int .i64 0, .int .i64 0, .int .i64 0, .bool false, .bool false, .slice none 0 0, .slice none 0 0] 31))
  have HR := Aside.mk ((Box.newAt (w.alloc (.cells #[.int .i64 g.W, .int .i64 g.H, .int .i64 g.X, .int .i64 g.Y, .bool g.Wrap, .int .i64 g.A, .int .i64 g.Top, .int .i64 g.Bottom, .int .i64 g.SX, .int .i64 g.SY, .int .i64 g.SA, .bool g.NoWrap, .bool g.Hidden, .slice ar g.Rows.length cr, .slice ab g.Back.length cb] 31)) 35 #[.int .i64 k, .int .i32 r, .slice ap l.length cp] (w.heap.size + 1) (by simp)).alloc (.cells #[.int .i64 0, .int .i64 0, .int .i64 0, .int .i64 0, .bool false, .int .i64 0, .int .i64 0, .int .i64 0, .int .i64 0, .int .i64 0, .int .i64 0, .bool false, .bool false, .slice none 0 0, .slice none 0 0] 31))
  have HZ := Aside.mk (Box.newAt ((w.alloc (.cells #[.int .i64 g.W, .int .i64 g.H, .int .i64 g.X, .int .i64 g.Y, .bool g.Wrap, .int .i64 g.A, .int .i64 g.Top, .int .i64 g.Bottom, .int .i64 g.SX, .int .i64 g.SY, .int .i64 g.SA, .bool g.NoWrap, .bool g.Hidden, .slice ar g.Rows.length cr, .slice ab g.Back.length cb] 31)).alloc (.cells #[.int .i64 k, .int .i32 r, .slice ap l.length cp] 35)) 31 #[.int .i64 0, .int .i64 0, .int .i64 0, .int .i64 0, .bool false, .int .i64 0, .int .i64 0, .int .i64 0, .int .i64 0, .int .i64 0, .int .i64 0, .bool false, .bool false, .slice none 0 0, .slice none 0 0] (w.heap.size + 2) (by simp))
  have HW := Aside.mk (((Ext.alloc1 w (.cells #[.int .i64 g.W, .int .i64 g.H, .int .i64 g.X, .int .i64 g.Y, .bool g.Wrap, .int .i64 g.A, .int .i64 g.Top, .int .i64 g.Bottom, .int .i64 g.SX, .int .i64 g.SY, .int .i64 g.SA, .bool g.NoWrap, .bool g.Hidden, .slice ar g.Rows.length cr, .slice ab g.Back.length cb] 31)).alloc (.cells #[.int .i64 k, .int .i32 r, .slice ap l.length cp] 35)).alloc (.cells #[.int .i64 0, .int .i64 0, .int .i64 0, .int .i64 0, .bool false, .int .i64 0, .int .i64 0, .int .i64 0, .int .i64 0, .int .i64 0, .int .i64 0, .bool false, .bool false, .slice none 0 0, .slice none 0 0] 31))
  have hX := hg.X
  have hW := hg.W
  obtain ⟨F, T, ok, hs⟩ : ∃ F T ok, spanOf l g.X g.W = (F, T, ok) := ⟨_, _, _, rfl⟩
  have HS := Aside.mk hs
  obtain ⟨t, ht⟩ : ∃ t, t = turnG g (fun r => clearC r F T) := ⟨_, rfl⟩
  have hp : rowG g l = t := by unfold rowG; rw [hs, ht]
  rw [hp]
  have HT := Aside.mk ht
  clear hs ht hp
  have hmf : ∀ (fn : Fn) (first cap : Array Value) (w : World), (Instr.makeFunc fn first cap).run Try.prog w = .ok (.func fn first cap) w := fun _ _ _ _ => rfl
  go_enter Try.func63, Try.ntmps63
  go_wp2_with (first
    | (go_at_call 110; refine (span_any k r l ap cp g.X g.W F T ok _ hl (HL.out.ext HW.out) (by omega) HS.out).mono ?_; rintro e w1 ⟨rfl, he1⟩; have HE1 := Aside.mk he1; have HA1 := Aside.mk (HA.out.ext he1); have HZ1 := Aside.mk (HZ.out.ext he1); have HX1 := Aside.mk (HW.out.trans he1); obtain ⟨hc1, hf1⟩ := HA1.out.rules; have HA2 := Aside.mk ((HA1.out.alloc (.cells #[.int .i64 F] 3)).alloc (.cells #[.int .i64 T] 3)); have HZ2 := Aside.mk ((HZ1.out.alloc (.cells #[.int .i64 F] 3)).alloc (.cells #[.int .i64 T] 3)); have HX2 := Aside.mk ((HX1.out.alloc (.cells #[.int .i64 F] 3)).alloc (.cells #[.int .i64 T] 3)); have HF := Aside.mk ((Box.new w1 3 #[.int .i64 F]).alloc (.cells #[.int .i64 T] 3)); have HT2 := Aside.mk (Box.newAt (w1.alloc (.cells #[.int .i64 F] 3)) 3 #[.int .i64 T] (w1.heap.size + 1) (by simp)); clear he1)
    | (refine atLoad 31 (.tmp 2) rfl ?_; refine wpList_load_row rfl 31 (.tmp 2) rfl w.heap.size rfl 31 _ (0, 0) _ HA2.out Try.underlying31 rfl size31 ?_)
    | (go_at_call 56; refine (turn_eq g t 112 _ _ _ _ _ _ base _ HT.out hg (HIN.out.ext HX2.out) (by have := HX2.out.size; omega) (row1_turns _ _ F T _ HF.out HT2.out) callf112).mono ?_; rintro e w4 ⟨ar4, cr4, ab4, cb4, rfl, HI4, HB4⟩; have HZ4 := Aside.mk (HZ2.out.grown HB4.out ((HIN.out.ext HX2.out).rows.ne_box HZ2.out (by decide))); have HB5 := Aside.mk ((HX2.out.growR base).trans (GrowR.of_row HB4.out (HIN.out.ext HX2.out).rows)))
    | (refine atStore 31 (.tmp 4) (.tmp 20) rfl ?_; refine wpList_store_box _ rfl 31 (.tmp 4) (.tmp 20) rfl (w.heap.size + 2) _ rfl rfl 31 _ HZ4.out size31 rfl rfl ?_; intro w9 hbz hgz; have HZ9 := Aside.mk hbz; have HG9 := Aside.mk hgz; clear hgz hbz))
  refine bodyPost_ret (results_cell_row Try.results63 _ _ (w.heap.size + 2) 31 _ (0, 0) _ rfl HZ9.out Try.underlying31 rfl size31) rfl ?_
  exact PassR.of (HI4.out.box HZ4.out HG9.out) (HB5.out.then_new HG9.out (by omega))
end Go.Proofs.Ytmehkikkjebnnaa
