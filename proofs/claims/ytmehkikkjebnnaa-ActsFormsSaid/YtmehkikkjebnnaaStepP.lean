/-
  What bytes ask, as the document has it (polyptychref1), in plain words. No program in sight.
-/
import Derived.Test.YtmehkikkjebnnaaVals
set_option linter.unusedVariables false
set_option linter.unusedSimpArgs false
namespace Go.Proofs.Ytmehkikkjebnnaa

structure UtfV where
  Need : Int
  Min : Int
  Got : Int
deriving DecidableEq
structure EscV where
  Mode : Int
  U : UtfV
  Par : List Int
  Num : Int
  Priv : Bool
  Skip : Bool
deriving DecidableEq
structure ActV where
  K : Int
  R : Int
  P : List Int
deriving DecidableEq
def zU : UtfV := ⟨0, 0, 0⟩
def zE : EscV := ⟨0, ⟨0, 0, 0⟩, [], 0, false, false⟩
def modeE (m : Int) : EscV := ⟨m, ⟨0, 0, 0⟩, [], 0, false, false⟩

def firstR (b : Int) : UtfV × List Int :=
  if b < 128 then (⟨0, 0, 0⟩, [b])
  else if 192 ≤ b ∧ b ≤ 223 then (⟨1, 128, b % 32⟩, [])
  else if 224 ≤ b ∧ b ≤ 239 then (⟨2, 2048, b % 16⟩, [])
  else if 240 ≤ b ∧ b ≤ 247 then (⟨3, 65536, b % 8⟩, [])
  else (⟨0, 0, 0⟩, [65533])
def rune1R (n least : Int) : Int := if n < least ∨ n > 1114111 ∨ (n ≥ 55296 ∧ n ≤ 57343) then 65533 else n
def utfR (s : UtfV) (b : Int) : UtfV × List Int :=
  if s.Need ≤ 0 then firstR b
  else if b < 128 ∨ b > 191 then ((firstR b).1, 65533 :: (firstR b).2)
  else if s.Need - 1 > 0 then (⟨s.Need - 1, s.Min, 64 * s.Got + b % 64⟩, [])
  else (⟨0, 0, 0⟩, [rune1R (64 * s.Got + b % 64) s.Min])
def endR (s : UtfV) : List Int := if s.Need > 0 then [65533] else []
def controlR (b : Int) : List ActV := if 7 ≤ b ∧ b ≤ 13 then [⟨2, b, []⟩] else []
def shown (r : Int) : Bool := decide (32 ≤ r) && (decide (r < 127) || decide (r > 159))
def printsR (l : List Int) : List ActV := (l.filter shown).map fun r => ⟨1, r, []⟩
def groundR (s : EscV) (b : Int) : EscV × List ActV :=
  if b > 31 ∧ b ≠ 127 then ({ s with U := (utfR s.U b).1 }, printsR (utfR s.U b).2)
  else if b = 27 then ({ s with U := ⟨0, 0, 0⟩, Mode := 1 }, printsR (endR s.U))
  else ({ s with U := ⟨0, 0, 0⟩ }, printsR (endR s.U) ++ controlR b)
def escapeR (s : EscV) (b : Int) : EscV × List ActV :=
  if b = 91 then (⟨2, ⟨0, 0, 0⟩, [], -1, false, false⟩, [])
  else if b = 93 ∨ b = 80 ∨ b = 88 ∨ b = 94 ∨ b = 95 then (modeE 3, [])
  else if b = 27 then (s, [])
  else if b = 24 ∨ b = 26 then (zE, [])
  else if 48 ≤ b ∧ b ≤ 126 then (zE, [⟨3, b, []⟩])
  else if 32 ≤ b ∧ b ≤ 47 then (modeE 4, [])
  else if b < 32 then (s, controlR b)
  else (zE, [])
def toldR (par : List Int) (n : Int) : List Int := if par.length ≥ 16 then par else par ++ [n]
def finR (s : EscV) : List Int := if s.Num ≠ -1 ∨ s.Par.length > 0 then toldR s.Par s.Num else s.Par
def csiR (s : EscV) (b : Int) : EscV × List ActV :=
  if 48 ≤ b ∧ b ≤ 57 then ({ s with Num := min (10 * max s.Num 0 + (b - 48)) 65535 }, [])
  else if b = 59 then ({ s with Par := toldR s.Par s.Num, Num := -1 }, [])
  else if b = 63 ∧ s.Par.length = 0 ∧ s.Num = -1 ∧ s.Priv = false then ({ s with Priv := true }, [])
  else if 32 ≤ b ∧ b ≤ 63 then ({ s with Skip := true }, [])
  else if 64 ≤ b ∧ b ≤ 126 then (zE, if s.Skip then [] else [⟨if s.Priv then 5 else 4, b, finR s⟩])
  else if b = 27 then (modeE 1, [])
  else if b = 24 ∨ b = 26 then (zE, [])
  else if b < 32 then (s, controlR b)
  else (s, [])
def stringR (s : EscV) (b : Int) : EscV := if b = 7 ∨ b = 24 ∨ b = 26 then zE else if b = 27 then modeE 5 else s
def endSR (s : EscV) (b : Int) : EscV := if b = 92 then zE else if b = 27 then s else modeE 3
def skipR (s : EscV) (b : Int) : EscV := if (48 ≤ b ∧ b ≤ 126) ∨ b = 24 ∨ b = 26 then zE else if b = 27 then modeE 1 else s
def stepR (s : EscV) (b : Int) : EscV × List ActV :=
  if s.Mode = 0 then groundR s b
  else if s.Mode = 1 then escapeR s b
  else if s.Mode = 2 then csiR s b
  else if s.Mode = 3 then (stringR s b, [])
  else if s.Mode = 5 then (endSR s b, [])
  else if s.Mode = 4 then (skipR s b, [])
  else (s, [])

/-! ### What holds of all that is reached -/
structure UtfOk (s : UtfV) : Prop where
  n0 : 0 ≤ s.Need
  n3 : s.Need ≤ 3
  g0 : 0 ≤ s.Got
  g1 : s.Need = 1 → s.Got ≤ 32767
  g2 : s.Need = 2 → s.Got ≤ 511
  g3 : s.Need = 3 → s.Got ≤ 7
  m0 : 0 ≤ s.Min
  m1 : s.Min ≤ 65536
theorem UtfOk.z : UtfOk ⟨0, 0, 0⟩ := ⟨by simp, by simp, by simp, by simp, by simp, by simp, by simp, by simp⟩
theorem firstR_ok (b : Int) (_h0 : 0 ≤ b) : UtfOk (firstR b).1 := by
  unfold firstR
  repeat' split
  all_goals first | exact UtfOk.z | (refine ⟨?_, ?_, ?_, ?_, ?_, ?_, ?_, ?_⟩ <;> simp <;> omega)
theorem utfR_ok {s : UtfV} (h : UtfOk s) (b : Int) (h0 : 0 ≤ b) : UtfOk (utfR s b).1 := by
  unfold utfR
  split
  · exact firstR_ok b h0
  split
  · exact firstR_ok b h0
  split
  · obtain ⟨a0, a1, a2, a3, a4, a5, a6, a7⟩ := h
    refine ⟨?_, ?_, ?_, ?_, ?_, ?_, ?_, ?_⟩ <;> simp <;> omega
  · exact UtfOk.z
/-- Parameters as they come of bytes. -/
def ParsOk (l : List Int) : Prop := l.length ≤ 16 ∧ ∀ p ∈ l, -1 ≤ p ∧ p ≤ 65535
theorem ParsOk.nil : ParsOk [] := ⟨by simp, by simp⟩
theorem toldR_ok {l : List Int} (h : ParsOk l) {n : Int} (h1 : -1 ≤ n ∧ n ≤ 65535) : ParsOk (toldR l n) := by
  unfold toldR
  split
  · exact h
  · refine ⟨by simp; omega, fun p hp => ?_⟩
    rcases List.mem_append.1 hp with hp | hp
    · exact h.2 p hp
    · rw [List.mem_singleton.1 hp]; exact h1
structure EscOk (s : EscV) : Prop where
  u : UtfOk s.U
  par : ParsOk s.Par
  num : -1 ≤ s.Num ∧ s.Num ≤ 65535
theorem EscOk.z : EscOk zE := ⟨UtfOk.z, ParsOk.nil, by decide⟩
theorem EscOk.mode (m : Int) : EscOk (modeE m) := ⟨UtfOk.z, ParsOk.nil, by show -1 ≤ (0 : Int) ∧ (0 : Int) ≤ 65535; omega⟩
theorem groundR_ok {s : EscV} (h : EscOk s) (b : Int) (h0 : 0 ≤ b) : EscOk (groundR s b).1 := by
  unfold groundR
  split
  · exact ⟨utfR_ok h.u b h0, h.par, h.num⟩
  split
  · exact ⟨UtfOk.z, h.par, h.num⟩
  · exact ⟨UtfOk.z, h.par, h.num⟩
theorem escapeR_ok {s : EscV} (h : EscOk s) (b : Int) : EscOk (escapeR s b).1 := by
  unfold escapeR
  repeat' split
  all_goals first | exact EscOk.z | exact EscOk.mode _ | exact h | exact ⟨UtfOk.z, ParsOk.nil, by simp⟩
theorem csiR_ok {s : EscV} (h : EscOk s) (b : Int) : EscOk (csiR s b).1 := by
  unfold csiR
  have hn := h.num
  split
  · exact ⟨h.u, h.par, by simp only; omega⟩
  split
  · exact ⟨h.u, toldR_ok h.par h.num, by simp only; omega⟩
  split
  · exact ⟨h.u, h.par, h.num⟩
  split
  · exact ⟨h.u, h.par, h.num⟩
  repeat' split
  all_goals first | exact EscOk.z | exact EscOk.mode _ | exact h
theorem stepR_ok {s : EscV} (h : EscOk s) (b : Int) (h0 : 0 ≤ b) : EscOk (stepR s b).1 := by
  unfold stepR
  split
  · exact groundR_ok h b h0
  split
  · exact escapeR_ok h b
  split
  · exact csiR_ok h b
  split
  · show EscOk (stringR s b)
    unfold stringR
    repeat' split
    all_goals first | exact EscOk.z | exact EscOk.mode _ | exact h
  split
  · show EscOk (endSR s b)
    unfold endSR
    repeat' split
    all_goals first | exact EscOk.z | exact EscOk.mode _ | exact h
  split
  · show EscOk (skipR s b)
    unfold skipR
    repeat' split
    all_goals first | exact EscOk.z | exact EscOk.mode _ | exact h
  · exact h
theorem finR_ok {s : EscV} (h : EscOk s) : ParsOk (finR s) := by
  unfold finR
  split
  · exact toldR_ok h.par h.num
  · exact h.par
/-- What comes out: parameters as they come of bytes, few actions. -/
def ActsOk (l : List ActV) : Prop := l.length ≤ 3 ∧ ∀ a ∈ l, ParsOk a.P
theorem ActsOk.nil : ActsOk [] := ⟨by simp, by simp⟩
theorem ActsOk.one (a : ActV) (h : ParsOk a.P) : ActsOk [a] := ⟨by simp, fun b hb => by rw [List.mem_singleton.1 hb]; exact h⟩
theorem controlR_ok (b : Int) : ActsOk (controlR b) := by
  unfold controlR
  split
  · exact ActsOk.one _ ParsOk.nil
  · exact ActsOk.nil
theorem printsR_mem {l : List Int} {a : ActV} (h : a ∈ printsR l) : a.P = [] := by
  unfold printsR at h
  obtain ⟨r, _, rfl⟩ := List.mem_map.1 h
  rfl
theorem printsR_length (l : List Int) : (printsR l).length ≤ l.length := by unfold printsR; rw [List.length_map]; exact List.length_filter_le _ _
theorem firstR_length (b : Int) : (firstR b).2.length ≤ 1 := by
  unfold firstR
  repeat' split
  all_goals simp
theorem utfR_length (s : UtfV) (b : Int) : (utfR s b).2.length ≤ 2 := by
  have := firstR_length b
  unfold utfR
  repeat' split
  all_goals simp <;> omega
theorem endR_length (s : UtfV) : (endR s).length ≤ 1 := by unfold endR; split <;> simp
theorem controlR_length (b : Int) : (controlR b).length ≤ 1 := by unfold controlR; split <;> simp
theorem stepR_acts {s : EscV} (h : EscOk s) (b : Int) : ActsOk (stepR s b).2 := by
  have hp : ∀ l : List Int, l.length ≤ 2 → ActsOk (printsR l) := fun l hl => ⟨Nat.le_trans (printsR_length l) (by omega), fun a ha => by rw [printsR_mem ha]; exact ParsOk.nil⟩
  unfold stepR
  split
  · unfold groundR
    split
    · exact hp _ (utfR_length _ _)
    split
    · exact hp _ (Nat.le_trans (endR_length _) (by omega))
    · refine ⟨?_, fun a ha => ?_⟩
      · have h1 := printsR_length (endR s.U)
        have h2 := endR_length s.U
        have h3 := controlR_length b
        simp only [List.length_append]
        omega
      · rcases List.mem_append.1 ha with ha | ha
        · rw [printsR_mem ha]; exact ParsOk.nil
        · exact (controlR_ok b).2 a ha
  split
  · unfold escapeR
    repeat' split
    all_goals first | exact ActsOk.nil | exact controlR_ok b | exact ActsOk.one _ ParsOk.nil
  split
  · unfold csiR
    split
    · exact ActsOk.nil
    split
    · exact ActsOk.nil
    split
    · exact ActsOk.nil
    split
    · exact ActsOk.nil
    split
    · simp only
      split
      · exact ActsOk.nil
      · exact ActsOk.one _ (finR_ok h)
    repeat' split
    all_goals first | exact ActsOk.nil | exact controlR_ok b
  repeat' split
  all_goals exact ActsOk.nil
end Go.Proofs.Ytmehkikkjebnnaa
