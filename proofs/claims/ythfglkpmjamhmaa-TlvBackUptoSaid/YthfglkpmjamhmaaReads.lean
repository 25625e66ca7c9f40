/- What is proved here: of a list that begins as a value's tag and length, or as a part of these, Head's plain function tells the tag and the body's places, or that it ends too early; the tag is one, and the body has at most 65535 bytes. -/
import Derived.Test.YthfglkpmjamhmaaBytes
namespace Go.Proofs.Ythfglkpmjamhmaa.Own
open Go.RowKit Go.Proofs.YthfglkpmjamhmaaW.PrintWords Go.Proofs.YthfglkpmjamhmaaW.PrintLast

theorem head_lead (a : Int) (n : Nat) (ht : ¬ Go.bits .and .u8 a 31 = 31) (p : Int) (L : List Int)
    (h : ∀ j, j < L.length → j < leadLen n → L.getD j 0 = (lead a n).getD j 0) :
    headL p L = if (L.length : Int) < (leadLen n : Int) + (n : Int) then (0, 0, 0, 12) else (a, p + (leadLen n : Int), p + (leadLen n : Int) + (n : Int), 0) := by
  unfold headL
  have h2 : 2 ≤ leadLen n := by unfold leadLen; split <;> (try split) <;> omega
  by_cases c1 : L.length = 0
  · rw [if_pos c1, if_pos (by omega)]
  rw [if_neg c1]
  have e0 : L.getD 0 0 = a := by
    rw [h 0 (by omega) (by omega)]
    unfold lead
    split
    · rfl
    · split <;> rfl
  rw [e0, if_neg ht]
  by_cases c2 : L.length = 1
  · rw [if_pos c2, if_pos (by omega)]
  rw [if_neg c2]
  have e1 := h 1 (by omega) (by omega)
  by_cases c3 : n < 128
  · have hl : leadLen n = 2 := if_pos c3
    have e : L.getD 1 0 = (n : Int) := by
      rw [e1]
      unfold lead
      rw [if_pos c3]
      rfl
    rw [e, if_pos (by omega), hl]
    unfold bodyP
    by_cases c4 : (L.length : Int) - 2 < (n : Int)
    · rw [if_pos c4, if_pos (by omega)]
    · rw [if_neg c4, if_neg (by omega), e0]
      rfl
  by_cases c4 : n < 256
  · have hl : leadLen n = 3 := by unfold leadLen; rw [if_neg c3, if_pos c4]
    have el : lead a n = [a, 129, (n : Int)] := by unfold lead; rw [if_neg c3, if_pos c4]
    have e : L.getD 1 0 = 129 := by rw [e1, el]; rfl
    rw [e, if_neg (by omega), if_pos rfl, hl]
    by_cases c5 : L.length < 3
    · rw [if_pos c5, if_pos (by omega)]
    have e2 : L.getD 2 0 = (n : Int) := by rw [h 2 (by omega) (by omega), el]; rfl
    rw [if_neg c5, e2, if_neg (by omega)]
    unfold bodyP
    by_cases c6 : (L.length : Int) - 3 < (n : Int)
    · rw [if_pos c6, if_pos (by omega)]
    · rw [if_neg c6, if_neg (by omega), e0]
      rfl
  have hl : leadLen n = 4 := by unfold leadLen; rw [if_neg c3, if_neg c4]
  have el : lead a n = [a, 130, (n : Int) / 256, (n : Int) % 256] := by unfold lead; rw [if_neg c3, if_neg c4]
  have e : L.getD 1 0 = 130 := by rw [e1, el]; rfl
  rw [e, if_neg (by omega), if_neg (by omega), if_pos rfl, hl]
  by_cases c5 : L.length < 4
  · rw [if_pos c5, if_pos (by omega)]
  have e2 : L.getD 2 0 = (n : Int) / 256 := by rw [h 2 (by omega) (by omega), el]; rfl
  have e3 : L.getD 3 0 = (n : Int) % 256 := by rw [h 3 (by omega) (by omega), el]; rfl
  have es : (n : Int) / 256 * 256 + (n : Int) % 256 = (n : Int) := by omega
  rw [if_neg c5, e2, e3, es, if_neg (by omega)]
  unfold bodyP
  by_cases c6 : (L.length : Int) - 4 < (n : Int)
  · rw [if_pos c6, if_pos (by omega)]
  · rw [if_neg c6, if_neg (by omega), e0]
    rfl

/-- A list that goes on behind a tag and a length. -/
theorem lead_front (a : Int) (n : Nat) (r : List Int) (j : Nat) (hj : j < leadLen n) : (lead a n ++ r).getD j 0 = (lead a n).getD j 0 := by
  rw [List.getD_eq_getElem?_getD, List.getD_eq_getElem?_getD, List.getElem?_append_left (by rw [lead_length]; exact hj)]

theorem take_getD (l : List Int) (c j : Nat) (hj : j < (l.take c).length) : (l.take c).getD j 0 = l.getD j 0 := by
  rw [List.length_take] at hj
  rw [List.getD_eq_getElem?_getD, List.getD_eq_getElem?_getD, List.getElem?_take, if_pos (by omega)]

end Go.Proofs.Ythfglkpmjamhmaa.Own
