/- What is proved here: small facts on the plain function that says what Head answers (of the program and of the reference alike), for every list of bytes and every place. -/
import Derived.Test.YthfglkpmjamhmaaBase
namespace Go.Proofs.Ythfglkpmjamhmaa.Own
open Go.RowKit Go.Proofs.YthfglkpmjamhmaaW.PrintWords Go.Proofs.YthfglkpmjamhmaaW.PrintLast

/-- Bytes, and not too many. -/
def bytesOK (l : List Int) : Bool := decide (l.length ≤ 562949953421312) && l.all fun x => decide (0 ≤ x) && decide (x ≤ 255)

/-- The body behind j bytes, n long. -/
def bodyP (a : Int) (l : List Int) (j n : Int) : Int × Int × Int × Int :=
  if (l.length : Int) - j < n then (0, 0, 0, 12) else (l.getD 0 0, a + j, a + j + n, 0)

/-- What stands at the beginning of a list, which begins at a. -/
def headL (a : Int) (l : List Int) : Int × Int × Int × Int :=
  if l.length = 0 then (0, 0, 0, 12)
  else if Go.bits .and .u8 (l.getD 0 0) 31 = 31 then (0, 0, 0, 11)
  else if l.length = 1 then (0, 0, 0, 12)
  else if l.getD 1 0 ≤ 127 then bodyP a l 2 (l.getD 1 0)
  else if l.getD 1 0 = 129 then
    if l.length < 3 then (0, 0, 0, 12) else if l.getD 2 0 < 128 then (0, 0, 0, 13) else bodyP a l 3 (l.getD 2 0)
  else if l.getD 1 0 = 130 then
    if l.length < 4 then (0, 0, 0, 12) else if l.getD 2 0 * 256 + l.getD 3 0 < 256 then (0, 0, 0, 13) else bodyP a l 4 (l.getD 2 0 * 256 + l.getD 3 0)
  else (0, 0, 0, 13)

def headP (l : List Int) (a : Int) : Int × Int × Int × Int :=
  if a < 0 then (0, 0, 0, 1) else if (l.length : Int) < a then (0, 0, 0, 1) else headL a (l.drop a.toNat)

theorem bytesOK_length {l : List Int} (h : bytesOK l = true) : l.length ≤ 562949953421312 := by
  unfold bytesOK at h
  rw [Bool.and_eq_true] at h
  exact of_decide_eq_true h.1

theorem bytesOK_mk {l : List Int} (h : l.length ≤ 562949953421312) (hb : ∀ x ∈ l, 0 ≤ x ∧ x ≤ 255) : bytesOK l = true := by
  unfold bytesOK
  rw [Bool.and_eq_true, List.all_eq_true]
  refine ⟨decide_eq_true h, fun x hx => ?_⟩
  rw [Bool.and_eq_true]
  exact ⟨decide_eq_true (hb x hx).1, decide_eq_true (hb x hx).2⟩

theorem bytesOK_mem {l : List Int} (h : bytesOK l = true) : ∀ x ∈ l, 0 ≤ x ∧ x ≤ 255 := by
  unfold bytesOK at h
  rw [Bool.and_eq_true, List.all_eq_true] at h
  intro x hx
  have := h.2 x hx
  rw [Bool.and_eq_true] at this
  exact ⟨of_decide_eq_true this.1, of_decide_eq_true this.2⟩

theorem bytesOK_getD {l : List Int} (h : bytesOK l = true) (j : Nat) : 0 ≤ l.getD j 0 ∧ l.getD j 0 ≤ 255 := by
  by_cases hj : j < l.length
  · rw [List.getD_eq_getElem?_getD, List.getElem?_eq_getElem hj, Option.getD_some]
    exact bytesOK_mem h _ (List.getElem_mem hj)
  · rw [List.getD_eq_getElem?_getD, List.getElem?_eq_none (by omega), Option.getD_none]
    omega

theorem drop_getD (l : List Int) (n j : Nat) : (l.drop n).getD j 0 = l.getD (n + j) 0 := by
  rw [List.getD_eq_getElem?_getD, List.getElem?_drop, List.getD_eq_getElem?_getD]

def tlv_Head.f (_ : Nat) (l : List Int) (a : Int) : Option (Int × Int × Int × Int) := if bytesOK l = true then some (headP l a) else none
def warderref01_Head.f (_ : Nat) (l : List Int) (a : Int) : Option (Int × Int × Int × Int) := if bytesOK l = true then some (headP l a) else none
theorem tlv_Head.mono : ∀ a0 a1 k, LeO (tlv_Head.f k a0 a1) (tlv_Head.f (k + 1) a0 a1) := fun _ _ _ => LeO.refl _
theorem warderref01_Head.mono : ∀ a0 a1 k, LeO (warderref01_Head.f k a0 a1) (warderref01_Head.f (k + 1) a0 a1) := fun _ _ _ => LeO.refl _

end Go.Proofs.Ythfglkpmjamhmaa.Own
