/- What is proved here: the plain function of tlv.Put answers the error of the tag, or of the size, or else the tag, the length and the body, for every tag and body. -/
import Derived.Test.YthfglkpmjamhmaaBase
namespace Go.Proofs.Ythfglkpmjamhmaa.Own
open Go.RowKit Go.Proofs.YthfglkpmjamhmaaW.PrintWords Go.Proofs.YthfglkpmjamhmaaW.PrintLast

/-- A tag and a length. -/
def lead (a : Int) (n : Nat) : List Int :=
  if n < 128 then [a, (n : Int)] else if n < 256 then [a, 129, (n : Int)] else [a, 130, (n : Int) / 256, (n : Int) % 256]
/-- How many bytes these are. -/
def leadLen (n : Nat) : Nat := if n < 128 then 2 else if n < 256 then 3 else 4

theorem lead_length (a : Int) (n : Nat) : (lead a n).length = leadLen n := by
  unfold lead leadLen
  split
  · rfl
  · split <;> rfl

/-- A value's bytes and OK, or the error. -/
def putP (a : Int) (l : List Int) : List Int × Int :=
  if Go.bits .and .u8 a 31 = 31 then ([], 11) else if 65535 < l.length then ([], 2) else (lead a l.length ++ l, 0)

theorem put_is (a : Int) (l : List Int) : tlv_Put.f a l = some (putP a l) := by
  unfold tlv_Put.f putP
  simp only [Option.bind_some]
  by_cases h1 : Go.bits .and .u8 a 31 = 31
  · rw [if_pos h1, if_pos h1]
  rw [if_neg h1, if_neg h1]
  by_cases h2 : 65535 < l.length
  · rw [if_pos (by omega), if_pos h2]
  rw [if_neg (by omega), if_neg h2]
  unfold lead
  by_cases h3 : l.length < 128
  · rw [if_neg (by omega), if_neg (by omega), if_pos (by simp; omega), if_pos h3, show (l.length : Int) % 256 = (l.length : Int) from by omega]
  rw [if_neg h3]
  by_cases h4 : l.length < 256
  · rw [if_neg (by omega), if_pos (by omega), if_pos (by simp; omega), if_pos h4, show (l.length : Int) % 256 = (l.length : Int) from by omega]
  rw [if_neg h4, if_pos (by omega), if_pos (by simp; omega), show (l.length : Int) / 256 % 256 = (l.length : Int) / 256 from by omega]

end Go.Proofs.Ythfglkpmjamhmaa.Own
