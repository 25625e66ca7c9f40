/- What is proved here: within a list, a value's tag, length and body are read as that tag and that body; the tag is one, and the body has at most 65535 bytes. -/
import Derived.Test.YthfglkpmjamhmaaReads
namespace Go.Proofs.Ythfglkpmjamhmaa.Own
open Go.RowKit Go.Proofs.YthfglkpmjamhmaaW.PrintWords Go.Proofs.YthfglkpmjamhmaaW.PrintLast

theorem within_head (P : List Int) (a : Int) (l R : List Int) (ht : ¬ Go.bits .and .u8 a 31 = 31) :
    headP (P ++ (lead a l.length ++ (l ++ R))) (P.length : Int) = (a, (P.length : Int) + (leadLen l.length : Int), (P.length : Int) + (leadLen l.length : Int) + (l.length : Int), 0) := by
  unfold headP
  rw [if_neg (by omega), if_neg (by simp only [List.length_append]; omega), Int.toNat_natCast, List.drop_left]
  rw [head_lead a l.length ht _ _ (fun j _ hj => lead_front _ _ _ _ hj), if_neg (by simp only [List.length_append, lead_length]; omega)]

theorem within_body (P : List Int) (a : Int) (l R : List Int) :
    ((P ++ (lead a l.length ++ (l ++ R))).take (P.length + leadLen l.length + l.length)).drop (P.length + leadLen l.length) = l := by
  rw [List.drop_take, ← List.append_assoc, List.drop_left' (by rw [List.length_append, lead_length]), show P.length + leadLen l.length + l.length - (P.length + leadLen l.length) = l.length from by omega]
  exact List.take_left

end Go.Proofs.Ythfglkpmjamhmaa.Own
