/- What is proved here: a byte that is well formed lies between 0 and 255, and a tag and a length are bytes where the tag is one and the length has two bytes. -/
import Derived.Test.YthfglkpmjamhmaaPlain
import Derived.Test.YthfglkpmjamhmaaHeadPlain
namespace Go.Proofs.Ythfglkpmjamhmaa.Own
open Go.RowKit Go.Proofs.YthfglkpmjamhmaaW.PrintWords Go.Proofs.YthfglkpmjamhmaaW.PrintLast

theorem byte_bounds {x : Int} (h : (Lit.int .u8 x).wf = true) : 0 ≤ x ∧ x ≤ 255 := by
  have e1 : IntKind.u8.min = 0 := by decide
  have e2 : IntKind.u8.max = 255 := by decide
  simp [Lit.wf, e1, e2] at h
  exact h

theorem lead_bytes {a : Int} {n : Nat} (h0 : 0 ≤ a) (h1 : a ≤ 255) (hn : n ≤ 65535) : ∀ x ∈ lead a n, 0 ≤ x ∧ x ≤ 255 := by
  unfold lead
  intro x hx
  split at hx
  · simp at hx
    omega
  · split at hx
    · simp at hx
      omega
    · simp at hx
      omega

end Go.Proofs.Ythfglkpmjamhmaa.Own
