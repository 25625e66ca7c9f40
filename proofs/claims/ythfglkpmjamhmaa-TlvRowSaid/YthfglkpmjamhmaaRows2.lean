/- What is proved here: a slice of slices of bytes that came in, as the form reads it, is a row of lists of bytes as the contracts read it. -/
import Derived.Test.YthfglkpmjamhmaaBase
import Derived.Deep.Matrix
namespace Go.Proofs.Ythfglkpmjamhmaa.Own
open Go.RowKit Go.Proofs.YthfglkpmjamhmaaW.PrintWords Go.Proofs.YthfglkpmjamhmaaW.PrintLast

/-- Rows of bytes, as the form opens them. -/
theorem rows_read {w : World} {a : Addr} {len cap : Nat} {A : Nat → Option Addr} {L C : Nat → Nat} {Z : Nat → List Int} (hl : len ≤ cap) (hm : cap ≤ maxLen)
    (h : ∀ r, r < cap → w.cell? (a.add r) = some (.slice (A r) (L r) (C r)) ∧ L r ≤ C r ∧ C r ≤ maxLen ∧ (Z r).length = C r ∧ (∀ n ∈ Z r, (Lit.int .u8 n).wf = true) ∧ (A r = none → C r = 0) ∧
        ∀ a', A r = some a' → ∀ c, c < C r → w.cell? (a'.add c) = some (.int .u8 ((Z r).getD c 0))) :
    ∃ l : List (List Int), len = l.length ∧ Kd.C (Kd.slice 5 (Kd.int .u8)) w (some a) l.length l ∧ ∀ x ∈ l, ∀ b ∈ x, (Lit.int .u8 b).wf = true := by
  unfold maxLen at hm
  refine ⟨(List.range len).map fun r => (Z r).take (L r), by simp, ?_, ?_⟩
  · refine ⟨rfl, by simp; omega, fun _ => ⟨a, rfl, fun j p hj => ?_⟩⟩
    rw [List.getElem?_map, Option.map_eq_some_iff] at hj
    obtain ⟨r, hr, rfl⟩ := hj
    rw [List.getElem?_eq_some_iff] at hr
    obtain ⟨hlt, hr⟩ := hr
    rw [List.length_range] at hlt
    rw [List.getElem_range] at hr
    subst hr
    obtain ⟨hc, h1, h2, h3, h4, h5, h6⟩ := h j (by omega)
    have hxl : ((Z j).take (L j)).length = L j := by rw [List.length_take]; omega
    refine ⟨[.slice (A j) (L j) (C j)], rfl, ⟨A j, C j, by rw [hxl], by rw [hxl]; exact h1, ?_⟩, fun i u hu => ?_⟩
    · refine Kd.C_of_reads (d := (0 : Int)) (h1 := fun _ => rfl) ⟨rfl, by rw [hxl]; unfold maxLen at h2; omega, fun hpos => ?_⟩
      rw [hxl] at hpos
      cases hA : A j with
      | none => have := h5 hA; omega
      | some a' =>
        refine ⟨a', rfl, fun i hi => ?_⟩
        rw [hxl] at hi
        rw [h6 a' hA i (by omega)]
        rw [List.getD_eq_getElem?_getD, List.getD_eq_getElem?_getD, List.getElem?_take, if_pos hi]
    · match i, hu with
      | 0, hu =>
        obtain rfl : .slice (A j) (L j) (C j) = u := Option.some.inj hu
        show w.cell? (a.add (j * 1 + 0)) = _
        rw [Nat.mul_one, Nat.add_zero]
        exact hc
  · intro x hx b hb
    rw [List.mem_map] at hx
    obtain ⟨r, hr, rfl⟩ := hx
    rw [List.mem_range] at hr
    exact (h r (by omega)).2.2.2.2.1 b (List.mem_of_mem_take hb)

/-- No row at all. -/
theorem rows_none (w : World) : Kd.C (Kd.slice 5 (Kd.int .u8)) w none ([] : List (List Int)).length [] := Kd.C_nil _ _

end Go.Proofs.Ythfglkpmjamhmaa.Own
