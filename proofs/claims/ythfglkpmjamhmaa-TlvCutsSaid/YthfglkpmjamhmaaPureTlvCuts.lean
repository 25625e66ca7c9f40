/- What is proved here: the plain function of the law TlvCuts answers true for every tag, every body and every cut. -/
import Derived.Test.YthfglkpmjamhmaaFTlvCuts
import Derived.Test.YthfglkpmjamhmaaReads
namespace Go.Proofs.Ythfglkpmjamhmaa.Pure
open Go.RowKit Go.Proofs.Ythfglkpmjamhmaa.Own Go.Proofs.YthfglkpmjamhmaaW.PrintWords Go.Proofs.YthfglkpmjamhmaaW.PrintLast

theorem word_low {x : Int} (h : (Lit.int .u32 x).wf = true) : 0 ≤ x := by
  have e1 : IntKind.u32.min = 0 := by decide
  simp [Lit.wf, e1] at h
  exact h.1

theorem TlvCuts : warderlaw01_TlvCuts.Pure := by
  intro a l c ha _ hn hb hc
  refine ⟨0, ?_⟩
  have h0 := word_low hc
  have hab := byte_bounds ha
  unfold warderlaw01_TlvCuts.f warderlaw01_head.f
  rw [put_is]
  simp only [Option.bind_some]
  unfold putP
  by_cases h1 : Go.bits .and .u8 a 31 = 31
  · rw [if_pos h1]; simp
  rw [if_neg h1]
  by_cases h2 : 65535 < l.length
  · rw [if_pos h2]; simp
  rw [if_neg h2]
  obtain ⟨b, hbe⟩ : ∃ b, b = lead a l.length ++ l := ⟨_, rfl⟩
  have h3 : leadLen l.length ≤ 4 := by unfold leadLen; split <;> (try split) <;> omega
  have h4 : 2 ≤ leadLen l.length := by unfold leadLen; split <;> (try split) <;> omega
  have hl : b.length = leadLen l.length + l.length := by rw [hbe, List.length_append, lead_length]
  simp only [if_true]
  rw [← hbe, if_neg (by omega), show (b.length : Int) % 4294967296 = (b.length : Int) from by omega, if_neg (by omega)]
  rw [Int.tmod_eq_emod_of_nonneg h0]
  obtain ⟨m, hm⟩ : ∃ m : Int, m = c % (b.length : Int) := ⟨_, rfl⟩
  have m0 : 0 ≤ m := by rw [hm]; exact Int.emod_nonneg _ (by omega)
  have m1 : m < (b.length : Int) := by rw [hm]; exact Int.emod_lt_of_pos _ (by omega)
  rw [← hm, show wrap64 m = m from by unfold wrap64; omega, if_pos m0, if_pos (by omega)]
  have hbb : ∀ x ∈ b, 0 ≤ x ∧ x ≤ 255 := by
    intro x hx
    rw [hbe, List.mem_append] at hx
    rcases hx with hx | hx
    · exact lead_bytes hab.1 hab.2 (by omega) x hx
    · exact byte_bounds (hb x hx)
  have hlt : (b.take m.toNat).length = m.toNat := by rw [List.length_take]; omega
  have ok : bytesOK (b.take m.toNat) = true := bytesOK_mk (by omega) fun x hx => hbb x (List.mem_of_mem_take hx)
  have hh : headP (b.take m.toNat) 0 = (0, 0, 0, 12) := by
    unfold headP
    rw [if_neg (by omega), if_neg (by omega), show (0 : Int).toNat = 0 from rfl, List.drop_zero]
    rw [head_lead a l.length h1 0 _ (fun j hj hj2 => by rw [take_getD _ _ _ hj, hbe, lead_front _ _ _ _ hj2]), if_pos (by omega)]
  unfold tlv_Head.f
  rw [if_pos ok, hh]
  simp

end Go.Proofs.Ythfglkpmjamhmaa.Pure
