/- What is proved here: the plain function of the law TlvBack answers true for every tag and every three lists of bytes; each list has at most 1048576 bytes. -/
import Derived.Test.YthfglkpmjamhmaaFTlvBack
import Derived.Test.YthfglkpmjamhmaaWithin
import Derived.Test.YthfglkpmjamhmaaAgain
namespace Go.Proofs.Ythfglkpmjamhmaa.Pure
open Go.RowKit Go.Proofs.Ythfglkpmjamhmaa.Own Go.Proofs.YthfglkpmjamhmaaW.PrintWords Go.Proofs.YthfglkpmjamhmaaW.PrintLast

/-- What is read is written as it stands. -/
theorem back_again (k : Nat) (l : List Int) (ok : bytesOK l = true) : warderlaw01_TlvBack.j0 (k + 1) l true false = some true := by
  simp only [warderlaw01_TlvBack.j0]
  rw [if_neg (by decide)]
  unfold tlv_Head.f
  rw [if_pos ok]
  simp only [Option.bind_some]
  obtain ⟨⟨t, f, o, e⟩, hh⟩ : ∃ r, r = headP l 0 := ⟨_, rfl⟩
  rw [← hh]
  by_cases c : e = 0
  · subst c
    obtain ⟨h1, h2, h3, h4⟩ := put_again l ok t f o hh.symm
    rw [if_pos (by rfl), if_pos h1, if_pos h2, if_pos h3, put_is, h4]
    simp only [Option.bind_some, if_true]
    rw [if_pos (by omega)]
    simp
  · rw [if_neg c]

theorem TlvBack (l0 : List Int) (a : Int) (l2 l3 : List Int) (b0 : ∀ x ∈ l0, (Lit.int .u8 x).wf = true) (ha : (Lit.int .u8 a).wf = true) (b2 : ∀ x ∈ l2, (Lit.int .u8 x).wf = true) (b3 : ∀ x ∈ l3, (Lit.int .u8 x).wf = true)
    (n0 : l0.length ≤ 1048576) (n2 : l2.length ≤ 1048576) (n3 : l3.length ≤ 1048576) : ∃ k, warderlaw01_TlvBack.f k l0 a l2 l3 = some true := by
  have hab := byte_bounds ha
  refine ⟨1, ?_⟩
  unfold warderlaw01_TlvBack.f warderlaw01_head.f
  rw [put_is]
  simp only [Option.bind_some]
  unfold putP
  by_cases h1 : Go.bits .and .u8 a 31 = 31
  · rw [if_pos h1]; simp [h1]
  rw [if_neg h1]
  by_cases h2 : 65535 < l2.length
  · rw [if_pos h2]
    simp only [if_true]
    rw [if_neg (by decide), if_neg h1, if_pos (by omega)]
    simp
  rw [if_neg h2]
  simp only [if_true]
  have h3 : leadLen l2.length ≤ 4 := by unfold leadLen; split <;> (try split) <;> omega
  have hx : [] ++ l0 ++ (lead a l2.length ++ l2) ++ l3 = l0 ++ (lead a l2.length ++ (l2 ++ l3)) := by simp only [List.nil_append, List.append_assoc]
  rw [if_pos (by simp only [List.length_nil]; omega), if_pos (by simp only [List.length_append, List.length_nil, lead_length]; omega), if_pos (by simp only [List.length_append, List.length_nil, lead_length]; omega), hx]
  have hh := within_head l0 a l2 l3 h1
  have hb := within_body l0 a l2 l3
  obtain ⟨X, hX⟩ : ∃ X, X = l0 ++ (lead a l2.length ++ (l2 ++ l3)) := ⟨_, rfl⟩
  rw [← hX] at hh hb ⊢
  have hlen : X.length = l0.length + (leadLen l2.length + (l2.length + l3.length)) := by rw [hX]; simp only [List.length_append, lead_length]
  have hby : ∀ x ∈ X, 0 ≤ x ∧ x ≤ 255 := by
    intro x hm
    rw [hX] at hm
    simp only [List.mem_append] at hm
    rcases hm with hm | hm | hm | hm
    · exact byte_bounds (b0 x hm)
    · exact lead_bytes hab.1 hab.2 (by omega) x hm
    · exact byte_bounds (b2 x hm)
    · exact byte_bounds (b3 x hm)
  have ok : bytesOK X = true := bytesOK_mk (by omega) hby
  have ok3 : bytesOK l3 = true := bytesOK_mk (by omega) fun x hm => byte_bounds (b3 x hm)
  unfold tlv_Head.f
  rw [if_pos ok, hh]
  simp only [Option.bind_some, if_true]
  rw [show (l0.length : Int) + (leadLen l2.length : Int) + (l2.length : Int) - ((l0.length : Int) + (leadLen l2.length : Int)) = (l2.length : Int) from by omega]
  rw [if_pos (by unfold wrap64; omega), if_neg (by omega), if_neg (by omega), if_pos (by omega), if_pos (by omega), if_pos (by omega)]
  rw [show (l0.length : Int) + (leadLen l2.length : Int) + (l2.length : Int) = ((l0.length + leadLen l2.length + l2.length : Nat) : Int) from by omega]
  rw [show (l0.length : Int) + (leadLen l2.length : Int) = ((l0.length + leadLen l2.length : Nat) : Int) from by omega]
  rw [Int.toNat_natCast, Int.toNat_natCast, hb, if_pos rfl]
  have e : (((l0.length + leadLen l2.length + l2.length : Nat) : Int) != wrap64 ((l0.length : Int) + ((lead a l2.length ++ l2).length : Int))) = false := by
    rw [bne_eq_false_iff_eq, List.length_append, lead_length]
    unfold wrap64
    omega
  rw [e]
  exact back_again 0 l3 ok3

end Go.Proofs.Ythfglkpmjamhmaa.Pure
