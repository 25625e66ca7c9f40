/- What is proved here: the plain function of the law TlvSizes answers true for every tag and every body. -/
import Derived.Test.YthfglkpmjamhmaaFTlvSizes
import Derived.Test.YthfglkpmjamhmaaPlain
namespace Go.Proofs.Ythfglkpmjamhmaa.Pure
open Go.RowKit Go.Proofs.Ythfglkpmjamhmaa.Own Go.Proofs.YthfglkpmjamhmaaW.PrintWords Go.Proofs.YthfglkpmjamhmaaW.PrintLast

theorem TlvSizes : warderlaw01_TlvSizes.Pure := by
  intro a l _ _ hn _
  unfold warderlaw01_TlvSizes.f warderlaw01_head.f
  rw [put_is]
  simp only [Option.bind_some]
  unfold putP
  by_cases h1 : Go.bits .and .u8 a 31 = 31
  · rw [if_pos h1]; simp
  rw [if_neg h1]
  by_cases h2 : 65535 < l.length
  · rw [if_pos h2]; simp
  rw [if_neg h2]
  have wr : ∀ c : Int, 0 ≤ c → c ≤ 4 → wrap64 (c + (l.length : Int)) = c + (l.length : Int) := by
    intro c _ _
    unfold wrap64
    omega
  simp only [if_true]
  rw [wr 4 (by omega) (by omega), wr 3 (by omega) (by omega), wr 2 (by omega) (by omega)]
  unfold lead
  by_cases h3 : l.length < 128
  · rw [if_pos h3, if_neg (by omega), if_neg (by omega)]
    rw [if_pos (by simp; omega), if_pos (by simp; omega), if_pos (by rfl), if_pos (by simp; omega)]
    simp
  rw [if_neg h3, if_pos (by omega)]
  by_cases h4 : l.length < 256
  · rw [if_pos h4, if_neg (by omega)]
    rw [if_pos (by simp; omega), if_pos (by simp; omega), if_pos (by rfl), if_pos (by simp; omega)]
    simp
  rw [if_neg h4, if_pos (by omega)]
  rw [if_pos (by simp; omega), if_pos (by simp; omega), if_pos (by rfl), if_pos (by simp; omega)]
  simp

end Go.Proofs.Ythfglkpmjamhmaa.Pure
