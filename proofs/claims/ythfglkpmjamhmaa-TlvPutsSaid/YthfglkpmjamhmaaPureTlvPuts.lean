/- What is proved here: the plain function of the law TlvPuts answers true for every tag and every body. -/
import Derived.Test.YthfglkpmjamhmaaFTlvPuts
import Derived.Test.YthfglkpmjamhmaaPlain
namespace Go.Proofs.Ythfglkpmjamhmaa.Pure
open Go.RowKit Go.Proofs.Ythfglkpmjamhmaa.Own Go.Proofs.YthfglkpmjamhmaaW.PrintWords Go.Proofs.YthfglkpmjamhmaaW.PrintLast

theorem ref_put_is (a : Int) (l : List Int) : warderref01_Put.f a l = some (putP a l) := by
  unfold warderref01_Put.f putP
  by_cases h1 : Go.bits .and .u8 a 31 = 31
  · rw [if_pos h1, if_pos h1]
  rw [if_neg h1, if_neg h1]
  by_cases h2 : 65535 < l.length
  · rw [if_pos (by omega), if_pos h2]
  rw [if_neg (by omega), if_neg h2]
  simp only [Option.bind_some]
  unfold lead
  by_cases h3 : l.length < 128
  · rw [if_pos (by omega), if_pos (by simp), if_pos (by simp; omega), if_pos h3, show (l.length : Int) % 256 = (l.length : Int) from by omega]
    rfl
  rw [if_neg (by omega), if_neg h3]
  by_cases h4 : l.length < 256
  · rw [if_pos (by omega), if_pos (by simp), if_pos (by simp; omega), if_pos h4, show (l.length : Int) % 256 = (l.length : Int) from by omega]
    rfl
  rw [if_neg (by omega), if_neg h4, if_pos (by simp), if_pos (by simp; omega), show (l.length : Int) / 256 % 256 = (l.length : Int) / 256 from by omega]
  rfl

theorem wrap_next {i : Int} {n : Nat} (h0 : 0 ≤ i) (h : i < (n : Int)) (hn : n ≤ 140737488351232) : wrap64 (i + 1) = i + 1 := by
  unfold wrap64
  omega

/-- The loop changes the own copy alone. -/
theorem puts_loop (b : List Int) (e : Int) (n : Nat) (hn : n ≤ 140737488351232) (d : Nat) : ∀ (k : Nat) (own : List Int) (i : Int), own.length = n → 0 ≤ i → i ≤ (n : Int) → (n : Int) - i = d → d < k →
    warderlaw01_TlvPuts.l0 k true own b e b e i = some true := by
  induction d with
  | zero =>
    intro k own i hl h0 h1 hd hk
    obtain ⟨k, rfl⟩ : ∃ m, k = m + 1 := ⟨k - 1, by omega⟩
    simp only [warderlaw01_TlvPuts.l0]
    rw [if_neg (by omega)]
    simp
  | succ d ih =>
    intro k own i hl h0 h1 hd hk
    obtain ⟨k, rfl⟩ : ∃ m, k = m + 1 := ⟨k - 1, by omega⟩
    simp only [warderlaw01_TlvPuts.l0]
    rw [if_pos (by omega), if_pos h0, wrap_next h0 (n := n) (by omega) hn]
    exact ih k _ (i + 1) (by simpa using hl) (by omega) (by omega) (by omega) (by omega)

theorem TlvPuts : warderlaw01_TlvPuts.Pure := by
  intro a l _ _ hn _
  refine ⟨l.length + 1, ?_⟩
  unfold warderlaw01_TlvPuts.f warderlaw01_head.f
  simp only [Option.bind_some]
  rw [if_pos (by simp; omega), show ([] ++ l : List Int) = l from rfl, put_is, ref_put_is]
  simp only [Option.bind_some]
  exact puts_loop (putP a l).1 (putP a l).2 l.length (by omega) l.length (l.length + 1) l 0 rfl (by omega) (by omega) (by omega) (by omega)

end Go.Proofs.Ythfglkpmjamhmaa.Pure
