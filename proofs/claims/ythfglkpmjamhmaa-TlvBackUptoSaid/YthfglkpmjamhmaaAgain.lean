/- What is proved here: what Head's plain function reads at the beginning of a list of bytes, Put's plain function writes again as it stands. -/
import Derived.Test.YthfglkpmjamhmaaBytes
namespace Go.Proofs.Ythfglkpmjamhmaa.Own
open Go.RowKit Go.Proofs.YthfglkpmjamhmaaW.PrintWords Go.Proofs.YthfglkpmjamhmaaW.PrintLast

theorem parts {a b c d t f o : Int} (h : (a, b, c, d) = (t, f, o, 0)) : a = t ∧ b = f ∧ c = o ∧ d = 0 := by
  injection h with h1 h2
  injection h2 with h2 h3
  injection h3 with h3 h4
  exact ⟨h1, h2, h3, h4⟩

theorem put_again (l : List Int) (ok : bytesOK l = true) (t f o : Int) (h : headP l 0 = (t, f, o, 0)) :
    0 ≤ f ∧ f ≤ o ∧ o ≤ (l.length : Int) ∧ putP t ((l.take o.toNat).drop f.toNat) = (l.take o.toNat, 0) := by
  have hb := bytesOK_mem ok
  unfold headP at h
  rw [if_neg (by omega), if_neg (by omega), show (0 : Int).toNat = 0 from rfl, List.drop_zero] at h
  unfold headL at h
  match l, hb, h with
  | [], _, h =>
    rw [if_pos (by simp)] at h
    have := (parts h).2.2.2
    omega
  | [b0], _, h =>
    rw [if_neg (by simp)] at h
    by_cases c : Go.bits .and .u8 ([b0].getD 0 0) 31 = 31
    · rw [if_pos c] at h
      have := (parts h).2.2.2
      omega
    · rw [if_neg c, if_pos (by simp)] at h
      have := (parts h).2.2.2
      omega
  | b0 :: b1 :: r, hb, h =>
    have g1 := hb b1 (by simp)
    rw [if_neg (by simp), show (b0 :: b1 :: r).getD 0 0 = b0 from rfl, show (b0 :: b1 :: r).getD 1 0 = b1 from rfl] at h
    by_cases c : Go.bits .and .u8 b0 31 = 31
    · rw [if_pos c] at h
      have := (parts h).2.2.2
      omega
    rw [if_neg c, if_neg (by simp)] at h
    by_cases c1 : b1 ≤ 127
    · rw [if_pos c1] at h
      unfold bodyP at h
      by_cases c2 : ((b0 :: b1 :: r).length : Int) - 2 < b1
      · rw [if_pos c2] at h
        have := (parts h).2.2.2
        omega
      rw [if_neg c2] at h
      obtain ⟨e1, e2, e3, _⟩ := parts h
      obtain ⟨n, rfl⟩ := Int.eq_ofNat_of_zero_le g1.1
      simp only [List.length_cons] at c2 ⊢
      subst e2 e3
      refine ⟨by omega, by omega, by omega, ?_⟩
      obtain rfl : b0 = t := e1
      rw [show (0 + 2 + (n : Int)).toNat = n + 2 from by omega, show ((0 : Int) + 2).toNat = 2 from rfl]
      rw [List.take_succ_cons, List.take_succ_cons, show List.drop 2 (b0 :: (n : Int) :: List.take n r) = List.take n r from rfl]
      have hl : (List.take n r).length = n := by rw [List.length_take]; omega
      unfold putP lead
      rw [if_neg c, hl, if_neg (by omega), if_pos (by omega)]
      rfl
    rw [if_neg c1] at h
    by_cases c3 : b1 = 129
    · rw [if_pos c3] at h
      match r, hb, h with
      | [], _, h =>
        rw [if_pos (by simp)] at h
        have := (parts h).2.2.2
        omega
      | b2 :: r, hb, h =>
        have g2 := hb b2 (by simp)
        rw [if_neg (by simp), show (b0 :: b1 :: b2 :: r).getD 2 0 = b2 from rfl] at h
        by_cases c4 : b2 < 128
        · rw [if_pos c4] at h
          have := (parts h).2.2.2
          omega
        rw [if_neg c4] at h
        unfold bodyP at h
        by_cases c2 : ((b0 :: b1 :: b2 :: r).length : Int) - 3 < b2
        · rw [if_pos c2] at h
          have := (parts h).2.2.2
          omega
        rw [if_neg c2] at h
        obtain ⟨e1, e2, e3, _⟩ := parts h
        obtain ⟨n, rfl⟩ := Int.eq_ofNat_of_zero_le g2.1
        simp only [List.length_cons] at c2 ⊢
        subst e2 e3
        refine ⟨by omega, by omega, by omega, ?_⟩
        obtain rfl : b0 = t := e1
        rw [show (0 + 3 + (n : Int)).toNat = n + 3 from by omega, show ((0 : Int) + 3).toNat = 3 from rfl]
        rw [List.take_succ_cons, List.take_succ_cons, List.take_succ_cons, show List.drop 3 (b0 :: b1 :: (n : Int) :: List.take n r) = List.take n r from rfl]
        have hl : (List.take n r).length = n := by rw [List.length_take]; omega
        unfold putP lead
        rw [if_neg c, hl, if_neg (by omega), if_neg (by omega), if_pos (by omega), c3]
        rfl
    rw [if_neg c3] at h
    by_cases c5 : b1 = 130
    · rw [if_pos c5] at h
      match r, hb, h with
      | [], _, h =>
        rw [if_pos (by simp)] at h
        have := (parts h).2.2.2
        omega
      | [b2], _, h =>
        rw [if_pos (by simp)] at h
        have := (parts h).2.2.2
        omega
      | b2 :: b3 :: r, hb, h =>
        have g2 := hb b2 (by simp)
        have g3 := hb b3 (by simp)
        rw [if_neg (by simp), show (b0 :: b1 :: b2 :: b3 :: r).getD 2 0 = b2 from rfl, show (b0 :: b1 :: b2 :: b3 :: r).getD 3 0 = b3 from rfl] at h
        obtain ⟨n, hn⟩ := Int.eq_ofNat_of_zero_le (show 0 ≤ b2 * 256 + b3 from by omega)
        have h2 : (n : Int) / 256 = b2 := by omega
        have h3 : (n : Int) % 256 = b3 := by omega
        rw [hn] at h
        by_cases c4 : (n : Int) < 256
        · rw [if_pos c4] at h
          have := (parts h).2.2.2
          omega
        rw [if_neg c4] at h
        unfold bodyP at h
        by_cases c2 : ((b0 :: b1 :: b2 :: b3 :: r).length : Int) - 4 < (n : Int)
        · rw [if_pos c2] at h
          have := (parts h).2.2.2
          omega
        rw [if_neg c2] at h
        obtain ⟨e1, e2, e3, _⟩ := parts h
        simp only [List.length_cons] at c2 ⊢
        subst e2 e3
        refine ⟨by omega, by omega, by omega, ?_⟩
        obtain rfl : b0 = t := e1
        rw [show (0 + 4 + (n : Int)).toNat = n + 4 from by omega, show ((0 : Int) + 4).toNat = 4 from rfl]
        rw [List.take_succ_cons, List.take_succ_cons, List.take_succ_cons, List.take_succ_cons, show List.drop 4 (b0 :: b1 :: b2 :: b3 :: List.take n r) = List.take n r from rfl]
        have hl : (List.take n r).length = n := by rw [List.length_take]; omega
        unfold putP lead
        rw [if_neg c, hl, if_neg (by omega), if_neg (by omega), if_neg (by omega), h2, h3, c5]
        rfl
    · rw [if_neg c5] at h
      have := (parts h).2.2.2
      omega

end Go.Proofs.Ythfglkpmjamhmaa.Own
