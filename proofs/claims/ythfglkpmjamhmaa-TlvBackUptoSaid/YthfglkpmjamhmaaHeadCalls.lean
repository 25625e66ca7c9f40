/- What is proved here: the calls of the program's Head and of the reference's Head return what the plain function headP tells, for every list of bytes and every place, and write nothing. -/
import Derived.Test.YthfglkpmjamhmaaHead
import Derived.Test.YthfglkpmjamhmaaRefHead
import Derived.Test.YthfglkpmjamhmaaHeadPlain
namespace Go.Proofs.Ythfglkpmjamhmaa.Own
open Go.RowKit Go.Proofs.YthfglkpmjamhmaaW.PrintWords Go.Proofs.YthfglkpmjamhmaaW.PrintLast

/-- A call whose answer is told in other words. -/
theorem told {n : Nat} {args : Array Value} {w : World} {r1 r2 r3 r4 s1 s2 s3 s4 : Int} (h : Calls Try.prog n args w fun e w' => e = .returned (.tuple #[.int .u8 r1, .int .i64 r2, .int .i64 r3, .int .i64 r4]) ∧ Drawn0 w w')
    (e1 : r1 = s1) (e2 : r2 = s2) (e3 : r3 = s3) (e4 : r4 = s4) : Calls Try.prog n args w fun e w' => e = .returned (.tuple #[.int .u8 s1, .int .i64 s2, .int .i64 s3, .int .i64 s4]) ∧ Drawn0 w w' := by
  subst e1 e2 e3 e4
  exact h

theorem four {a b c d a' b' c' d' : Int} (h : (a, b, c, d) = (a', b', c', d')) : a = a' ∧ b = b' ∧ c = c' ∧ d = d' := by
  injection h with h1 h2
  injection h2 with h2 h3
  injection h3 with h3 h4
  exact ⟨h1, h2, h3, h4⟩

theorem tlv_Head.calls (k : Nat) (A0 : Option Addr) (c0 : Nat) (l0 : List Int) (a1 : Int) (r1 r2 r3 r4 : Int) (w : World) (hr0 : Kd.C (Kd.int .u8) w A0 l0.length l0) (hc0 : l0.length ≤ c0) (h : tlv_Head.f k l0 a1 = some (r1, r2, r3, r4)) :
    Calls Try.prog 12 #[.slice A0 l0.length c0, .int .i64 a1] w fun e w' => e = .returned (.tuple #[.int .u8 r1, .int .i64 r2, .int .i64 r3, .int .i64 r4]) ∧ Drawn0 w w' := by
  unfold tlv_Head.f at h
  by_cases ok : bytesOK l0 = true
  case neg => rw [if_neg ok] at h; cases h
  rw [if_pos ok] at h
  replace h := Option.some.inj h
  have hmax := bytesOK_length ok
  have hB := fun j => bytesOK_getD ok j
  unfold headP at h
  by_cases h0 : a1 < 0
  · rw [if_pos h0] at h
    obtain ⟨e1, e2, e3, e4⟩ := four h
    exact told (head_neg A0 c0 l0 a1 w h0) e1 e2 e3 e4
  rw [if_neg h0] at h
  by_cases h1 : (l0.length : Int) < a1
  · rw [if_pos h1] at h
    obtain ⟨e1, e2, e3, e4⟩ := four h
    exact told (head_out A0 c0 l0 a1 w h0 h1) e1 e2 e3 e4
  rw [if_neg h1] at h
  obtain ⟨l, hl⟩ : ∃ l, l = l0.drop a1.toNat := ⟨_, rfl⟩
  rw [← hl] at h
  have hlen : l.length + a1.toNat = l0.length := by subst hl; simp only [List.length_drop]; omega
  have hbl : ∀ j, 0 ≤ l.getD j 0 ∧ l.getD j 0 ≤ 255 := fun j => by rw [hl, drop_getD]; exact hB _
  have htag : rd l0 a1 = l.getD 0 0 := by rw [hl, drop_getD]; rfl
  unfold headL at h
  by_cases c1 : l.length = 0
  · rw [if_pos c1] at h
    obtain ⟨e1, e2, e3, e4⟩ := four h
    exact told (head_empty A0 c0 l0 a1 w hr0 hc0 (by omega) (by omega) l hl c1) e1 e2 e3 e4
  rw [if_neg c1] at h
  by_cases c2 : Go.bits .and .u8 (l.getD 0 0) 31 = 31
  · rw [if_pos c2] at h
    obtain ⟨e1, e2, e3, e4⟩ := four h
    exact told (head_tag A0 c0 l0 a1 w hr0 hc0 (by omega) (by omega) l hl (by omega) c2) e1 e2 e3 e4
  rw [if_neg c2] at h
  by_cases c3 : l.length = 1
  · rw [if_pos c3] at h
    obtain ⟨e1, e2, e3, e4⟩ := four h
    exact told (head_one A0 c0 l0 a1 w hr0 hc0 (by omega) (by omega) l hl c3 c2) e1 e2 e3 e4
  rw [if_neg c3] at h
  have hm : (l.drop 2).length + 2 = l.length := by simp only [List.length_drop]; omega
  have g1 := hbl 1
  have p1 : 0 ≤ a1 := by omega
  have p2 : a1 ≤ (l0.length : Int) := by omega
  have p3 : a1 < (l0.length : Int) := by omega
  by_cases c4 : l.getD 1 0 ≤ 127
  · rw [if_pos c4] at h
    unfold bodyP at h
    by_cases c5 : (l.length : Int) - 2 < l.getD 1 0
    · rw [if_pos c5] at h
      obtain ⟨e1, e2, e3, e4⟩ := four h
      exact told (head_s_short A0 c0 l0 a1 w hr0 hc0 p1 p2 l hl (by omega) c2 _ rfl _ rfl g1.1 g1.2 c4 (by omega)) e1 e2 e3 e4
    rw [if_neg c5] at h
    obtain ⟨e1, e2, e3, e4⟩ := four h
    exact told (head_s_ok A0 c0 l0 a1 w hr0 hc0 p1 p3 (by omega) l hl (by omega) c2 _ rfl _ rfl g1.1 g1.2 c4 _ rfl (by omega)) (htag.trans e1) (by omega) (by omega) e4
  rw [if_neg c4] at h
  have m0 : (l.drop 2).getD 0 0 = l.getD 2 0 := drop_getD l 2 0
  have m1 : (l.drop 2).getD 1 0 = l.getD 3 0 := drop_getD l 2 1
  have g2 := hbl 2
  have g3 := hbl 3
  by_cases c6 : l.getD 1 0 = 129
  · rw [if_pos c6] at h
    by_cases c7 : l.length < 3
    · rw [if_pos c7] at h
      obtain ⟨e1, e2, e3, e4⟩ := four h
      exact told (head_81_none A0 c0 l0 a1 w hr0 hc0 p1 p2 l hl (by omega) c2 _ rfl _ rfl g1.1 g1.2 c6 (by omega)) e1 e2 e3 e4
    rw [if_neg c7] at h
    have hk : ((l.drop 2).drop 1).length + 3 = l.length := by simp only [List.length_drop]; omega
    by_cases c8 : l.getD 2 0 < 128
    · rw [if_pos c8] at h
      obtain ⟨e1, e2, e3, e4⟩ := four h
      exact told (head_81_least A0 c0 l0 a1 w hr0 hc0 p1 p2 l hl (by omega) c2 _ rfl _ rfl g1.1 g1.2 c6 (by omega) _ rfl _ m0.symm g2.1 g2.2 c8) e1 e2 e3 e4
    rw [if_neg c8] at h
    unfold bodyP at h
    by_cases c9 : (l.length : Int) - 3 < l.getD 2 0
    · rw [if_pos c9] at h
      obtain ⟨e1, e2, e3, e4⟩ := four h
      exact told (head_81_short A0 c0 l0 a1 w hr0 hc0 p1 p2 l hl (by omega) c2 _ rfl _ rfl g1.1 g1.2 c6 (by omega) _ rfl _ m0.symm g2.1 g2.2 (by omega) (by omega)) e1 e2 e3 e4
    rw [if_neg c9] at h
    obtain ⟨e1, e2, e3, e4⟩ := four h
    exact told (head_81_ok A0 c0 l0 a1 w hr0 hc0 p1 p3 (by omega) l hl (by omega) c2 _ rfl _ rfl g1.1 g1.2 c6 (by omega) _ rfl _ m0.symm g2.1 g2.2 (by omega) (by omega)) (htag.trans e1) (by omega) (by omega) e4
  rw [if_neg c6] at h
  by_cases c7 : l.getD 1 0 = 130
  · rw [if_pos c7] at h
    by_cases c8 : l.length < 4
    · rw [if_pos c8] at h
      obtain ⟨e1, e2, e3, e4⟩ := four h
      exact told (head_82_none A0 c0 l0 a1 w hr0 hc0 p1 p2 l hl (by omega) c2 _ rfl _ rfl g1.1 g1.2 c7 (by omega)) e1 e2 e3 e4
    rw [if_neg c8] at h
    have hk : ((l.drop 2).drop 2).length + 4 = l.length := by simp only [List.length_drop]; omega
    by_cases c9 : l.getD 2 0 * 256 + l.getD 3 0 < 256
    · rw [if_pos c9] at h
      obtain ⟨e1, e2, e3, e4⟩ := four h
      exact told (head_82_least A0 c0 l0 a1 w hr0 hc0 p1 p2 l hl (by omega) c2 _ rfl _ rfl g1.1 g1.2 c7 (by omega) _ rfl _ m0.symm g2.1 g2.2 _ m1.symm g3.1 g3.2 c9) e1 e2 e3 e4
    rw [if_neg c9] at h
    unfold bodyP at h
    by_cases c10 : (l.length : Int) - 4 < l.getD 2 0 * 256 + l.getD 3 0
    · rw [if_pos c10] at h
      obtain ⟨e1, e2, e3, e4⟩ := four h
      exact told (head_82_short A0 c0 l0 a1 w hr0 hc0 p1 p2 l hl (by omega) c2 _ rfl _ rfl g1.1 g1.2 c7 (by omega) _ rfl _ m0.symm g2.1 g2.2 _ m1.symm g3.1 g3.2 (by omega) (by omega)) e1 e2 e3 e4
    rw [if_neg c10] at h
    obtain ⟨e1, e2, e3, e4⟩ := four h
    exact told (head_82_ok A0 c0 l0 a1 w hr0 hc0 p1 p3 (by omega) l hl (by omega) c2 _ rfl _ rfl g1.1 g1.2 c7 (by omega) _ rfl _ m0.symm g2.1 g2.2 _ m1.symm g3.1 g3.2 (by omega) (by omega)) (htag.trans e1) (by omega) (by omega) e4
  rw [if_neg c7] at h
  obtain ⟨e1, e2, e3, e4⟩ := four h
  exact told (head_bad A0 c0 l0 a1 w hr0 hc0 p1 p2 l hl (by omega) c2 _ rfl _ rfl g1.1 g1.2 (by omega) c6 c7) e1 e2 e3 e4

theorem warderref01_Head.calls (k : Nat) (A0 : Option Addr) (c0 : Nat) (l0 : List Int) (a1 : Int) (r1 r2 r3 r4 : Int) (w : World) (hr0 : Kd.C (Kd.int .u8) w A0 l0.length l0) (hc0 : l0.length ≤ c0) (h : warderref01_Head.f k l0 a1 = some (r1, r2, r3, r4)) :
    Calls Try.prog 13 #[.slice A0 l0.length c0, .int .i64 a1] w fun e w' => e = .returned (.tuple #[.int .u8 r1, .int .i64 r2, .int .i64 r3, .int .i64 r4]) ∧ Drawn0 w w' := by
  unfold warderref01_Head.f at h
  by_cases ok : bytesOK l0 = true
  case neg => rw [if_neg ok] at h; cases h
  rw [if_pos ok] at h
  replace h := Option.some.inj h
  have hmax := bytesOK_length ok
  have hB := fun j => bytesOK_getD ok j
  unfold headP at h
  by_cases h0 : a1 < 0
  · rw [if_pos h0] at h
    obtain ⟨e1, e2, e3, e4⟩ := four h
    exact told (ref_neg A0 c0 l0 a1 w h0) e1 e2 e3 e4
  rw [if_neg h0] at h
  by_cases h1 : (l0.length : Int) < a1
  · rw [if_pos h1] at h
    obtain ⟨e1, e2, e3, e4⟩ := four h
    exact told (ref_out A0 c0 l0 a1 w h0 h1) e1 e2 e3 e4
  rw [if_neg h1] at h
  obtain ⟨l, hl⟩ : ∃ l, l = l0.drop a1.toNat := ⟨_, rfl⟩
  rw [← hl] at h
  have hlen : l.length + a1.toNat = l0.length := by subst hl; simp only [List.length_drop]; omega
  have hbl : ∀ j, 0 ≤ l.getD j 0 ∧ l.getD j 0 ≤ 255 := fun j => by rw [hl, drop_getD]; exact hB _
  have p1 : 0 ≤ a1 := by omega
  have p2 : a1 ≤ (l0.length : Int) := by omega
  have p3 : (l0.length : Int) ≤ 562949953421312 := by omega
  unfold headL at h
  by_cases c1 : l.length = 0
  · rw [if_pos c1] at h
    obtain ⟨e1, e2, e3, e4⟩ := four h
    exact told (ref_empty A0 c0 l0 a1 w hr0 hc0 p1 p2 p3 l hl c1) e1 e2 e3 e4
  rw [if_neg c1] at h
  by_cases c2 : Go.bits .and .u8 (l.getD 0 0) 31 = 31
  · rw [if_pos c2] at h
    obtain ⟨e1, e2, e3, e4⟩ := four h
    exact told (ref_tag A0 c0 l0 a1 w hr0 hc0 p1 p2 p3 l hl (by omega) c2) e1 e2 e3 e4
  rw [if_neg c2] at h
  by_cases c3 : l.length = 1
  · rw [if_pos c3] at h
    obtain ⟨e1, e2, e3, e4⟩ := four h
    exact told (ref_one A0 c0 l0 a1 w hr0 hc0 p1 p2 p3 l hl c3 c2) e1 e2 e3 e4
  rw [if_neg c3] at h
  have g1 := hbl 1
  have g2 := hbl 2
  have g3 := hbl 3
  by_cases c4 : l.getD 1 0 ≤ 127
  · rw [if_pos c4] at h
    unfold bodyP at h
    by_cases c5 : (l.length : Int) - 2 < l.getD 1 0
    · rw [if_pos c5] at h
      obtain ⟨e1, e2, e3, e4⟩ := four h
      exact told (ref_s_short A0 c0 l0 a1 w hr0 hc0 p1 p2 p3 l hl (by omega) c2 _ rfl g1.1 g1.2 c4 c5) e1 e2 e3 e4
    rw [if_neg c5] at h
    obtain ⟨e1, e2, e3, e4⟩ := four h
    exact told (ref_s_ok A0 c0 l0 a1 w hr0 hc0 p1 p2 p3 l hl (by omega) c2 _ rfl g1.1 g1.2 c4 (by omega)) e1 e2 e3 e4
  rw [if_neg c4] at h
  by_cases c6 : l.getD 1 0 = 129
  · rw [if_pos c6] at h
    by_cases c7 : l.length < 3
    · rw [if_pos c7] at h
      obtain ⟨e1, e2, e3, e4⟩ := four h
      exact told (ref_81_none A0 c0 l0 a1 w hr0 hc0 p1 p2 p3 l hl (by omega) c2 c6.symm c7) e1 e2 e3 e4
    rw [if_neg c7] at h
    by_cases c8 : l.getD 2 0 < 128
    · rw [if_pos c8] at h
      obtain ⟨e1, e2, e3, e4⟩ := four h
      exact told (ref_81_least A0 c0 l0 a1 w hr0 hc0 p1 p2 p3 l hl (by omega) c2 c6.symm (by omega) _ rfl g2.1 g2.2 c8) e1 e2 e3 e4
    rw [if_neg c8] at h
    unfold bodyP at h
    by_cases c9 : (l.length : Int) - 3 < l.getD 2 0
    · rw [if_pos c9] at h
      obtain ⟨e1, e2, e3, e4⟩ := four h
      exact told (ref_81_short A0 c0 l0 a1 w hr0 hc0 p1 p2 p3 l hl (by omega) c2 c6.symm (by omega) _ rfl g2.1 g2.2 (by omega) c9) e1 e2 e3 e4
    rw [if_neg c9] at h
    obtain ⟨e1, e2, e3, e4⟩ := four h
    exact told (ref_81_ok A0 c0 l0 a1 w hr0 hc0 p1 p2 p3 l hl (by omega) c2 c6.symm (by omega) _ rfl g2.1 g2.2 (by omega) (by omega)) e1 (by omega) (by omega) e4
  rw [if_neg c6] at h
  by_cases c7 : l.getD 1 0 = 130
  · rw [if_pos c7] at h
    by_cases c8 : l.length < 4
    · rw [if_pos c8] at h
      obtain ⟨e1, e2, e3, e4⟩ := four h
      exact told (ref_82_none A0 c0 l0 a1 w hr0 hc0 p1 p2 p3 l hl (by omega) c2 c7.symm c8) e1 e2 e3 e4
    rw [if_neg c8] at h
    by_cases c9 : l.getD 2 0 * 256 + l.getD 3 0 < 256
    · rw [if_pos c9] at h
      obtain ⟨e1, e2, e3, e4⟩ := four h
      exact told (ref_82_least A0 c0 l0 a1 w hr0 hc0 p1 p2 p3 l hl (by omega) c2 c7.symm (by omega) _ rfl g2.1 g2.2 _ rfl g3.1 g3.2 c9) e1 e2 e3 e4
    rw [if_neg c9] at h
    unfold bodyP at h
    by_cases c10 : (l.length : Int) - 4 < l.getD 2 0 * 256 + l.getD 3 0
    · rw [if_pos c10] at h
      obtain ⟨e1, e2, e3, e4⟩ := four h
      exact told (ref_82_short A0 c0 l0 a1 w hr0 hc0 p1 p2 p3 l hl (by omega) c2 c7.symm (by omega) _ rfl g2.1 g2.2 _ rfl g3.1 g3.2 (by omega) c10) e1 e2 e3 e4
    rw [if_neg c10] at h
    obtain ⟨e1, e2, e3, e4⟩ := four h
    exact told (ref_82_ok A0 c0 l0 a1 w hr0 hc0 p1 p2 p3 l hl (by omega) c2 c7.symm (by omega) _ rfl g2.1 g2.2 _ rfl g3.1 g3.2 (by omega) (by omega)) e1 (by omega) (by omega) e4
  rw [if_neg c7] at h
  obtain ⟨e1, e2, e3, e4⟩ := four h
  by_cases c8 : l.getD 1 0 = 128
  · exact told (ref_128 A0 c0 l0 a1 w hr0 hc0 p1 p2 p3 l hl (by omega) c2 _ rfl g1.1 g1.2 c8) e1 e2 e3 e4
  exact told (ref_big A0 c0 l0 a1 w hr0 hc0 p1 p2 p3 l hl (by omega) c2 _ rfl g1.1 g1.2 (by omega)) e1 e2 e3 e4

end Go.Proofs.Ythfglkpmjamhmaa.Own
