/- What is proved here: the plain function of the law TlvRow answers true for every tag and every list of bodies whose elements are bytes. -/
import Derived.Test.YthfglkpmjamhmaaFTlvRow
import Derived.Test.YthfglkpmjamhmaaWithin
namespace Go.Proofs.Ythfglkpmjamhmaa.Pure
open Go.RowKit Go.Proofs.Ythfglkpmjamhmaa.Own Go.Proofs.YthfglkpmjamhmaaW.PrintWords Go.Proofs.YthfglkpmjamhmaaW.PrintLast

/-- Values, one behind the other. -/
def flat (a : Int) : List (List Int) → List Int
  | [] => []
  | l :: r => lead a l.length ++ (l ++ flat a r)

theorem flat_append (a : Int) (xs ys : List (List Int)) : flat a (xs ++ ys) = flat a xs ++ flat a ys := by
  induction xs with
  | nil => rfl
  | cons l r ih => simp only [List.cons_append, flat, ih, List.append_assoc]

theorem flat_split (a : Int) (xs : List (List Int)) (j : Nat) (hj : j < xs.length) : flat a xs = flat a (xs.take j) ++ (lead a xs[j].length ++ (xs[j] ++ flat a (xs.drop (j + 1)))) := by
  have e : xs = xs.take j ++ xs[j] :: xs.drop (j + 1) := by rw [List.getElem_cons_drop, List.take_append_drop]
  have := congrArg (flat a) e
  rwa [flat_append] at this

theorem flat_next (a : Int) (xs : List (List Int)) (j : Nat) (hj : j < xs.length) : flat a (xs.take (j + 1)) = flat a (xs.take j) ++ (lead a xs[j].length ++ xs[j]) := by
  rw [List.take_succ_eq_append_getElem hj, flat_append]
  simp [flat]

theorem flat_bytes (a : Int) (h0 : 0 ≤ a) (h1 : a ≤ 255) (xs : List (List Int)) (hl : ∀ l ∈ xs, l.length ≤ 65535) (hb : ∀ l ∈ xs, ∀ x ∈ l, 0 ≤ x ∧ x ≤ 255) : ∀ x ∈ flat a xs, 0 ≤ x ∧ x ≤ 255 := by
  induction xs with
  | nil => intro x hx; simp [flat] at hx
  | cons l r ih =>
    intro x hx
    simp only [flat, List.mem_append] at hx
    rcases hx with hx | hx | hx
    · exact lead_bytes h0 h1 (hl l (by simp)) x hx
    · exact hb l (by simp) x hx
    · exact ih (fun m hm => hl m (by simp [hm])) (fun m hm => hb m (by simp [hm])) x hx

theorem flat_length (a : Int) (xs : List (List Int)) (hl : ∀ l ∈ xs, l.length ≤ 65535) : (flat a xs).length ≤ xs.length * 65539 := by
  induction xs with
  | nil => simp [flat]
  | cons l r ih =>
    have h1 := hl l (by simp)
    have h2 := ih (fun m hm => hl m (by simp [hm]))
    have h3 : leadLen l.length ≤ 4 := by unfold leadLen; split <;> (try split) <;> omega
    simp only [flat, List.length_append, lead_length, List.length_cons]
    omega

theorem read_at (xs : List (List Int)) (j : Nat) (hj : j < xs.length) : rd_L1 xs (j : Int) = xs[j] := by
  unfold rd_L1
  rw [Int.toNat_natCast, List.getD_eq_getElem?_getD, List.getElem?_eq_getElem hj, Option.getD_some]

/-- The second loop: each value is read. -/
theorem row_reads (a : Int) (ht : ¬ Go.bits .and .u8 a 31 = 31) (xs : List (List Int)) (hn : xs.length ≤ 100) (ok : bytesOK (flat a xs) = true) (d : Nat) :
    ∀ (k j : Nat), j ≤ xs.length → xs.length - j = d → d < k → warderlaw01_TlvRow.l1 k a xs true (flat a xs) ((flat a (xs.take j)).length : Int) (j : Int) = some true := by
  induction d with
  | zero =>
    intro k j h0 hd hk
    obtain ⟨k, rfl⟩ : ∃ m, k = m + 1 := ⟨k - 1, by omega⟩
    obtain rfl : j = xs.length := by omega
    simp only [warderlaw01_TlvRow.l1]
    rw [if_neg (by omega), List.take_length]
    simp
  | succ d ih =>
    intro k j h0 hd hk
    obtain ⟨k, rfl⟩ : ∃ m, k = m + 1 := ⟨k - 1, by omega⟩
    have hj : j < xs.length := by omega
    have hs := flat_split a xs j hj
    have hx := flat_next a xs j hj
    have hh := within_head (flat a (xs.take j)) a xs[j] (flat a (xs.drop (j + 1))) ht
    have hb := within_body (flat a (xs.take j)) a xs[j] (flat a (xs.drop (j + 1)))
    rw [← hs] at hh hb
    have hlen : (flat a xs).length = (flat a (xs.take j)).length + (leadLen xs[j].length + (xs[j].length + (flat a (xs.drop (j + 1))).length)) := by
      rw [hs]
      simp only [List.length_append, lead_length]
    have hnext : (flat a (xs.take (j + 1))).length = (flat a (xs.take j)).length + leadLen xs[j].length + xs[j].length := by
      rw [hx]
      simp only [List.length_append, lead_length]
      omega
    have again := ih k (j + 1) (by omega) (by omega) (by omega)
    simp only [warderlaw01_TlvRow.l1]
    rw [if_pos (by omega)]
    unfold tlv_Head.f
    rw [if_pos ok, hh]
    simp only [Option.bind_some]
    rw [if_pos trivial, if_pos trivial, if_neg (by omega), if_neg (by omega), if_pos (by omega), if_pos (by omega), if_pos (by omega), if_pos (by omega), read_at xs j hj]
    rw [show ((flat a (xs.take j)).length : Int) + (leadLen xs[j].length : Int) + (xs[j].length : Int) = ((flat a (xs.take (j + 1))).length : Int) from by omega]
    rw [show ((flat a (xs.take j)).length : Int) + (leadLen xs[j].length : Int) = (((flat a (xs.take j)).length + leadLen xs[j].length : Nat) : Int) from by omega]
    rw [Int.toNat_natCast, Int.toNat_natCast, hnext, hb, if_pos (by rfl), ← hnext]
    rw [show wrap64 ((j : Int) + 1) = ((j + 1 : Nat) : Int) from by unfold wrap64; omega]
    exact again

/-- The first loop: the values are written one behind the other, or an error ends it. -/
theorem row_writes (a : Int) (h0 : 0 ≤ a) (h1 : a ≤ 255) (xs : List (List Int)) (hn : xs.length ≤ 100) (hb : ∀ l ∈ xs, ∀ x ∈ l, 0 ≤ x ∧ x ≤ 255) (d : Nat) :
    ∀ (k j : Nat), j ≤ xs.length → xs.length - j = d → d + xs.length + 1 < k → (∀ l ∈ xs.take j, l.length ≤ 65535) → (0 < j → ¬ Go.bits .and .u8 a 31 = 31) → warderlaw01_TlvRow.l0 k a xs true (flat a (xs.take j)) (j : Int) = some true := by
  induction d with
  | zero =>
    intro k j hj hd hk hl ht
    obtain ⟨k, rfl⟩ : ∃ m, k = m + 1 := ⟨k - 1, by omega⟩
    obtain rfl : j = xs.length := by omega
    rw [List.take_length] at hl ⊢
    simp only [warderlaw01_TlvRow.l0]
    rw [if_neg (by omega)]
    have hfl := flat_length a xs hl
    by_cases hz : xs.length = 0
    · obtain rfl : xs = [] := List.length_eq_zero_iff.1 hz
      obtain ⟨k, rfl⟩ : ∃ m, k = m + 1 := ⟨k - 1, by omega⟩
      simp [warderlaw01_TlvRow.l1, flat]
    · have := row_reads a (ht (by omega)) xs hn (bytesOK_mk (by omega) (flat_bytes a h0 h1 xs hl hb)) xs.length k 0 (by omega) (by omega) (by omega)
      simpa [flat] using this
  | succ d ih =>
    intro k j hj hd hk hl ht
    obtain ⟨k, rfl⟩ : ∃ m, k = m + 1 := ⟨k - 1, by omega⟩
    have hjl : j < xs.length := by omega
    simp only [warderlaw01_TlvRow.l0]
    rw [if_pos (by omega), if_pos (by omega), read_at xs j hjl, put_is]
    simp only [Option.bind_some]
    unfold putP
    by_cases c1 : Go.bits .and .u8 a 31 = 31
    · rw [if_pos c1]; simp
    rw [if_neg c1]
    by_cases c2 : 65535 < xs[j].length
    · rw [if_pos c2]; simp
    rw [if_neg c2, if_pos (by rfl)]
    by_cases c3 : ((flat a (xs.take j)).length : Int) > 300000
    · rw [if_pos c3]
    have h3 : leadLen xs[j].length ≤ 4 := by unfold leadLen; split <;> (try split) <;> omega
    rw [if_neg c3, if_pos (by simp only [List.length_append, lead_length]; omega), ← flat_next a xs j hjl]
    rw [show wrap64 ((j : Int) + 1) = ((j + 1 : Nat) : Int) from by unfold wrap64; omega]
    refine ih k (j + 1) (by omega) (by omega) (by omega) (fun l hm => ?_) (fun _ => c1)
    rw [List.take_succ_eq_append_getElem hjl, List.mem_append] at hm
    rcases hm with hm | hm
    · exact hl l hm
    · obtain rfl : l = xs[j] := by simpa using hm
      omega

theorem TlvRow (a : Int) (xs : List (List Int)) (ha : (Lit.int .u8 a).wf = true) (hb : ∀ l ∈ xs, ∀ x ∈ l, (Lit.int .u8 x).wf = true) : ∃ k, warderlaw01_TlvRow.f k a xs = some true := by
  have hab := byte_bounds ha
  refine ⟨2 * xs.length + 2, ?_⟩
  unfold warderlaw01_TlvRow.f warderlaw01_head.f
  simp only [Option.bind_some]
  by_cases c : (xs.length : Int) > 100
  · rw [if_pos c]
  rw [if_neg c]
  exact row_writes a hab.1 hab.2 xs (by omega) (fun l hl x hx => byte_bounds (hb l hl x hx)) xs.length _ 0 (by omega) (by omega) (by omega) (by simp) (by omega)

end Go.Proofs.Ythfglkpmjamhmaa.Pure
