/- What is proved here: the call of the reference function Head, way by way, for each list of bytes and each place: the error, or the tag and the places, and that nothing is written. -/
import Derived.Test.YthfglkpmjamhmaaHead
import Derived.Laws.BitsAllLaws
namespace Go.Proofs.Ythfglkpmjamhmaa.Own
open Go.RowKit Go.Proofs.YthfglkpmjamhmaaW.PrintWords Go.Proofs.YthfglkpmjamhmaaW.PrintLast Go.Proofs.YthfglkpmjamhmaaW.PrintMore
set_option linter.unusedVariables false
set_option linter.unusedSimpArgs false

theorem byte_third {w : World} {A : Option Addr} {l : List Int} (h : (Kd.int .u8).C w A l.length l) (hj : 2 < l.length) : ∃ ad, A = some ad ∧ w.cell? { block := ad.block, off := ad.off + 2 } = some (.int .u8 (l.getD 2 0)) := by
  obtain ⟨ad, e, hc⟩ := byte_at h 2 hj
  exact ⟨ad, e, by rwa [show ad.add 2 = { block := ad.block, off := ad.off + 2 } from by simp [Addr.add]] at hc⟩
theorem byte_fourth {w : World} {A : Option Addr} {l : List Int} (h : (Kd.int .u8).C w A l.length l) (hj : 3 < l.length) : ∃ ad, A = some ad ∧ w.cell? { block := ad.block, off := ad.off + 3 } = some (.int .u8 (l.getD 3 0)) := by
  obtain ⟨ad, e, hc⟩ := byte_at h 3 hj
  exact ⟨ad, e, by rwa [show ad.add 3 = { block := ad.block, off := ad.off + 3 } from by simp [Addr.add]] at hc⟩

/-- Two bytes side by side. -/
theorem or_bytes (a b : Int) (h0 : 0 ≤ a) (h1 : a ≤ 255) (h2 : 0 ≤ b) (h3 : b ≤ 255) : Go.bits .or .i64 (a * 256) b = a * 256 + b := by
  obtain ⟨x, rfl⟩ := Int.eq_ofNat_of_zero_le h0
  obtain ⟨y, rfl⟩ := Int.eq_ofNat_of_zero_le h2
  have hx : x < 256 := by omega
  have hy : y < 256 := by omega
  have e : (x : Int) * 256 = ((x * 256 : Nat) : Int) := by omega
  have hor : 256 * x + y = 256 * x ||| y := Nat.two_pow_add_eq_or_of_lt (i := 8) (by omega) x
  have hlt : x * 256 ||| y < 2 ^ 16 := Nat.or_lt_two_pow (by omega) (by omega)
  rw [e]
  show IntKind.i64.wrap ((BitVec.ofInt 64 ((x * 256 : Nat) : Int) ||| BitVec.ofInt 64 (y : Int)).toNat : Int) = _
  rw [BitVec.toNat_or, ofInt_u64 _ (by omega), ofInt_u64 _ (by omega), IntKind.wrap_i64]
  rw [Nat.mul_comm x 256, ← hor] at hlt ⊢
  omega

set_option maxHeartbeats 1600000 in
set_option maxRecDepth 100000 in
theorem ref_neg (A0 : Option Addr) (c0 : Nat) (l0 : List Int) (a1 : Int) (w : World) (h : a1 < 0) :
    Calls Try.prog 13 #[.slice A0 l0.length c0, .int .i64 a1] w fun e w' => e = .returned (.tuple #[.int .u8 0, .int .i64 0, .int .i64 0, .int .i64 1]) ∧ Drawn0 w w' := by
  have hb : decide (a1 < 0) = true := decide_eq_true h
  clear h
  go_enter Try.func13, Try.ntmps13
  go_wp2
  repeat (go_quiet (fail); try go_wp2)
  refine bodyPost_ret (results_list (rs := [.tmp 4, .tmp 5, .tmp 6, .tmp 7]) rfl (by simp) (.tmp (.tmp (.tmp (.tmp .nil))))) rfl ?_
  exact ⟨rfl, by repeat (first | exact Drawn0.refl _ | apply Drawn0.step)⟩

set_option maxHeartbeats 1600000 in
set_option maxRecDepth 100000 in
theorem ref_out (A0 : Option Addr) (c0 : Nat) (l0 : List Int) (a1 : Int) (w : World) (h0 : ¬ a1 < 0) (h : (l0.length : Int) < a1) :
    Calls Try.prog 13 #[.slice A0 l0.length c0, .int .i64 a1] w fun e w' => e = .returned (.tuple #[.int .u8 0, .int .i64 0, .int .i64 0, .int .i64 1]) ∧ Drawn0 w w' := by
  have hb : decide (a1 < 0) = false := decide_eq_false h0
  have hb2 : decide ((l0.length : Int) < a1) = true := decide_eq_true h
  clear h h0
  go_enter Try.func13, Try.ntmps13
  go_wp2
  repeat (go_quiet (fail); try go_wp2)
  refine bodyPost_ret (results_list (rs := [.tmp 4, .tmp 5, .tmp 6, .tmp 7]) rfl (by simp) (.tmp (.tmp (.tmp (.tmp .nil))))) rfl ?_
  exact ⟨rfl, by repeat (first | exact Drawn0.refl _ | apply Drawn0.step)⟩

set_option maxHeartbeats 1600000 in
set_option maxRecDepth 100000 in
theorem ref_empty (A0 : Option Addr) (c0 : Nat) (l0 : List Int) (a1 : Int) (w : World) (hr : (Kd.int .u8).C w A0 l0.length l0) (hc : l0.length ≤ c0) (h0 : 0 ≤ a1) (h1 : a1 ≤ (l0.length : Int)) (h2 : (l0.length : Int) ≤ 562949953421312) (l : List Int) (hl : l = l0.drop a1.toNat) (he : l.length = 0) :
    Calls Try.prog 13 #[.slice A0 l0.length c0, .int .i64 a1] w fun e w' => e = .returned (.tuple #[.int .u8 0, .int .i64 0, .int .i64 0, .int .i64 12]) ∧ Drawn0 w w' := by
  have hb : decide (a1 < 0) = false := decide_eq_false (by omega)
  have hb2 : decide ((l0.length : Int) < a1) = false := decide_eq_false (by omega)
  have hln : l.length + a1.toNat = l0.length := by subst hl; simp only [List.length_drop]; omega
  obtain ⟨A, c, hcut, hC, hcl⟩ := rest_of A0 c0 l0 a1 h0 h1 hc l hl
  have na : decide ((l.length : Int) < 1) = true := decide_eq_true (by omega)
  have nb : decide (l.length < 1) = true := decide_eq_true (by omega)
  have i2 : (l.length : Int) ≤ 562949953421312 := by omega
  have i3 : a1 ≤ 562949953421312 := by omega
  clear h1 hc hl hC hcl hr hln h2 he h0
  go_enter Try.func13, Try.ntmps13
  go_wp2
  repeat (go_quiet (fail); try go_wp2)
  refine bodyPost_ret (results_list (rs := [.tmp 4, .tmp 5, .tmp 6, .tmp 7]) rfl (by simp) (.tmp (.tmp (.tmp (.tmp .nil))))) rfl ?_
  exact ⟨rfl, by repeat (first | exact Drawn0.refl _ | apply Drawn0.step)⟩

set_option maxHeartbeats 1600000 in
set_option maxRecDepth 100000 in
theorem ref_tag (A0 : Option Addr) (c0 : Nat) (l0 : List Int) (a1 : Int) (w : World) (hr : (Kd.int .u8).C w A0 l0.length l0) (hc : l0.length ≤ c0) (h0 : 0 ≤ a1) (h1 : a1 ≤ (l0.length : Int)) (h2 : (l0.length : Int) ≤ 562949953421312) (l : List Int) (hl : l = l0.drop a1.toNat) (he : 0 < l.length) (ht : Go.bits .and .u8 (l.getD 0 0) 31 = 31) :
    Calls Try.prog 13 #[.slice A0 l0.length c0, .int .i64 a1] w fun e w' => e = .returned (.tuple #[.int .u8 0, .int .i64 0, .int .i64 0, .int .i64 11]) ∧ Drawn0 w w' := by
  have hb : decide (a1 < 0) = false := decide_eq_false (by omega)
  have hb2 : decide ((l0.length : Int) < a1) = false := decide_eq_false (by omega)
  have hln : l.length + a1.toNat = l0.length := by subst hl; simp only [List.length_drop]; omega
  obtain ⟨A, c, hcut, hC, hcl⟩ := rest_of A0 c0 l0 a1 h0 h1 hc l hl
  have q0 : (0 < l.length) = True := eq_true (by omega)
  obtain ⟨ad, e1, x0⟩ := byte_first (hC w hr) (of_eq_true q0)
  cases e1
  have tg : (Go.bits .and .u8 (l.getD 0 0) 31 == 31) = true := beq_iff_eq.mpr ht
  generalize l.getD 0 0 = b0 at *
  have na : decide ((l.length : Int) < 1) = false := decide_eq_false (by omega)
  have nb : decide (l.length < 1) = false := decide_eq_false (by omega)
  have i2 : (l.length : Int) ≤ 562949953421312 := by omega
  have i3 : a1 ≤ 562949953421312 := by omega
  clear h1 hc hl hC hcl hr hln h2 he ht h0
  go_enter Try.func13, Try.ntmps13
  go_wp2
  repeat (go_quiet (fail); try go_wp2)
  refine bodyPost_ret (results_list (rs := [.tmp 4, .tmp 5, .tmp 6, .tmp 7]) rfl (by simp) (.tmp (.tmp (.tmp (.tmp .nil))))) rfl ?_
  exact ⟨rfl, by repeat (first | exact Drawn0.refl _ | apply Drawn0.step)⟩

set_option maxHeartbeats 1600000 in
set_option maxRecDepth 100000 in
theorem ref_one (A0 : Option Addr) (c0 : Nat) (l0 : List Int) (a1 : Int) (w : World) (hr : (Kd.int .u8).C w A0 l0.length l0) (hc : l0.length ≤ c0) (h0 : 0 ≤ a1) (h1 : a1 ≤ (l0.length : Int)) (h2 : (l0.length : Int) ≤ 562949953421312) (l : List Int) (hl : l = l0.drop a1.toNat) (he : l.length = 1) (ht : ¬ Go.bits .and .u8 (l.getD 0 0) 31 = 31) :
    Calls Try.prog 13 #[.slice A0 l0.length c0, .int .i64 a1] w fun e w' => e = .returned (.tuple #[.int .u8 0, .int .i64 0, .int .i64 0, .int .i64 12]) ∧ Drawn0 w w' := by
  have hb : decide (a1 < 0) = false := decide_eq_false (by omega)
  have hb2 : decide ((l0.length : Int) < a1) = false := decide_eq_false (by omega)
  have hln : l.length + a1.toNat = l0.length := by subst hl; simp only [List.length_drop]; omega
  obtain ⟨A, c, hcut, hC, hcl⟩ := rest_of A0 c0 l0 a1 h0 h1 hc l hl
  have q0 : (0 < l.length) = True := eq_true (by omega)
  obtain ⟨ad, e1, x0⟩ := byte_first (hC w hr) (of_eq_true q0)
  cases e1
  have tg : (Go.bits .and .u8 (l.getD 0 0) 31 == 31) = false := beq_eq_false_iff_ne.mpr ht
  generalize l.getD 0 0 = b0 at *
  have na : decide ((l.length : Int) < 1) = false := decide_eq_false (by omega)
  have nb : decide (l.length < 1) = false := decide_eq_false (by omega)
  have pa : decide ((l.length : Int) < 2) = true := decide_eq_true (by omega)
  have pb : decide (l.length < 2) = true := decide_eq_true (by omega)
  have i2 : (l.length : Int) ≤ 562949953421312 := by omega
  have i3 : a1 ≤ 562949953421312 := by omega
  clear h1 hc hl hC hcl hr hln h2 he ht h0
  go_enter Try.func13, Try.ntmps13
  go_wp2
  repeat (go_quiet (fail); try go_wp2)
  refine bodyPost_ret (results_list (rs := [.tmp 4, .tmp 5, .tmp 6, .tmp 7]) rfl (by simp) (.tmp (.tmp (.tmp (.tmp .nil))))) rfl ?_
  exact ⟨rfl, by repeat (first | exact Drawn0.refl _ | apply Drawn0.step)⟩

set_option maxHeartbeats 1600000 in
set_option maxRecDepth 100000 in
theorem ref_128 (A0 : Option Addr) (c0 : Nat) (l0 : List Int) (a1 : Int) (w : World) (hr : (Kd.int .u8).C w A0 l0.length l0) (hc : l0.length ≤ c0) (h0 : 0 ≤ a1) (h1 : a1 ≤ (l0.length : Int)) (h2 : (l0.length : Int) ≤ 562949953421312) (l : List Int) (hl : l = l0.drop a1.toNat) (he : 1 < l.length) (ht : ¬ Go.bits .and .u8 (l.getD 0 0) 31 = 31) (b1 : Int) (hv1 : b1 = l.getD 1 0) (g0 : 0 ≤ b1) (g1 : b1 ≤ 255) (hs : b1 = 128) :
    Calls Try.prog 13 #[.slice A0 l0.length c0, .int .i64 a1] w fun e w' => e = .returned (.tuple #[.int .u8 0, .int .i64 0, .int .i64 0, .int .i64 13]) ∧ Drawn0 w w' := by
  have hb : decide (a1 < 0) = false := decide_eq_false (by omega)
  have hb2 : decide ((l0.length : Int) < a1) = false := decide_eq_false (by omega)
  have hln : l.length + a1.toNat = l0.length := by subst hl; simp only [List.length_drop]; omega
  obtain ⟨A, c, hcut, hC, hcl⟩ := rest_of A0 c0 l0 a1 h0 h1 hc l hl
  have q0 : (0 < l.length) = True := eq_true (by omega)
  have q1 : (1 < l.length) = True := eq_true (by omega)
  have q1i : ((1 : Int) < (l.length : Int)) = True := eq_true (by omega)
  obtain ⟨ad, e1, x0⟩ := byte_first (hC w hr) (of_eq_true q0)
  obtain ⟨ad1, e11, x1⟩ := byte_second (hC w hr) (of_eq_true q1)
  cases e1
  cases e11
  rw [← hv1] at x1
  have tg : (Go.bits .and .u8 (l.getD 0 0) 31 == 31) = false := beq_eq_false_iff_ne.mpr ht
  generalize l.getD 0 0 = b0 at *
  have na : decide ((l.length : Int) < 1) = false := decide_eq_false (by omega)
  have nb : decide (l.length < 1) = false := decide_eq_false (by omega)
  have pa : decide ((l.length : Int) < 2) = false := decide_eq_false (by omega)
  have pb : decide (l.length < 2) = false := decide_eq_false (by omega)
  subst hs
  have i2 : (l.length : Int) ≤ 562949953421312 := by omega
  have i3 : a1 ≤ 562949953421312 := by omega
  clear h1 hc hl hC hcl hr hln h2 he ht hv1 g0 g1 h0
  go_enter Try.func13, Try.ntmps13
  go_wp2
  repeat (go_quiet (fail); try go_wp2)
  refine bodyPost_ret (results_list (rs := [.tmp 4, .tmp 5, .tmp 6, .tmp 7]) rfl (by simp) (.tmp (.tmp (.tmp (.tmp .nil))))) rfl ?_
  exact ⟨rfl, by repeat (first | exact Drawn0.refl _ | apply Drawn0.step)⟩

set_option maxHeartbeats 1600000 in
set_option maxRecDepth 100000 in
theorem ref_big (A0 : Option Addr) (c0 : Nat) (l0 : List Int) (a1 : Int) (w : World) (hr : (Kd.int .u8).C w A0 l0.length l0) (hc : l0.length ≤ c0) (h0 : 0 ≤ a1) (h1 : a1 ≤ (l0.length : Int)) (h2 : (l0.length : Int) ≤ 562949953421312) (l : List Int) (hl : l = l0.drop a1.toNat) (he : 1 < l.length) (ht : ¬ Go.bits .and .u8 (l.getD 0 0) 31 = 31) (b1 : Int) (hv1 : b1 = l.getD 1 0) (g0 : 0 ≤ b1) (g1 : b1 ≤ 255) (hs : 130 < b1) :
    Calls Try.prog 13 #[.slice A0 l0.length c0, .int .i64 a1] w fun e w' => e = .returned (.tuple #[.int .u8 0, .int .i64 0, .int .i64 0, .int .i64 13]) ∧ Drawn0 w w' := by
  have hb : decide (a1 < 0) = false := decide_eq_false (by omega)
  have hb2 : decide ((l0.length : Int) < a1) = false := decide_eq_false (by omega)
  have hln : l.length + a1.toNat = l0.length := by subst hl; simp only [List.length_drop]; omega
  obtain ⟨A, c, hcut, hC, hcl⟩ := rest_of A0 c0 l0 a1 h0 h1 hc l hl
  have q0 : (0 < l.length) = True := eq_true (by omega)
  have q1 : (1 < l.length) = True := eq_true (by omega)
  have q1i : ((1 : Int) < (l.length : Int)) = True := eq_true (by omega)
  obtain ⟨ad, e1, x0⟩ := byte_first (hC w hr) (of_eq_true q0)
  obtain ⟨ad1, e11, x1⟩ := byte_second (hC w hr) (of_eq_true q1)
  cases e1
  cases e11
  rw [← hv1] at x1
  have tg : (Go.bits .and .u8 (l.getD 0 0) 31 == 31) = false := beq_eq_false_iff_ne.mpr ht
  generalize l.getD 0 0 = b0 at *
  have na : decide ((l.length : Int) < 1) = false := decide_eq_false (by omega)
  have nb : decide (l.length < 1) = false := decide_eq_false (by omega)
  have pa : decide ((l.length : Int) < 2) = false := decide_eq_false (by omega)
  have pb : decide (l.length < 2) = false := decide_eq_false (by omega)
  have s0 : (b1 == 128) = false := beq_eq_false_iff_ne.mpr (by omega)
  have s1 : decide (2 < b1 - 128) = true := decide_eq_true (by omega)
  have s2 : decide (127 < b1) = true := decide_eq_true (by omega)
  have s3 : decide (128 ≤ b1) = true := decide_eq_true (by omega)
  have i2 : (l.length : Int) ≤ 562949953421312 := by omega
  have i3 : a1 ≤ 562949953421312 := by omega
  clear h1 hc hl hC hcl hr hln h2 he ht hv1 hs h0
  go_enter Try.func13, Try.ntmps13
  go_wp2
  repeat (go_quiet (fail); try go_wp2)
  refine bodyPost_ret (results_list (rs := [.tmp 4, .tmp 5, .tmp 6, .tmp 7]) rfl (by simp) (.tmp (.tmp (.tmp (.tmp .nil))))) rfl ?_
  exact ⟨rfl, by repeat (first | exact Drawn0.refl _ | apply Drawn0.step)⟩

set_option maxHeartbeats 1600000 in
set_option maxRecDepth 100000 in
theorem ref_s_short (A0 : Option Addr) (c0 : Nat) (l0 : List Int) (a1 : Int) (w : World) (hr : (Kd.int .u8).C w A0 l0.length l0) (hc : l0.length ≤ c0) (h0 : 0 ≤ a1) (h1 : a1 ≤ (l0.length : Int)) (h2 : (l0.length : Int) ≤ 562949953421312) (l : List Int) (hl : l = l0.drop a1.toNat) (he : 1 < l.length) (ht : ¬ Go.bits .and .u8 (l.getD 0 0) 31 = 31) (b1 : Int) (hv1 : b1 = l.getD 1 0) (g0 : 0 ≤ b1) (g1 : b1 ≤ 255) (hs : b1 ≤ 127) (hq : (l.length : Int) - 2 < b1) :
    Calls Try.prog 13 #[.slice A0 l0.length c0, .int .i64 a1] w fun e w' => e = .returned (.tuple #[.int .u8 0, .int .i64 0, .int .i64 0, .int .i64 12]) ∧ Drawn0 w w' := by
  have hb : decide (a1 < 0) = false := decide_eq_false (by omega)
  have hb2 : decide ((l0.length : Int) < a1) = false := decide_eq_false (by omega)
  have hln : l.length + a1.toNat = l0.length := by subst hl; simp only [List.length_drop]; omega
  obtain ⟨A, c, hcut, hC, hcl⟩ := rest_of A0 c0 l0 a1 h0 h1 hc l hl
  have q0 : (0 < l.length) = True := eq_true (by omega)
  have q1 : (1 < l.length) = True := eq_true (by omega)
  have q1i : ((1 : Int) < (l.length : Int)) = True := eq_true (by omega)
  obtain ⟨ad, e1, x0⟩ := byte_first (hC w hr) (of_eq_true q0)
  obtain ⟨ad1, e11, x1⟩ := byte_second (hC w hr) (of_eq_true q1)
  cases e1
  cases e11
  rw [← hv1] at x1
  have tg : (Go.bits .and .u8 (l.getD 0 0) 31 == 31) = false := beq_eq_false_iff_ne.mpr ht
  generalize l.getD 0 0 = b0 at *
  have na : decide ((l.length : Int) < 1) = false := decide_eq_false (by omega)
  have nb : decide (l.length < 1) = false := decide_eq_false (by omega)
  have pa : decide ((l.length : Int) < 2) = false := decide_eq_false (by omega)
  have pb : decide (l.length < 2) = false := decide_eq_false (by omega)
  have s0 : (b1 == 128) = false := beq_eq_false_iff_ne.mpr (by omega)
  have s3 : decide (128 ≤ b1) = false := decide_eq_false (by omega)
  have k1 : decide ((l.length : Int) - 2 < b1) = true := decide_eq_true (by omega)
  have i2 : (l.length : Int) ≤ 562949953421312 := by omega
  have i3 : a1 ≤ 562949953421312 := by omega
  clear h1 hc hl hC hcl hr hln h2 he ht hv1 hs hq h0
  go_enter Try.func13, Try.ntmps13
  go_wp2
  repeat (go_quiet (fail); try go_wp2)
  refine bodyPost_ret (results_list (rs := [.tmp 4, .tmp 5, .tmp 6, .tmp 7]) rfl (by simp) (.tmp (.tmp (.tmp (.tmp .nil))))) rfl ?_
  exact ⟨rfl, by repeat (first | exact Drawn0.refl _ | apply Drawn0.step)⟩

set_option maxHeartbeats 1600000 in
set_option maxRecDepth 100000 in
theorem ref_s_ok (A0 : Option Addr) (c0 : Nat) (l0 : List Int) (a1 : Int) (w : World) (hr : (Kd.int .u8).C w A0 l0.length l0) (hc : l0.length ≤ c0) (h0 : 0 ≤ a1) (h1 : a1 ≤ (l0.length : Int)) (h2 : (l0.length : Int) ≤ 562949953421312) (l : List Int) (hl : l = l0.drop a1.toNat) (he : 1 < l.length) (ht : ¬ Go.bits .and .u8 (l.getD 0 0) 31 = 31) (b1 : Int) (hv1 : b1 = l.getD 1 0) (g0 : 0 ≤ b1) (g1 : b1 ≤ 255) (hs : b1 ≤ 127) (hq : b1 ≤ (l.length : Int) - 2) :
    Calls Try.prog 13 #[.slice A0 l0.length c0, .int .i64 a1] w fun e w' => e = .returned (.tuple #[.int .u8 (l.getD 0 0), .int .i64 (a1 + 2), .int .i64 (a1 + 2 + b1), .int .i64 0]) ∧ Drawn0 w w' := by
  have hb : decide (a1 < 0) = false := decide_eq_false (by omega)
  have hb2 : decide ((l0.length : Int) < a1) = false := decide_eq_false (by omega)
  have hln : l.length + a1.toNat = l0.length := by subst hl; simp only [List.length_drop]; omega
  obtain ⟨A, c, hcut, hC, hcl⟩ := rest_of A0 c0 l0 a1 h0 h1 hc l hl
  have q0 : (0 < l.length) = True := eq_true (by omega)
  have q1 : (1 < l.length) = True := eq_true (by omega)
  have q1i : ((1 : Int) < (l.length : Int)) = True := eq_true (by omega)
  obtain ⟨ad, e1, x0⟩ := byte_first (hC w hr) (of_eq_true q0)
  obtain ⟨ad1, e11, x1⟩ := byte_second (hC w hr) (of_eq_true q1)
  cases e1
  cases e11
  rw [← hv1] at x1
  have tg : (Go.bits .and .u8 (l.getD 0 0) 31 == 31) = false := beq_eq_false_iff_ne.mpr ht
  generalize l.getD 0 0 = b0 at *
  have na : decide ((l.length : Int) < 1) = false := decide_eq_false (by omega)
  have nb : decide (l.length < 1) = false := decide_eq_false (by omega)
  have pa : decide ((l.length : Int) < 2) = false := decide_eq_false (by omega)
  have pb : decide (l.length < 2) = false := decide_eq_false (by omega)
  have s0 : (b1 == 128) = false := beq_eq_false_iff_ne.mpr (by omega)
  have s3 : decide (128 ≤ b1) = false := decide_eq_false (by omega)
  have k1 : decide ((l.length : Int) - 2 < b1) = false := decide_eq_false (by omega)
  have i2 : (l.length : Int) ≤ 562949953421312 := by omega
  have i3 : a1 ≤ 562949953421312 := by omega
  clear h1 hc hl hC hcl hr hln h2 he ht hv1 hs hq
  go_enter Try.func13, Try.ntmps13
  go_wp2
  repeat (go_quiet (fail); try go_wp2)
  refine bodyPost_ret (results_list (rs := [.tmp 4, .tmp 5, .tmp 6, .tmp 7]) rfl (by simp) (.tmp (.tmp (.tmp (.tmp .nil))))) rfl ?_
  exact ⟨rfl, by repeat (first | exact Drawn0.refl _ | apply Drawn0.step)⟩

set_option maxHeartbeats 1600000 in
set_option maxRecDepth 100000 in
theorem ref_81_none (A0 : Option Addr) (c0 : Nat) (l0 : List Int) (a1 : Int) (w : World) (hr : (Kd.int .u8).C w A0 l0.length l0) (hc : l0.length ≤ c0) (h0 : 0 ≤ a1) (h1 : a1 ≤ (l0.length : Int)) (h2 : (l0.length : Int) ≤ 562949953421312) (l : List Int) (hl : l = l0.drop a1.toNat) (he : 1 < l.length) (ht : ¬ Go.bits .and .u8 (l.getD 0 0) 31 = 31) (hv1 : 129 = l.getD 1 0) (hk : l.length < 3) :
    Calls Try.prog 13 #[.slice A0 l0.length c0, .int .i64 a1] w fun e w' => e = .returned (.tuple #[.int .u8 0, .int .i64 0, .int .i64 0, .int .i64 12]) ∧ Drawn0 w w' := by
  have hb : decide (a1 < 0) = false := decide_eq_false (by omega)
  have hb2 : decide ((l0.length : Int) < a1) = false := decide_eq_false (by omega)
  have hln : l.length + a1.toNat = l0.length := by subst hl; simp only [List.length_drop]; omega
  obtain ⟨A, c, hcut, hC, hcl⟩ := rest_of A0 c0 l0 a1 h0 h1 hc l hl
  have q0 : (0 < l.length) = True := eq_true (by omega)
  have q1 : (1 < l.length) = True := eq_true (by omega)
  have q1i : ((1 : Int) < (l.length : Int)) = True := eq_true (by omega)
  obtain ⟨ad, e1, x0⟩ := byte_first (hC w hr) (of_eq_true q0)
  obtain ⟨ad1, e11, x1⟩ := byte_second (hC w hr) (of_eq_true q1)
  cases e1
  cases e11
  rw [← hv1] at x1
  have tg : (Go.bits .and .u8 (l.getD 0 0) 31 == 31) = false := beq_eq_false_iff_ne.mpr ht
  generalize l.getD 0 0 = b0 at *
  have na : decide ((l.length : Int) < 1) = false := decide_eq_false (by omega)
  have nb : decide (l.length < 1) = false := decide_eq_false (by omega)
  have pa : decide ((l.length : Int) < 2) = false := decide_eq_false (by omega)
  have pb : decide (l.length < 2) = false := decide_eq_false (by omega)
  have za : decide ((l.length : Int) < 3) = true := decide_eq_true (by omega)
  have zb : decide (l.length < 3) = true := decide_eq_true (by omega)
  have i2 : (l.length : Int) ≤ 562949953421312 := by omega
  have i3 : a1 ≤ 562949953421312 := by omega
  clear h1 hc hl hC hcl hr hln h2 he ht hv1 hk h0
  go_enter Try.func13, Try.ntmps13
  go_wp2
  repeat (go_quiet (fail); try go_wp2)
  refine bodyPost_ret (results_list (rs := [.tmp 4, .tmp 5, .tmp 6, .tmp 7]) rfl (by simp) (.tmp (.tmp (.tmp (.tmp .nil))))) rfl ?_
  exact ⟨rfl, by repeat (first | exact Drawn0.refl _ | apply Drawn0.step)⟩

set_option maxHeartbeats 1600000 in
set_option maxRecDepth 100000 in
theorem ref_81_least (A0 : Option Addr) (c0 : Nat) (l0 : List Int) (a1 : Int) (w : World) (hr : (Kd.int .u8).C w A0 l0.length l0) (hc : l0.length ≤ c0) (h0 : 0 ≤ a1) (h1 : a1 ≤ (l0.length : Int)) (h2 : (l0.length : Int) ≤ 562949953421312) (l : List Int) (hl : l = l0.drop a1.toNat) (he : 1 < l.length) (ht : ¬ Go.bits .and .u8 (l.getD 0 0) 31 = 31) (hv1 : 129 = l.getD 1 0) (hk : 2 < l.length) (b2 : Int) (hv2 : b2 = l.getD 2 0) (g2 : 0 ≤ b2) (g3 : b2 ≤ 255) (hn : b2 < 128) :
    Calls Try.prog 13 #[.slice A0 l0.length c0, .int .i64 a1] w fun e w' => e = .returned (.tuple #[.int .u8 0, .int .i64 0, .int .i64 0, .int .i64 13]) ∧ Drawn0 w w' := by
  have hb : decide (a1 < 0) = false := decide_eq_false (by omega)
  have hb2 : decide ((l0.length : Int) < a1) = false := decide_eq_false (by omega)
  have hln : l.length + a1.toNat = l0.length := by subst hl; simp only [List.length_drop]; omega
  obtain ⟨A, c, hcut, hC, hcl⟩ := rest_of A0 c0 l0 a1 h0 h1 hc l hl
  have q0 : (0 < l.length) = True := eq_true (by omega)
  have q1 : (1 < l.length) = True := eq_true (by omega)
  have q1i : ((1 : Int) < (l.length : Int)) = True := eq_true (by omega)
  have q2 : (2 < l.length) = True := eq_true (by omega)
  have q2i : ((2 : Int) < (l.length : Int)) = True := eq_true (by omega)
  obtain ⟨ad, e1, x0⟩ := byte_first (hC w hr) (of_eq_true q0)
  obtain ⟨ad1, e11, x1⟩ := byte_second (hC w hr) (of_eq_true q1)
  obtain ⟨ad2, e12, x2⟩ := byte_third (hC w hr) (of_eq_true q2)
  cases e1
  cases e11
  rw [← hv1] at x1
  cases e12
  rw [← hv2] at x2
  have tg : (Go.bits .and .u8 (l.getD 0 0) 31 == 31) = false := beq_eq_false_iff_ne.mpr ht
  generalize l.getD 0 0 = b0 at *
  have na : decide ((l.length : Int) < 1) = false := decide_eq_false (by omega)
  have nb : decide (l.length < 1) = false := decide_eq_false (by omega)
  have pa : decide ((l.length : Int) < 2) = false := decide_eq_false (by omega)
  have pb : decide (l.length < 2) = false := decide_eq_false (by omega)
  have za : decide ((l.length : Int) < 3) = false := decide_eq_false (by omega)
  have zb : decide (l.length < 3) = false := decide_eq_false (by omega)
  have k0 : decide (b2 < 128) = true := decide_eq_true (by omega)
  have i2 : (l.length : Int) ≤ 562949953421312 := by omega
  have i3 : a1 ≤ 562949953421312 := by omega
  clear h1 hc hl hC hcl hr hln h2 he ht hv1 hv2 hk hn h0
  go_enter Try.func13, Try.ntmps13
  go_wp2
  repeat (go_quiet (fail); try go_wp2)
  refine bodyPost_ret (results_list (rs := [.tmp 4, .tmp 5, .tmp 6, .tmp 7]) rfl (by simp) (.tmp (.tmp (.tmp (.tmp .nil))))) rfl ?_
  exact ⟨rfl, by repeat (first | exact Drawn0.refl _ | apply Drawn0.step)⟩

set_option maxHeartbeats 1600000 in
set_option maxRecDepth 100000 in
theorem ref_81_short (A0 : Option Addr) (c0 : Nat) (l0 : List Int) (a1 : Int) (w : World) (hr : (Kd.int .u8).C w A0 l0.length l0) (hc : l0.length ≤ c0) (h0 : 0 ≤ a1) (h1 : a1 ≤ (l0.length : Int)) (h2 : (l0.length : Int) ≤ 562949953421312) (l : List Int) (hl : l = l0.drop a1.toNat) (he : 1 < l.length) (ht : ¬ Go.bits .and .u8 (l.getD 0 0) 31 = 31) (hv1 : 129 = l.getD 1 0) (hk : 2 < l.length) (b2 : Int) (hv2 : b2 = l.getD 2 0) (g2 : 0 ≤ b2) (g3 : b2 ≤ 255) (hn : 128 ≤ b2) (hq : (l.length : Int) - 3 < b2) :
    Calls Try.prog 13 #[.slice A0 l0.length c0, .int .i64 a1] w fun e w' => e = .returned (.tuple #[.int .u8 0, .int .i64 0, .int .i64 0, .int .i64 12]) ∧ Drawn0 w w' := by
  have hb : decide (a1 < 0) = false := decide_eq_false (by omega)
  have hb2 : decide ((l0.length : Int) < a1) = false := decide_eq_false (by omega)
  have hln : l.length + a1.toNat = l0.length := by subst hl; simp only [List.length_drop]; omega
  obtain ⟨A, c, hcut, hC, hcl⟩ := rest_of A0 c0 l0 a1 h0 h1 hc l hl
  have q0 : (0 < l.length) = True := eq_true (by omega)
  have q1 : (1 < l.length) = True := eq_true (by omega)
  have q1i : ((1 : Int) < (l.length : Int)) = True := eq_true (by omega)
  have q2 : (2 < l.length) = True := eq_true (by omega)
  have q2i : ((2 : Int) < (l.length : Int)) = True := eq_true (by omega)
  obtain ⟨ad, e1, x0⟩ := byte_first (hC w hr) (of_eq_true q0)
  obtain ⟨ad1, e11, x1⟩ := byte_second (hC w hr) (of_eq_true q1)
  obtain ⟨ad2, e12, x2⟩ := byte_third (hC w hr) (of_eq_true q2)
  cases e1
  cases e11
  rw [← hv1] at x1
  cases e12
  rw [← hv2] at x2
  have tg : (Go.bits .and .u8 (l.getD 0 0) 31 == 31) = false := beq_eq_false_iff_ne.mpr ht
  generalize l.getD 0 0 = b0 at *
  have na : decide ((l.length : Int) < 1) = false := decide_eq_false (by omega)
  have nb : decide (l.length < 1) = false := decide_eq_false (by omega)
  have pa : decide ((l.length : Int) < 2) = false := decide_eq_false (by omega)
  have pb : decide (l.length < 2) = false := decide_eq_false (by omega)
  have za : decide ((l.length : Int) < 3) = false := decide_eq_false (by omega)
  have zb : decide (l.length < 3) = false := decide_eq_false (by omega)
  have k0 : decide (b2 < 128) = false := decide_eq_false (by omega)
  have k1 : decide ((l.length : Int) - 2 - 1 < b2) = true := decide_eq_true (by omega)
  have k2 : decide ((l.length : Int) - 3 < b2) = true := decide_eq_true (by omega)
  have i2 : (l.length : Int) ≤ 562949953421312 := by omega
  have i3 : a1 ≤ 562949953421312 := by omega
  clear h1 hc hl hC hcl hr hln h2 he ht hv1 hv2 hk hn hq h0
  go_enter Try.func13, Try.ntmps13
  go_wp2
  repeat (go_quiet (fail); try go_wp2)
  refine bodyPost_ret (results_list (rs := [.tmp 4, .tmp 5, .tmp 6, .tmp 7]) rfl (by simp) (.tmp (.tmp (.tmp (.tmp .nil))))) rfl ?_
  exact ⟨rfl, by repeat (first | exact Drawn0.refl _ | apply Drawn0.step)⟩

set_option maxHeartbeats 1600000 in
set_option maxRecDepth 100000 in
theorem ref_81_ok (A0 : Option Addr) (c0 : Nat) (l0 : List Int) (a1 : Int) (w : World) (hr : (Kd.int .u8).C w A0 l0.length l0) (hc : l0.length ≤ c0) (h0 : 0 ≤ a1) (h1 : a1 ≤ (l0.length : Int)) (h2 : (l0.length : Int) ≤ 562949953421312) (l : List Int) (hl : l = l0.drop a1.toNat) (he : 1 < l.length) (ht : ¬ Go.bits .and .u8 (l.getD 0 0) 31 = 31) (hv1 : 129 = l.getD 1 0) (hk : 2 < l.length) (b2 : Int) (hv2 : b2 = l.getD 2 0) (g2 : 0 ≤ b2) (g3 : b2 ≤ 255) (hn : 128 ≤ b2) (hq : b2 ≤ (l.length : Int) - 3) :
    Calls Try.prog 13 #[.slice A0 l0.length c0, .int .i64 a1] w fun e w' => e = .returned (.tuple #[.int .u8 (l.getD 0 0), .int .i64 (a1 + 2 + 1), .int .i64 (a1 + 2 + 1 + b2), .int .i64 0]) ∧ Drawn0 w w' := by
  have hb : decide (a1 < 0) = false := decide_eq_false (by omega)
  have hb2 : decide ((l0.length : Int) < a1) = false := decide_eq_false (by omega)
  have hln : l.length + a1.toNat = l0.length := by subst hl; simp only [List.length_drop]; omega
  obtain ⟨A, c, hcut, hC, hcl⟩ := rest_of A0 c0 l0 a1 h0 h1 hc l hl
  have q0 : (0 < l.length) = True := eq_true (by omega)
  have q1 : (1 < l.length) = True := eq_true (by omega)
  have q1i : ((1 : Int) < (l.length : Int)) = True := eq_true (by omega)
  have q2 : (2 < l.length) = True := eq_true (by omega)
  have q2i : ((2 : Int) < (l.length : Int)) = True := eq_true (by omega)
  obtain ⟨ad, e1, x0⟩ := byte_first (hC w hr) (of_eq_true q0)
  obtain ⟨ad1, e11, x1⟩ := byte_second (hC w hr) (of_eq_true q1)
  obtain ⟨ad2, e12, x2⟩ := byte_third (hC w hr) (of_eq_true q2)
  cases e1
  cases e11
  rw [← hv1] at x1
  cases e12
  rw [← hv2] at x2
  have tg : (Go.bits .and .u8 (l.getD 0 0) 31 == 31) = false := beq_eq_false_iff_ne.mpr ht
  generalize l.getD 0 0 = b0 at *
  have na : decide ((l.length : Int) < 1) = false := decide_eq_false (by omega)
  have nb : decide (l.length < 1) = false := decide_eq_false (by omega)
  have pa : decide ((l.length : Int) < 2) = false := decide_eq_false (by omega)
  have pb : decide (l.length < 2) = false := decide_eq_false (by omega)
  have za : decide ((l.length : Int) < 3) = false := decide_eq_false (by omega)
  have zb : decide (l.length < 3) = false := decide_eq_false (by omega)
  have k0 : decide (b2 < 128) = false := decide_eq_false (by omega)
  have k1 : decide ((l.length : Int) - 2 - 1 < b2) = false := decide_eq_false (by omega)
  have k2 : decide ((l.length : Int) - 3 < b2) = false := decide_eq_false (by omega)
  have i2 : (l.length : Int) ≤ 562949953421312 := by omega
  have i3 : a1 ≤ 562949953421312 := by omega
  clear h1 hc hl hC hcl hr hln h2 he ht hv1 hv2 hk hn hq
  go_enter Try.func13, Try.ntmps13
  go_wp2
  repeat (go_quiet (fail); try go_wp2)
  refine bodyPost_ret (results_list (rs := [.tmp 4, .tmp 5, .tmp 6, .tmp 7]) rfl (by simp) (.tmp (.tmp (.tmp (.tmp .nil))))) rfl ?_
  exact ⟨rfl, by repeat (first | exact Drawn0.refl _ | apply Drawn0.step)⟩

set_option maxHeartbeats 1600000 in
set_option maxRecDepth 100000 in
theorem ref_82_none (A0 : Option Addr) (c0 : Nat) (l0 : List Int) (a1 : Int) (w : World) (hr : (Kd.int .u8).C w A0 l0.length l0) (hc : l0.length ≤ c0) (h0 : 0 ≤ a1) (h1 : a1 ≤ (l0.length : Int)) (h2 : (l0.length : Int) ≤ 562949953421312) (l : List Int) (hl : l = l0.drop a1.toNat) (he : 1 < l.length) (ht : ¬ Go.bits .and .u8 (l.getD 0 0) 31 = 31) (hv1 : 130 = l.getD 1 0) (hk : l.length < 4) :
    Calls Try.prog 13 #[.slice A0 l0.length c0, .int .i64 a1] w fun e w' => e = .returned (.tuple #[.int .u8 0, .int .i64 0, .int .i64 0, .int .i64 12]) ∧ Drawn0 w w' := by
  have hb : decide (a1 < 0) = false := decide_eq_false (by omega)
  have hb2 : decide ((l0.length : Int) < a1) = false := decide_eq_false (by omega)
  have hln : l.length + a1.toNat = l0.length := by subst hl; simp only [List.length_drop]; omega
  obtain ⟨A, c, hcut, hC, hcl⟩ := rest_of A0 c0 l0 a1 h0 h1 hc l hl
  have q0 : (0 < l.length) = True := eq_true (by omega)
  have q1 : (1 < l.length) = True := eq_true (by omega)
  have q1i : ((1 : Int) < (l.length : Int)) = True := eq_true (by omega)
  obtain ⟨ad, e1, x0⟩ := byte_first (hC w hr) (of_eq_true q0)
  obtain ⟨ad1, e11, x1⟩ := byte_second (hC w hr) (of_eq_true q1)
  cases e1
  cases e11
  rw [← hv1] at x1
  have tg : (Go.bits .and .u8 (l.getD 0 0) 31 == 31) = false := beq_eq_false_iff_ne.mpr ht
  generalize l.getD 0 0 = b0 at *
  have na : decide ((l.length : Int) < 1) = false := decide_eq_false (by omega)
  have nb : decide (l.length < 1) = false := decide_eq_false (by omega)
  have pa : decide ((l.length : Int) < 2) = false := decide_eq_false (by omega)
  have pb : decide (l.length < 2) = false := decide_eq_false (by omega)
  have za : decide ((l.length : Int) < 4) = true := decide_eq_true (by omega)
  have zb : decide (l.length < 4) = true := decide_eq_true (by omega)
  have i2 : (l.length : Int) ≤ 562949953421312 := by omega
  have i3 : a1 ≤ 562949953421312 := by omega
  clear h1 hc hl hC hcl hr hln h2 he ht hv1 hk h0
  go_enter Try.func13, Try.ntmps13
  go_wp2
  repeat (go_quiet (fail); try go_wp2)
  refine bodyPost_ret (results_list (rs := [.tmp 4, .tmp 5, .tmp 6, .tmp 7]) rfl (by simp) (.tmp (.tmp (.tmp (.tmp .nil))))) rfl ?_
  exact ⟨rfl, by repeat (first | exact Drawn0.refl _ | apply Drawn0.step)⟩

set_option maxHeartbeats 1600000 in
set_option maxRecDepth 100000 in
theorem ref_82_least (A0 : Option Addr) (c0 : Nat) (l0 : List Int) (a1 : Int) (w : World) (hr : (Kd.int .u8).C w A0 l0.length l0) (hc : l0.length ≤ c0) (h0 : 0 ≤ a1) (h1 : a1 ≤ (l0.length : Int)) (h2 : (l0.length : Int) ≤ 562949953421312) (l : List Int) (hl : l = l0.drop a1.toNat) (he : 1 < l.length) (ht : ¬ Go.bits .and .u8 (l.getD 0 0) 31 = 31) (hv1 : 130 = l.getD 1 0) (hk : 3 < l.length) (b2 : Int) (hv2 : b2 = l.getD 2 0) (g2 : 0 ≤ b2) (g3 : b2 ≤ 255) (b3 : Int) (hv3 : b3 = l.getD 3 0) (g4 : 0 ≤ b3) (g5 : b3 ≤ 255) (hn : b2 * 256 + b3 < 256) :
    Calls Try.prog 13 #[.slice A0 l0.length c0, .int .i64 a1] w fun e w' => e = .returned (.tuple #[.int .u8 0, .int .i64 0, .int .i64 0, .int .i64 13]) ∧ Drawn0 w w' := by
  have hb : decide (a1 < 0) = false := decide_eq_false (by omega)
  have hb2 : decide ((l0.length : Int) < a1) = false := decide_eq_false (by omega)
  have hln : l.length + a1.toNat = l0.length := by subst hl; simp only [List.length_drop]; omega
  obtain ⟨A, c, hcut, hC, hcl⟩ := rest_of A0 c0 l0 a1 h0 h1 hc l hl
  have q0 : (0 < l.length) = True := eq_true (by omega)
  have q1 : (1 < l.length) = True := eq_true (by omega)
  have q1i : ((1 : Int) < (l.length : Int)) = True := eq_true (by omega)
  have q2 : (2 < l.length) = True := eq_true (by omega)
  have q2i : ((2 : Int) < (l.length : Int)) = True := eq_true (by omega)
  have q3 : (3 < l.length) = True := eq_true (by omega)
  have q3i : ((3 : Int) < (l.length : Int)) = True := eq_true (by omega)
  obtain ⟨ad, e1, x0⟩ := byte_first (hC w hr) (of_eq_true q0)
  obtain ⟨ad1, e11, x1⟩ := byte_second (hC w hr) (of_eq_true q1)
  obtain ⟨ad2, e12, x2⟩ := byte_third (hC w hr) (of_eq_true q2)
  obtain ⟨ad3, e13, x3⟩ := byte_fourth (hC w hr) (of_eq_true q3)
  cases e1
  cases e11
  rw [← hv1] at x1
  cases e12
  rw [← hv2] at x2
  cases e13
  rw [← hv3] at x3
  have tg : (Go.bits .and .u8 (l.getD 0 0) 31 == 31) = false := beq_eq_false_iff_ne.mpr ht
  generalize l.getD 0 0 = b0 at *
  have na : decide ((l.length : Int) < 1) = false := decide_eq_false (by omega)
  have nb : decide (l.length < 1) = false := decide_eq_false (by omega)
  have pa : decide ((l.length : Int) < 2) = false := decide_eq_false (by omega)
  have pb : decide (l.length < 2) = false := decide_eq_false (by omega)
  have za : decide ((l.length : Int) < 4) = false := decide_eq_false (by omega)
  have zb : decide (l.length < 4) = false := decide_eq_false (by omega)
  have k0 : decide (b2 * 256 + b3 < 256) = true := decide_eq_true (by omega)
  have ob := or_bytes b2 b3 g2 g3 g4 g5
  have i2 : (l.length : Int) ≤ 562949953421312 := by omega
  have i3 : a1 ≤ 562949953421312 := by omega
  clear h1 hc hl hC hcl hr hln h2 he ht hv1 hv2 hv3 hk hn h0
  go_enter Try.func13, Try.ntmps13
  go_wp2
  repeat (go_quiet (fail); try go_wp2)
  refine bodyPost_ret (results_list (rs := [.tmp 4, .tmp 5, .tmp 6, .tmp 7]) rfl (by simp) (.tmp (.tmp (.tmp (.tmp .nil))))) rfl ?_
  exact ⟨rfl, by repeat (first | exact Drawn0.refl _ | apply Drawn0.step)⟩

set_option maxHeartbeats 1600000 in
set_option maxRecDepth 100000 in
theorem ref_82_short (A0 : Option Addr) (c0 : Nat) (l0 : List Int) (a1 : Int) (w : World) (hr : (Kd.int .u8).C w A0 l0.length l0) (hc : l0.length ≤ c0) (h0 : 0 ≤ a1) (h1 : a1 ≤ (l0.length : Int)) (h2 : (l0.length : Int) ≤ 562949953421312) (l : List Int) (hl : l = l0.drop a1.toNat) (he : 1 < l.length) (ht : ¬ Go.bits .and .u8 (l.getD 0 0) 31 = 31) (hv1 : 130 = l.getD 1 0) (hk : 3 < l.length) (b2 : Int) (hv2 : b2 = l.getD 2 0) (g2 : 0 ≤ b2) (g3 : b2 ≤ 255) (b3 : Int) (hv3 : b3 = l.getD 3 0) (g4 : 0 ≤ b3) (g5 : b3 ≤ 255) (hn : 256 ≤ b2 * 256 + b3) (hq : (l.length : Int) - 4 < b2 * 256 + b3) :
    Calls Try.prog 13 #[.slice A0 l0.length c0, .int .i64 a1] w fun e w' => e = .returned (.tuple #[.int .u8 0, .int .i64 0, .int .i64 0, .int .i64 12]) ∧ Drawn0 w w' := by
  have hb : decide (a1 < 0) = false := decide_eq_false (by omega)
  have hb2 : decide ((l0.length : Int) < a1) = false := decide_eq_false (by omega)
  have hln : l.length + a1.toNat = l0.length := by subst hl; simp only [List.length_drop]; omega
  obtain ⟨A, c, hcut, hC, hcl⟩ := rest_of A0 c0 l0 a1 h0 h1 hc l hl
  have q0 : (0 < l.length) = True := eq_true (by omega)
  have q1 : (1 < l.length) = True := eq_true (by omega)
  have q1i : ((1 : Int) < (l.length : Int)) = True := eq_true (by omega)
  have q2 : (2 < l.length) = True := eq_true (by omega)
  have q2i : ((2 : Int) < (l.length : Int)) = True := eq_true (by omega)
  have q3 : (3 < l.length) = True := eq_true (by omega)
  have q3i : ((3 : Int) < (l.length : Int)) = True := eq_true (by omega)
  obtain ⟨ad, e1, x0⟩ := byte_first (hC w hr) (of_eq_true q0)
  obtain ⟨ad1, e11, x1⟩ := byte_second (hC w hr) (of_eq_true q1)
  obtain ⟨ad2, e12, x2⟩ := byte_third (hC w hr) (of_eq_true q2)
  obtain ⟨ad3, e13, x3⟩ := byte_fourth (hC w hr) (of_eq_true q3)
  cases e1
  cases e11
  rw [← hv1] at x1
  cases e12
  rw [← hv2] at x2
  cases e13
  rw [← hv3] at x3
  have tg : (Go.bits .and .u8 (l.getD 0 0) 31 == 31) = false := beq_eq_false_iff_ne.mpr ht
  generalize l.getD 0 0 = b0 at *
  have na : decide ((l.length : Int) < 1) = false := decide_eq_false (by omega)
  have nb : decide (l.length < 1) = false := decide_eq_false (by omega)
  have pa : decide ((l.length : Int) < 2) = false := decide_eq_false (by omega)
  have pb : decide (l.length < 2) = false := decide_eq_false (by omega)
  have za : decide ((l.length : Int) < 4) = false := decide_eq_false (by omega)
  have zb : decide (l.length < 4) = false := decide_eq_false (by omega)
  have k0 : decide (b2 * 256 + b3 < 256) = false := decide_eq_false (by omega)
  have k1 : decide ((l.length : Int) - 2 - 2 < b2 * 256 + b3) = true := decide_eq_true (by omega)
  have k2 : decide ((l.length : Int) - 4 < b2 * 256 + b3) = true := decide_eq_true (by omega)
  have ob := or_bytes b2 b3 g2 g3 g4 g5
  have i2 : (l.length : Int) ≤ 562949953421312 := by omega
  have i3 : a1 ≤ 562949953421312 := by omega
  clear h1 hc hl hC hcl hr hln h2 he ht hv1 hv2 hv3 hk hn hq h0
  go_enter Try.func13, Try.ntmps13
  go_wp2
  repeat (go_quiet (fail); try go_wp2)
  refine bodyPost_ret (results_list (rs := [.tmp 4, .tmp 5, .tmp 6, .tmp 7]) rfl (by simp) (.tmp (.tmp (.tmp (.tmp .nil))))) rfl ?_
  exact ⟨rfl, by repeat (first | exact Drawn0.refl _ | apply Drawn0.step)⟩

set_option maxHeartbeats 1600000 in
set_option maxRecDepth 100000 in
theorem ref_82_ok (A0 : Option Addr) (c0 : Nat) (l0 : List Int) (a1 : Int) (w : World) (hr : (Kd.int .u8).C w A0 l0.length l0) (hc : l0.length ≤ c0) (h0 : 0 ≤ a1) (h1 : a1 ≤ (l0.length : Int)) (h2 : (l0.length : Int) ≤ 562949953421312) (l : List Int) (hl : l = l0.drop a1.toNat) (he : 1 < l.length) (ht : ¬ Go.bits .and .u8 (l.getD 0 0) 31 = 31) (hv1 : 130 = l.getD 1 0) (hk : 3 < l.length) (b2 : Int) (hv2 : b2 = l.getD 2 0) (g2 : 0 ≤ b2) (g3 : b2 ≤ 255) (b3 : Int) (hv3 : b3 = l.getD 3 0) (g4 : 0 ≤ b3) (g5 : b3 ≤ 255) (hn : 256 ≤ b2 * 256 + b3) (hq : b2 * 256 + b3 ≤ (l.length : Int) - 4) :
    Calls Try.prog 13 #[.slice A0 l0.length c0, .int .i64 a1] w fun e w' => e = .returned (.tuple #[.int .u8 (l.getD 0 0), .int .i64 (a1 + 2 + 2), .int .i64 (a1 + 2 + 2 + (b2 * 256 + b3)), .int .i64 0]) ∧ Drawn0 w w' := by
  have hb : decide (a1 < 0) = false := decide_eq_false (by omega)
  have hb2 : decide ((l0.length : Int) < a1) = false := decide_eq_false (by omega)
  have hln : l.length + a1.toNat = l0.length := by subst hl; simp only [List.length_drop]; omega
  obtain ⟨A, c, hcut, hC, hcl⟩ := rest_of A0 c0 l0 a1 h0 h1 hc l hl
  have q0 : (0 < l.length) = True := eq_true (by omega)
  have q1 : (1 < l.length) = True := eq_true (by omega)
  have q1i : ((1 : Int) < (l.length : Int)) = True := eq_true (by omega)
  have q2 : (2 < l.length) = True := eq_true (by omega)
  have q2i : ((2 : Int) < (l.length : Int)) = True := eq_true (by omega)
  have q3 : (3 < l.length) = True := eq_true (by omega)
  have q3i : ((3 : Int) < (l.length : Int)) = True := eq_true (by omega)
  obtain ⟨ad, e1, x0⟩ := byte_first (hC w hr) (of_eq_true q0)
  obtain ⟨ad1, e11, x1⟩ := byte_second (hC w hr) (of_eq_true q1)
  obtain ⟨ad2, e12, x2⟩ := byte_third (hC w hr) (of_eq_true q2)
  obtain ⟨ad3, e13, x3⟩ := byte_fourth (hC w hr) (of_eq_true q3)
  cases e1
  cases e11
  rw [← hv1] at x1
  cases e12
  rw [← hv2] at x2
  cases e13
  rw [← hv3] at x3
  have tg : (Go.bits .and .u8 (l.getD 0 0) 31 == 31) = false := beq_eq_false_iff_ne.mpr ht
  generalize l.getD 0 0 = b0 at *
  have na : decide ((l.length : Int) < 1) = false := decide_eq_false (by omega)
  have nb : decide (l.length < 1) = false := decide_eq_false (by omega)
  have pa : decide ((l.length : Int) < 2) = false := decide_eq_false (by omega)
  have pb : decide (l.length < 2) = false := decide_eq_false (by omega)
  have za : decide ((l.length : Int) < 4) = false := decide_eq_false (by omega)
  have zb : decide (l.length < 4) = false := decide_eq_false (by omega)
  have k0 : decide (b2 * 256 + b3 < 256) = false := decide_eq_false (by omega)
  have k1 : decide ((l.length : Int) - 2 - 2 < b2 * 256 + b3) = false := decide_eq_false (by omega)
  have k2 : decide ((l.length : Int) - 4 < b2 * 256 + b3) = false := decide_eq_false (by omega)
  have ob := or_bytes b2 b3 g2 g3 g4 g5
  have i2 : (l.length : Int) ≤ 562949953421312 := by omega
  have i3 : a1 ≤ 562949953421312 := by omega
  clear h1 hc hl hC hcl hr hln h2 he ht hv1 hv2 hv3 hk hn hq
  go_enter Try.func13, Try.ntmps13
  go_wp2
  repeat (go_quiet (fail); try go_wp2)
  refine bodyPost_ret (results_list (rs := [.tmp 4, .tmp 5, .tmp 6, .tmp 7]) rfl (by simp) (.tmp (.tmp (.tmp (.tmp .nil))))) rfl ?_
  exact ⟨rfl, by repeat (first | exact Drawn0.refl _ | apply Drawn0.step)⟩

end Go.Proofs.Ythfglkpmjamhmaa.Own
