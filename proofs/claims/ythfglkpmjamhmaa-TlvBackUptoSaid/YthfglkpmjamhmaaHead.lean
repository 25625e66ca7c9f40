/- What is proved here: the call of the program's function tlv.Head, way by way, for each list of bytes and each place: the error, or the tag and the places, and that nothing is written. -/
import Derived.Test.YthfglkpmjamhmaaBase
import Derived.WalkMore
import Derived.ScopeJumps
namespace Go.Proofs.Ythfglkpmjamhmaa.Own
open Go.RowKit Go.Proofs.YthfglkpmjamhmaaW.PrintWords Go.Proofs.YthfglkpmjamhmaaW.PrintLast Go.Proofs.YthfglkpmjamhmaaW.PrintMore
set_option linter.unusedVariables false
set_option linter.unusedSimpArgs false

/-- What holds at the jump: the error's number lies in its slot, and nothing was written. -/
def Wrong (err : Int) (w : World) (a' : Act) (w' : World) : Prop := Drawn0 w w' ∧ ∃ f : Nat → Value, a' = { tmps := #[f 0, f 1, f 2, f 3, f 4, f 5, f 6, f 7, f 8, f 9, .int .i64 err, f 11, f 12, f 13, f 14, f 15, f 16, f 17, f 18, f 19, f 20, f 21, f 22, f 23, f 24, f 25, f 26, f 27, f 28, f 29, f 30, f 31, f 32, f 33, f 34, f 35, f 36, f 37, f 38, f 39, f 40, f 41, f 42, f 43, f 44, f 45, f 46, f 47, f 48, f 49, f 50, f 51, f 52, f 53, f 54, f 55, f 56, f 57, f 58, f 59, f 60, f 61, f 62, f 63, f 64, f 65, f 66, f 67, f 68, f 69, f 70, f 71, f 72, f 73, f 74, f 75, f 76, f 77, f 78, f 79, f 80, f 81, f 82, f 83, f 84, f 85, f 86, f 87, f 88, f 89, f 90, f 91, f 92, f 93, f 94], defers := [] }
theorem Wrong.mk_ {err : Int} {w w' : World} {u0 u1 u2 u3 u4 u5 u6 u7 u8 u9 u11 u12 u13 u14 u15 u16 u17 u18 u19 u20 u21 u22 u23 u24 u25 u26 u27 u28 u29 u30 u31 u32 u33 u34 u35 u36 u37 u38 u39 u40 u41 u42 u43 u44 u45 u46 u47 u48 u49 u50 u51 u52 u53 u54 u55 u56 u57 u58 u59 u60 u61 u62 u63 u64 u65 u66 u67 u68 u69 u70 u71 u72 u73 u74 u75 u76 u77 u78 u79 u80 u81 u82 u83 u84 u85 u86 u87 u88 u89 u90 u91 u92 u93 u94 : Value} (h : Drawn0 w w') : Wrong err w { tmps := #[u0, u1, u2, u3, u4, u5, u6, u7, u8, u9, .int .i64 err, u11, u12, u13, u14, u15, u16, u17, u18, u19, u20, u21, u22, u23, u24, u25, u26, u27, u28, u29, u30, u31, u32, u33, u34, u35, u36, u37, u38, u39, u40, u41, u42, u43, u44, u45, u46, u47, u48, u49, u50, u51, u52, u53, u54, u55, u56, u57, u58, u59, u60, u61, u62, u63, u64, u65, u66, u67, u68, u69, u70, u71, u72, u73, u74, u75, u76, u77, u78, u79, u80, u81, u82, u83, u84, u85, u86, u87, u88, u89, u90, u91, u92, u93, u94], defers := [] } w' := ⟨h, fun i => #[u0, u1, u2, u3, u4, u5, u6, u7, u8, u9, .int .i64 err, u11, u12, u13, u14, u15, u16, u17, u18, u19, u20, u21, u22, u23, u24, u25, u26, u27, u28, u29, u30, u31, u32, u33, u34, u35, u36, u37, u38, u39, u40, u41, u42, u43, u44, u45, u46, u47, u48, u49, u50, u51, u52, u53, u54, u55, u56, u57, u58, u59, u60, u61, u62, u63, u64, u65, u66, u67, u68, u69, u70, u71, u72, u73, u74, u75, u76, u77, u78, u79, u80, u81, u82, u83, u84, u85, u86, u87, u88, u89, u90, u91, u92, u93, u94].getD i undef, rfl⟩

set_option maxHeartbeats 800000 in
set_option maxRecDepth 100000 in
theorem head_neg (A0 : Option Addr) (c0 : Nat) (l0 : List Int) (a1 : Int) (w : World) (h : a1 < 0) :
    Calls Try.prog 12 #[.slice A0 l0.length c0, .int .i64 a1] w fun e w' => e = .returned (.tuple #[.int .u8 0, .int .i64 0, .int .i64 0, .int .i64 1]) ∧ Drawn0 w w' := by
  have hb : decide (a1 < 0) = true := decide_eq_true h
  clear h
  go_enter Try.func12, Try.ntmps12
  go_wp2
  go_step3
  go_wp2
  rw [Exit.noGoto_ret]
  refine bodyPost_ret (results_list (rs := [.tmp 4, .tmp 5, .tmp 6, .tmp 7]) rfl (by simp) (.tmp (.tmp (.tmp (.tmp .nil))))) rfl ?_
  exact ⟨rfl, Drawn0.refl _⟩

set_option maxHeartbeats 800000 in
set_option maxRecDepth 100000 in
theorem head_out (A0 : Option Addr) (c0 : Nat) (l0 : List Int) (a1 : Int) (w : World) (h0 : ¬ a1 < 0) (h : (l0.length : Int) < a1) :
    Calls Try.prog 12 #[.slice A0 l0.length c0, .int .i64 a1] w fun e w' => e = .returned (.tuple #[.int .u8 0, .int .i64 0, .int .i64 0, .int .i64 1]) ∧ Drawn0 w w' := by
  have hb : decide (a1 < 0) = false := decide_eq_false h0
  have hb2 : decide ((l0.length : Int) < a1) = true := decide_eq_true h
  clear h h0
  go_enter Try.func12, Try.ntmps12
  go_wp2
  go_step3
  go_wp2
  rw [Exit.noGoto_ret]
  refine bodyPost_ret (results_list (rs := [.tmp 4, .tmp 5, .tmp 6, .tmp 7]) rfl (by simp) (.tmp (.tmp (.tmp (.tmp .nil))))) rfl ?_
  exact ⟨rfl, Drawn0.refl _⟩

/-- The rest of a slice, from a place on: its value, and what is known of it. -/
theorem rest_of (A0 : Option Addr) (c0 : Nat) (l0 : List Int) (a1 : Int) (h0 : 0 ≤ a1) (h1 : a1 ≤ (l0.length : Int)) (hc : l0.length ≤ c0) (l : List Int) (hl : l = l0.drop a1.toNat) :
    ∃ (A : Option Addr) (c : Nat), (∀ W : World, (Instr.slice 22 (.slice A0 l0.length c0) (some (.int .i64 a1)) none none).run Try.prog W = .ok (.slice A l.length c) W) ∧
      (∀ W : World, (Kd.int .u8).C W A0 l0.length l0 → (Kd.int .u8).C W A l.length l) ∧ l.length ≤ c := by
  subst hl
  obtain ⟨i0, hi, _, hsz, _⟩ := info_parts info5
  obtain ⟨A, hcut, hA, hC⟩ := print_drop_of (P := Try.prog) (Value.int .u8) 0 22 5 .i64 Try.underlying22 hi hsz A0 c0 l0 a1 h0 h1 hc
  exact ⟨A, _, hcut, fun W h => Kd.C_of_reads (h1 := fun _ => rfl) (hA W (Kd.reads_of_C h)), hC⟩

/-- A byte of a list that is read, at a place. -/
theorem byte_at {w : World} {A : Option Addr} {l : List Int} (h : (Kd.int .u8).C w A l.length l) (j : Nat) (hj : j < l.length) : ∃ ad, A = some ad ∧ w.cell? (ad.add j) = some (.int .u8 (l.getD j 0)) := by
  obtain ⟨ad, e, hc⟩ := Kd.at_int h (j : Int) (by omega) (by omega)
  exact ⟨ad, e, by simpa [rd] using hc⟩
theorem byte_first {w : World} {A : Option Addr} {l : List Int} (h : (Kd.int .u8).C w A l.length l) (hj : 0 < l.length) : ∃ ad, A = some ad ∧ w.cell? ad = some (.int .u8 (l.getD 0 0)) := by
  obtain ⟨ad, e, hc⟩ := byte_at h 0 hj
  exact ⟨ad, e, by rwa [Addr.add_zero'] at hc⟩
theorem byte_second {w : World} {A : Option Addr} {l : List Int} (h : (Kd.int .u8).C w A l.length l) (hj : 1 < l.length) : ∃ ad, A = some ad ∧ w.cell? { block := ad.block, off := ad.off + 1 } = some (.int .u8 (l.getD 1 0)) := by
  obtain ⟨ad, e, hc⟩ := byte_at h 1 hj
  exact ⟨ad, e, by rwa [show ad.add 1 = { block := ad.block, off := ad.off + 1 } from by simp [Addr.add]] at hc⟩

set_option maxHeartbeats 1600000 in
set_option maxRecDepth 100000 in
theorem head_empty (A0 : Option Addr) (c0 : Nat) (l0 : List Int) (a1 : Int) (w : World) (hr : (Kd.int .u8).C w A0 l0.length l0) (hc : l0.length ≤ c0) (h0 : 0 ≤ a1) (h1 : a1 ≤ (l0.length : Int)) (l : List Int) (hl : l = l0.drop a1.toNat) (he : l.length = 0) :
    Calls Try.prog 12 #[.slice A0 l0.length c0, .int .i64 a1] w fun e w' => e = .returned (.tuple #[.int .u8 0, .int .i64 0, .int .i64 0, .int .i64 12]) ∧ Drawn0 w w' := by
  have hb : decide (a1 < 0) = false := decide_eq_false (by omega)
  have hb2 : decide ((l0.length : Int) < a1) = false := decide_eq_false (by omega)
  obtain ⟨A, c, hcut, hC, hcl⟩ := rest_of A0 c0 l0 a1 h0 h1 hc l hl
  have na0 : decide (0 < (l.length : Int)) = false := decide_eq_false (by omega)
  have nb0 : decide (0 < l.length) = false := decide_eq_false (by omega)
  have na1 : decide ((l.length : Int) < 2) = true := decide_eq_true (by omega)
  have nb1 : decide (l.length < 2) = true := decide_eq_true (by omega)
  clear h0 h1 hc he hl hC hcl hr
  go_enter Try.func12, Try.ntmps12
  go_wp2
  refine wp_scope_jumps 0 (Wrong 12 w) (fun _ _ => 0) rfl ?_ ?_
  · go_wp2
    go_step3
    exact ⟨rfl, Wrong.mk_ (by repeat (first | exact Drawn0.refl _ | apply Drawn0.step))⟩
  · rintro a' w' ⟨hd, f, rfl⟩
    go_wp2
    simp only [Exit.jump]
    refine bodyPost_ret (results_list (rs := [.tmp 4, .tmp 5, .tmp 6, .tmp 7]) rfl (by simp) (.tmp (.tmp (.tmp (.tmp .nil))))) rfl ?_
    exact ⟨rfl, hd⟩

set_option maxHeartbeats 1600000 in
set_option maxRecDepth 100000 in
theorem head_tag (A0 : Option Addr) (c0 : Nat) (l0 : List Int) (a1 : Int) (w : World) (hr : (Kd.int .u8).C w A0 l0.length l0) (hc : l0.length ≤ c0) (h0 : 0 ≤ a1) (h1 : a1 ≤ (l0.length : Int)) (l : List Int) (hl : l = l0.drop a1.toNat) (he : 0 < l.length) (ht : Go.bits .and .u8 (l.getD 0 0) 31 = 31) :
    Calls Try.prog 12 #[.slice A0 l0.length c0, .int .i64 a1] w fun e w' => e = .returned (.tuple #[.int .u8 0, .int .i64 0, .int .i64 0, .int .i64 11]) ∧ Drawn0 w w' := by
  have hb : decide (a1 < 0) = false := decide_eq_false (by omega)
  have hb2 : decide ((l0.length : Int) < a1) = false := decide_eq_false (by omega)
  obtain ⟨A, c, hcut, hC, hcl⟩ := rest_of A0 c0 l0 a1 h0 h1 hc l hl
  have q0 : (0 < l.length) = True := eq_true (by omega)
  obtain ⟨ad, e1, x0⟩ := byte_first (hC w hr) (of_eq_true q0)
  cases e1
  have tg : (Go.bits .and .u8 (l.getD 0 0) 31 == 31) = true := beq_iff_eq.mpr ht
  generalize l.getD 0 0 = b0 at *
  have na0 : decide (0 < (l.length : Int)) = true := decide_eq_true (by omega)
  have nb0 : decide (0 < l.length) = true := decide_eq_true (by omega)
  clear h0 h1 hc he hl hC hcl hr ht
  go_enter Try.func12, Try.ntmps12
  go_wp2
  refine wp_scope_jumps 0 (Wrong 11 w) (fun _ _ => 0) rfl ?_ ?_
  · go_wp2
    go_step3
    exact ⟨rfl, Wrong.mk_ (by repeat (first | exact Drawn0.refl _ | apply Drawn0.step))⟩
  · rintro a' w' ⟨hd, f, rfl⟩
    go_wp2
    simp only [Exit.jump]
    refine bodyPost_ret (results_list (rs := [.tmp 4, .tmp 5, .tmp 6, .tmp 7]) rfl (by simp) (.tmp (.tmp (.tmp (.tmp .nil))))) rfl ?_
    exact ⟨rfl, hd⟩

set_option maxHeartbeats 1600000 in
set_option maxRecDepth 100000 in
theorem head_one (A0 : Option Addr) (c0 : Nat) (l0 : List Int) (a1 : Int) (w : World) (hr : (Kd.int .u8).C w A0 l0.length l0) (hc : l0.length ≤ c0) (h0 : 0 ≤ a1) (h1 : a1 ≤ (l0.length : Int)) (l : List Int) (hl : l = l0.drop a1.toNat) (he : l.length = 1) (ht : ¬ Go.bits .and .u8 (l.getD 0 0) 31 = 31) :
    Calls Try.prog 12 #[.slice A0 l0.length c0, .int .i64 a1] w fun e w' => e = .returned (.tuple #[.int .u8 0, .int .i64 0, .int .i64 0, .int .i64 12]) ∧ Drawn0 w w' := by
  have hb : decide (a1 < 0) = false := decide_eq_false (by omega)
  have hb2 : decide ((l0.length : Int) < a1) = false := decide_eq_false (by omega)
  obtain ⟨A, c, hcut, hC, hcl⟩ := rest_of A0 c0 l0 a1 h0 h1 hc l hl
  have q0 : (0 < l.length) = True := eq_true (by omega)
  obtain ⟨ad, e1, x0⟩ := byte_first (hC w hr) (of_eq_true q0)
  cases e1
  have tg : (Go.bits .and .u8 (l.getD 0 0) 31 == 31) = false := beq_eq_false_iff_ne.mpr ht
  generalize l.getD 0 0 = b0 at *
  have na0 : decide (0 < (l.length : Int)) = true := decide_eq_true (by omega)
  have nb0 : decide (0 < l.length) = true := decide_eq_true (by omega)
  have na1 : decide ((l.length : Int) < 2) = true := decide_eq_true (by omega)
  have nb1 : decide (l.length < 2) = true := decide_eq_true (by omega)
  clear h0 h1 hc he hl hC hcl hr ht
  go_enter Try.func12, Try.ntmps12
  go_wp2
  refine wp_scope_jumps 0 (Wrong 12 w) (fun _ _ => 0) rfl ?_ ?_
  · go_wp2
    go_step3
    exact ⟨rfl, Wrong.mk_ (by repeat (first | exact Drawn0.refl _ | apply Drawn0.step))⟩
  · rintro a' w' ⟨hd, f, rfl⟩
    go_wp2
    simp only [Exit.jump]
    refine bodyPost_ret (results_list (rs := [.tmp 4, .tmp 5, .tmp 6, .tmp 7]) rfl (by simp) (.tmp (.tmp (.tmp (.tmp .nil))))) rfl ?_
    exact ⟨rfl, hd⟩

set_option maxHeartbeats 1600000 in
set_option maxRecDepth 100000 in
theorem head_bad (A0 : Option Addr) (c0 : Nat) (l0 : List Int) (a1 : Int) (w : World) (hr : (Kd.int .u8).C w A0 l0.length l0) (hc : l0.length ≤ c0) (h0 : 0 ≤ a1) (h1 : a1 ≤ (l0.length : Int)) (l : List Int) (hl : l = l0.drop a1.toNat) (he : 1 < l.length) (ht : ¬ Go.bits .and .u8 (l.getD 0 0) 31 = 31) (m : List Int) (hm : m = l.drop 2) (b1 : Int) (hb1 : b1 = l.getD 1 0) (g0 : 0 ≤ b1) (g1 : b1 ≤ 255) (hs : 127 < b1) (hs1 : b1 ≠ 129) (hs2 : b1 ≠ 130) :
    Calls Try.prog 12 #[.slice A0 l0.length c0, .int .i64 a1] w fun e w' => e = .returned (.tuple #[.int .u8 0, .int .i64 0, .int .i64 0, .int .i64 13]) ∧ Drawn0 w w' := by
  have hb : decide (a1 < 0) = false := decide_eq_false (by omega)
  have hb2 : decide ((l0.length : Int) < a1) = false := decide_eq_false (by omega)
  obtain ⟨A, c, hcut, hC, hcl⟩ := rest_of A0 c0 l0 a1 h0 h1 hc l hl
  have q0 : (0 < l.length) = True := eq_true (by omega)
  have q1 : (1 < l.length) = True := eq_true he
  have q1i : ((1 : Int) < (l.length : Int)) = True := eq_true (by omega)
  obtain ⟨ad, e1, x0⟩ := byte_first (hC w hr) (of_eq_true q0)
  obtain ⟨ad', e2, x1⟩ := byte_second (hC w hr) (of_eq_true q1)
  cases e1
  cases e2
  rw [← hb1] at x1
  have tg : (Go.bits .and .u8 (l.getD 0 0) 31 == 31) = false := beq_eq_false_iff_ne.mpr ht
  generalize l.getD 0 0 = b0 at *
  have na0 : decide (0 < (l.length : Int)) = true := decide_eq_true (by omega)
  have nb0 : decide (0 < l.length) = true := decide_eq_true (by omega)
  have na1 : decide ((l.length : Int) < 2) = false := decide_eq_false (by omega)
  have nb1 : decide (l.length < 2) = false := decide_eq_false (by omega)
  obtain ⟨A2, c2, hcut2, hC2, hcl2⟩ := rest_of (some ad) c l 2 (by omega) (by omega) hcl m hm
  have s0 : (b1 == 129) = false := beq_eq_false_iff_ne.mpr (by omega)
  have s1 : (b1 == 130) = false := beq_eq_false_iff_ne.mpr (by omega)
  have s2 : decide (127 < b1) = true := decide_eq_true (by omega)
  clear h0 h1 hc he hl hC hcl hr ht hm hb1 hC2 hcl2 hs hs1 hs2
  go_enter Try.func12, Try.ntmps12
  go_wp2
  refine wp_scope_jumps 0 (Wrong 13 w) (fun _ _ => 0) rfl ?_ ?_
  · go_wp2
    go_step3
    exact ⟨rfl, Wrong.mk_ (by repeat (first | exact Drawn0.refl _ | apply Drawn0.step))⟩
  · rintro a' w' ⟨hd, f, rfl⟩
    go_wp2
    simp only [Exit.jump]
    refine bodyPost_ret (results_list (rs := [.tmp 4, .tmp 5, .tmp 6, .tmp 7]) rfl (by simp) (.tmp (.tmp (.tmp (.tmp .nil))))) rfl ?_
    exact ⟨rfl, hd⟩

set_option maxHeartbeats 1600000 in
set_option maxRecDepth 100000 in
theorem head_s_short (A0 : Option Addr) (c0 : Nat) (l0 : List Int) (a1 : Int) (w : World) (hr : (Kd.int .u8).C w A0 l0.length l0) (hc : l0.length ≤ c0) (h0 : 0 ≤ a1) (h1 : a1 ≤ (l0.length : Int)) (l : List Int) (hl : l = l0.drop a1.toNat) (he : 1 < l.length) (ht : ¬ Go.bits .and .u8 (l.getD 0 0) 31 = 31) (m : List Int) (hm : m = l.drop 2) (b1 : Int) (hb1 : b1 = l.getD 1 0) (g0 : 0 ≤ b1) (g1 : b1 ≤ 255) (hs : b1 ≤ 127) (hk : (m.length : Int) < b1) :
    Calls Try.prog 12 #[.slice A0 l0.length c0, .int .i64 a1] w fun e w' => e = .returned (.tuple #[.int .u8 0, .int .i64 0, .int .i64 0, .int .i64 12]) ∧ Drawn0 w w' := by
  have hb : decide (a1 < 0) = false := decide_eq_false (by omega)
  have hb2 : decide ((l0.length : Int) < a1) = false := decide_eq_false (by omega)
  obtain ⟨A, c, hcut, hC, hcl⟩ := rest_of A0 c0 l0 a1 h0 h1 hc l hl
  have q0 : (0 < l.length) = True := eq_true (by omega)
  have q1 : (1 < l.length) = True := eq_true he
  have q1i : ((1 : Int) < (l.length : Int)) = True := eq_true (by omega)
  obtain ⟨ad, e1, x0⟩ := byte_first (hC w hr) (of_eq_true q0)
  obtain ⟨ad', e2, x1⟩ := byte_second (hC w hr) (of_eq_true q1)
  cases e1
  cases e2
  rw [← hb1] at x1
  have tg : (Go.bits .and .u8 (l.getD 0 0) 31 == 31) = false := beq_eq_false_iff_ne.mpr ht
  generalize l.getD 0 0 = b0 at *
  have na0 : decide (0 < (l.length : Int)) = true := decide_eq_true (by omega)
  have nb0 : decide (0 < l.length) = true := decide_eq_true (by omega)
  have na1 : decide ((l.length : Int) < 2) = false := decide_eq_false (by omega)
  have nb1 : decide (l.length < 2) = false := decide_eq_false (by omega)
  obtain ⟨A2, c2, hcut2, hC2, hcl2⟩ := rest_of (some ad) c l 2 (by omega) (by omega) hcl m hm
  have s0 : (b1 == 129) = false := beq_eq_false_iff_ne.mpr (by omega)
  have s1 : (b1 == 130) = false := beq_eq_false_iff_ne.mpr (by omega)
  have s2 : decide (127 < b1) = false := decide_eq_false (by omega)
  have k0 : decide (b1 < 0) = false := decide_eq_false (by omega)
  have k1 : decide (b1 ≤ (m.length : Int)) = false := decide_eq_false (by omega)
  clear h0 h1 hc he hl hC hcl hr ht hm hb1 hC2 hcl2 hs hk
  go_enter Try.func12, Try.ntmps12
  go_wp2
  refine wp_scope_jumps 0 (Wrong 12 w) (fun _ _ => 0) rfl ?_ ?_
  · go_wp2
    go_step3
    go_wp2
    simp only [Exit.jump]
    refine bodyPost_ret (results_list (rs := [.tmp 4, .tmp 5, .tmp 6, .tmp 7]) rfl (by simp) (.tmp (.tmp (.tmp (.tmp .nil))))) rfl ?_
    exact ⟨rfl, by repeat (first | exact Drawn0.refl _ | apply Drawn0.step)⟩
  · rintro a' w' ⟨hd, f, rfl⟩
    go_wp2
    simp only [Exit.jump]
    refine bodyPost_ret (results_list (rs := [.tmp 4, .tmp 5, .tmp 6, .tmp 7]) rfl (by simp) (.tmp (.tmp (.tmp (.tmp .nil))))) rfl ?_
    exact ⟨rfl, hd⟩

set_option maxHeartbeats 1600000 in
set_option maxRecDepth 100000 in
theorem head_81_none (A0 : Option Addr) (c0 : Nat) (l0 : List Int) (a1 : Int) (w : World) (hr : (Kd.int .u8).C w A0 l0.length l0) (hc : l0.length ≤ c0) (h0 : 0 ≤ a1) (h1 : a1 ≤ (l0.length : Int)) (l : List Int) (hl : l = l0.drop a1.toNat) (he : 1 < l.length) (ht : ¬ Go.bits .and .u8 (l.getD 0 0) 31 = 31) (m : List Int) (hm : m = l.drop 2) (b1 : Int) (hb1 : b1 = l.getD 1 0) (g0 : 0 ≤ b1) (g1 : b1 ≤ 255) (hs : b1 = 129) (hk : m.length < 1) :
    Calls Try.prog 12 #[.slice A0 l0.length c0, .int .i64 a1] w fun e w' => e = .returned (.tuple #[.int .u8 0, .int .i64 0, .int .i64 0, .int .i64 12]) ∧ Drawn0 w w' := by
  have hb : decide (a1 < 0) = false := decide_eq_false (by omega)
  have hb2 : decide ((l0.length : Int) < a1) = false := decide_eq_false (by omega)
  obtain ⟨A, c, hcut, hC, hcl⟩ := rest_of A0 c0 l0 a1 h0 h1 hc l hl
  have q0 : (0 < l.length) = True := eq_true (by omega)
  have q1 : (1 < l.length) = True := eq_true he
  have q1i : ((1 : Int) < (l.length : Int)) = True := eq_true (by omega)
  obtain ⟨ad, e1, x0⟩ := byte_first (hC w hr) (of_eq_true q0)
  obtain ⟨ad', e2, x1⟩ := byte_second (hC w hr) (of_eq_true q1)
  cases e1
  cases e2
  rw [← hb1] at x1
  have tg : (Go.bits .and .u8 (l.getD 0 0) 31 == 31) = false := beq_eq_false_iff_ne.mpr ht
  generalize l.getD 0 0 = b0 at *
  have na0 : decide (0 < (l.length : Int)) = true := decide_eq_true (by omega)
  have nb0 : decide (0 < l.length) = true := decide_eq_true (by omega)
  have na1 : decide ((l.length : Int) < 2) = false := decide_eq_false (by omega)
  have nb1 : decide (l.length < 2) = false := decide_eq_false (by omega)
  obtain ⟨A2, c2, hcut2, hC2, hcl2⟩ := rest_of (some ad) c l 2 (by omega) (by omega) hcl m hm
  have s0 : (b1 == 129) = true := beq_iff_eq.mpr (by omega)
  have za : decide ((m.length : Int) < 1) = true := decide_eq_true (by omega)
  have zb : decide (m.length < 1) = true := decide_eq_true (by omega)
  clear h0 h1 hc he hl hC hcl hr ht hm hb1 hC2 hcl2 hs hk
  go_enter Try.func12, Try.ntmps12
  go_wp2
  refine wp_scope_jumps 0 (Wrong 12 w) (fun _ _ => 0) rfl ?_ ?_
  · go_wp2
    go_step3
    exact ⟨rfl, Wrong.mk_ (by repeat (first | exact Drawn0.refl _ | apply Drawn0.step))⟩
  · rintro a' w' ⟨hd, f, rfl⟩
    go_wp2
    simp only [Exit.jump]
    refine bodyPost_ret (results_list (rs := [.tmp 4, .tmp 5, .tmp 6, .tmp 7]) rfl (by simp) (.tmp (.tmp (.tmp (.tmp .nil))))) rfl ?_
    exact ⟨rfl, hd⟩

set_option maxHeartbeats 1600000 in
set_option maxRecDepth 100000 in
theorem head_81_least (A0 : Option Addr) (c0 : Nat) (l0 : List Int) (a1 : Int) (w : World) (hr : (Kd.int .u8).C w A0 l0.length l0) (hc : l0.length ≤ c0) (h0 : 0 ≤ a1) (h1 : a1 ≤ (l0.length : Int)) (l : List Int) (hl : l = l0.drop a1.toNat) (he : 1 < l.length) (ht : ¬ Go.bits .and .u8 (l.getD 0 0) 31 = 31) (m : List Int) (hm : m = l.drop 2) (b1 : Int) (hb1 : b1 = l.getD 1 0) (g0 : 0 ≤ b1) (g1 : b1 ≤ 255) (hs : b1 = 129) (hm1 : 1 ≤ m.length) (k : List Int) (hk : k = m.drop 1) (b2 : Int) (hv2 : b2 = m.getD 0 0) (g2 : 0 ≤ b2) (g3 : b2 ≤ 255) (hn : b2 < 128) :
    Calls Try.prog 12 #[.slice A0 l0.length c0, .int .i64 a1] w fun e w' => e = .returned (.tuple #[.int .u8 0, .int .i64 0, .int .i64 0, .int .i64 13]) ∧ Drawn0 w w' := by
  have hb : decide (a1 < 0) = false := decide_eq_false (by omega)
  have hb2 : decide ((l0.length : Int) < a1) = false := decide_eq_false (by omega)
  obtain ⟨A, c, hcut, hC, hcl⟩ := rest_of A0 c0 l0 a1 h0 h1 hc l hl
  have q0 : (0 < l.length) = True := eq_true (by omega)
  have q1 : (1 < l.length) = True := eq_true he
  have q1i : ((1 : Int) < (l.length : Int)) = True := eq_true (by omega)
  obtain ⟨ad, e1, x0⟩ := byte_first (hC w hr) (of_eq_true q0)
  obtain ⟨ad', e2, x1⟩ := byte_second (hC w hr) (of_eq_true q1)
  cases e1
  cases e2
  rw [← hb1] at x1
  have tg : (Go.bits .and .u8 (l.getD 0 0) 31 == 31) = false := beq_eq_false_iff_ne.mpr ht
  generalize l.getD 0 0 = b0 at *
  have na0 : decide (0 < (l.length : Int)) = true := decide_eq_true (by omega)
  have nb0 : decide (0 < l.length) = true := decide_eq_true (by omega)
  have na1 : decide ((l.length : Int) < 2) = false := decide_eq_false (by omega)
  have nb1 : decide (l.length < 2) = false := decide_eq_false (by omega)
  obtain ⟨A2, c2, hcut2, hC2, hcl2⟩ := rest_of (some ad) c l 2 (by omega) (by omega) hcl m hm
  have s0 : (b1 == 129) = true := beq_iff_eq.mpr (by omega)
  have za : decide ((m.length : Int) < 1) = false := decide_eq_false (by omega)
  have zb : decide (m.length < 1) = false := decide_eq_false (by omega)
  have z0 : (0 < m.length) = True := eq_true (by omega)
  obtain ⟨ad2, e3, x2⟩ := byte_first (hC2 w (hC w hr)) (of_eq_true z0)
  cases e3
  rw [← hv2] at x2
  obtain ⟨A3, c3, hcut3, hC3, hcl3⟩ := rest_of (some ad2) c2 m 1 (by omega) (by omega) hcl2 k hk
  have k0 : decide (b2 < 128) = true := decide_eq_true (by omega)
  clear h0 h1 hc he hl hC hcl hr ht hm hb1 hC2 hcl2 hs hm1 hk hv2 hC3 hcl3 hn
  go_enter Try.func12, Try.ntmps12
  go_wp2
  refine wp_scope_jumps 0 (Wrong 13 w) (fun _ _ => 0) rfl ?_ ?_
  · go_wp2
    repeat (go_quiet (fail); try go_wp2)
    go_step3
    exact ⟨rfl, Wrong.mk_ (by repeat (first | exact Drawn0.refl _ | apply Drawn0.step))⟩
  · rintro a' w' ⟨hd, f, rfl⟩
    go_wp2
    simp only [Exit.jump]
    refine bodyPost_ret (results_list (rs := [.tmp 4, .tmp 5, .tmp 6, .tmp 7]) rfl (by simp) (.tmp (.tmp (.tmp (.tmp .nil))))) rfl ?_
    exact ⟨rfl, hd⟩

set_option maxHeartbeats 1600000 in
set_option maxRecDepth 100000 in
theorem head_81_short (A0 : Option Addr) (c0 : Nat) (l0 : List Int) (a1 : Int) (w : World) (hr : (Kd.int .u8).C w A0 l0.length l0) (hc : l0.length ≤ c0) (h0 : 0 ≤ a1) (h1 : a1 ≤ (l0.length : Int)) (l : List Int) (hl : l = l0.drop a1.toNat) (he : 1 < l.length) (ht : ¬ Go.bits .and .u8 (l.getD 0 0) 31 = 31) (m : List Int) (hm : m = l.drop 2) (b1 : Int) (hb1 : b1 = l.getD 1 0) (g0 : 0 ≤ b1) (g1 : b1 ≤ 255) (hs : b1 = 129) (hm1 : 1 ≤ m.length) (k : List Int) (hk : k = m.drop 1) (b2 : Int) (hv2 : b2 = m.getD 0 0) (g2 : 0 ≤ b2) (g3 : b2 ≤ 255) (hn : 128 ≤ b2) (hq : (k.length : Int) < b2) :
    Calls Try.prog 12 #[.slice A0 l0.length c0, .int .i64 a1] w fun e w' => e = .returned (.tuple #[.int .u8 0, .int .i64 0, .int .i64 0, .int .i64 12]) ∧ Drawn0 w w' := by
  have hb : decide (a1 < 0) = false := decide_eq_false (by omega)
  have hb2 : decide ((l0.length : Int) < a1) = false := decide_eq_false (by omega)
  obtain ⟨A, c, hcut, hC, hcl⟩ := rest_of A0 c0 l0 a1 h0 h1 hc l hl
  have q0 : (0 < l.length) = True := eq_true (by omega)
  have q1 : (1 < l.length) = True := eq_true he
  have q1i : ((1 : Int) < (l.length : Int)) = True := eq_true (by omega)
  obtain ⟨ad, e1, x0⟩ := byte_first (hC w hr) (of_eq_true q0)
  obtain ⟨ad', e2, x1⟩ := byte_second (hC w hr) (of_eq_true q1)
  cases e1
  cases e2
  rw [← hb1] at x1
  have tg : (Go.bits .and .u8 (l.getD 0 0) 31 == 31) = false := beq_eq_false_iff_ne.mpr ht
  generalize l.getD 0 0 = b0 at *
  have na0 : decide (0 < (l.length : Int)) = true := decide_eq_true (by omega)
  have nb0 : decide (0 < l.length) = true := decide_eq_true (by omega)
  have na1 : decide ((l.length : Int) < 2) = false := decide_eq_false (by omega)
  have nb1 : decide (l.length < 2) = false := decide_eq_false (by omega)
  obtain ⟨A2, c2, hcut2, hC2, hcl2⟩ := rest_of (some ad) c l 2 (by omega) (by omega) hcl m hm
  have s0 : (b1 == 129) = true := beq_iff_eq.mpr (by omega)
  have za : decide ((m.length : Int) < 1) = false := decide_eq_false (by omega)
  have zb : decide (m.length < 1) = false := decide_eq_false (by omega)
  have z0 : (0 < m.length) = True := eq_true (by omega)
  obtain ⟨ad2, e3, x2⟩ := byte_first (hC2 w (hC w hr)) (of_eq_true z0)
  cases e3
  rw [← hv2] at x2
  obtain ⟨A3, c3, hcut3, hC3, hcl3⟩ := rest_of (some ad2) c2 m 1 (by omega) (by omega) hcl2 k hk
  have k0 : decide (b2 < 128) = false := decide_eq_false (by omega)
  have k1 : decide (b2 ≤ (k.length : Int)) = false := decide_eq_false (by omega)
  clear h0 h1 hc he hl hC hcl hr ht hm hb1 hC2 hcl2 hs hm1 hk hv2 hC3 hcl3 hn hq
  go_enter Try.func12, Try.ntmps12
  go_wp2
  refine wp_scope_jumps 0 (Wrong 12 w) (fun _ _ => 0) rfl ?_ ?_
  · go_wp2
    repeat (go_quiet (fail); try go_wp2)
    go_step3
    go_wp2
    simp only [Exit.jump]
    refine bodyPost_ret (results_list (rs := [.tmp 4, .tmp 5, .tmp 6, .tmp 7]) rfl (by simp) (.tmp (.tmp (.tmp (.tmp .nil))))) rfl ?_
    exact ⟨rfl, by repeat (first | exact Drawn0.refl _ | apply Drawn0.step)⟩
  · rintro a' w' ⟨hd, f, rfl⟩
    go_wp2
    simp only [Exit.jump]
    refine bodyPost_ret (results_list (rs := [.tmp 4, .tmp 5, .tmp 6, .tmp 7]) rfl (by simp) (.tmp (.tmp (.tmp (.tmp .nil))))) rfl ?_
    exact ⟨rfl, hd⟩

set_option maxHeartbeats 1600000 in
set_option maxRecDepth 100000 in
theorem head_82_none (A0 : Option Addr) (c0 : Nat) (l0 : List Int) (a1 : Int) (w : World) (hr : (Kd.int .u8).C w A0 l0.length l0) (hc : l0.length ≤ c0) (h0 : 0 ≤ a1) (h1 : a1 ≤ (l0.length : Int)) (l : List Int) (hl : l = l0.drop a1.toNat) (he : 1 < l.length) (ht : ¬ Go.bits .and .u8 (l.getD 0 0) 31 = 31) (m : List Int) (hm : m = l.drop 2) (b1 : Int) (hb1 : b1 = l.getD 1 0) (g0 : 0 ≤ b1) (g1 : b1 ≤ 255) (hs : b1 = 130) (hk : m.length < 2) :
    Calls Try.prog 12 #[.slice A0 l0.length c0, .int .i64 a1] w fun e w' => e = .returned (.tuple #[.int .u8 0, .int .i64 0, .int .i64 0, .int .i64 12]) ∧ Drawn0 w w' := by
  have hb : decide (a1 < 0) = false := decide_eq_false (by omega)
  have hb2 : decide ((l0.length : Int) < a1) = false := decide_eq_false (by omega)
  obtain ⟨A, c, hcut, hC, hcl⟩ := rest_of A0 c0 l0 a1 h0 h1 hc l hl
  have q0 : (0 < l.length) = True := eq_true (by omega)
  have q1 : (1 < l.length) = True := eq_true he
  have q1i : ((1 : Int) < (l.length : Int)) = True := eq_true (by omega)
  obtain ⟨ad, e1, x0⟩ := byte_first (hC w hr) (of_eq_true q0)
  obtain ⟨ad', e2, x1⟩ := byte_second (hC w hr) (of_eq_true q1)
  cases e1
  cases e2
  rw [← hb1] at x1
  have tg : (Go.bits .and .u8 (l.getD 0 0) 31 == 31) = false := beq_eq_false_iff_ne.mpr ht
  generalize l.getD 0 0 = b0 at *
  have na0 : decide (0 < (l.length : Int)) = true := decide_eq_true (by omega)
  have nb0 : decide (0 < l.length) = true := decide_eq_true (by omega)
  have na1 : decide ((l.length : Int) < 2) = false := decide_eq_false (by omega)
  have nb1 : decide (l.length < 2) = false := decide_eq_false (by omega)
  obtain ⟨A2, c2, hcut2, hC2, hcl2⟩ := rest_of (some ad) c l 2 (by omega) (by omega) hcl m hm
  have s0 : (b1 == 129) = false := beq_eq_false_iff_ne.mpr (by omega)
  have s1 : (b1 == 130) = true := beq_iff_eq.mpr (by omega)
  have za : decide ((m.length : Int) < 2) = true := decide_eq_true (by omega)
  have zb : decide (m.length < 2) = true := decide_eq_true (by omega)
  clear h0 h1 hc he hl hC hcl hr ht hm hb1 hC2 hcl2 hs hk
  go_enter Try.func12, Try.ntmps12
  go_wp2
  refine wp_scope_jumps 0 (Wrong 12 w) (fun _ _ => 0) rfl ?_ ?_
  · go_wp2
    go_step3
    exact ⟨rfl, Wrong.mk_ (by repeat (first | exact Drawn0.refl _ | apply Drawn0.step))⟩
  · rintro a' w' ⟨hd, f, rfl⟩
    go_wp2
    simp only [Exit.jump]
    refine bodyPost_ret (results_list (rs := [.tmp 4, .tmp 5, .tmp 6, .tmp 7]) rfl (by simp) (.tmp (.tmp (.tmp (.tmp .nil))))) rfl ?_
    exact ⟨rfl, hd⟩

set_option maxHeartbeats 1600000 in
set_option maxRecDepth 100000 in
theorem head_82_least (A0 : Option Addr) (c0 : Nat) (l0 : List Int) (a1 : Int) (w : World) (hr : (Kd.int .u8).C w A0 l0.length l0) (hc : l0.length ≤ c0) (h0 : 0 ≤ a1) (h1 : a1 ≤ (l0.length : Int)) (l : List Int) (hl : l = l0.drop a1.toNat) (he : 1 < l.length) (ht : ¬ Go.bits .and .u8 (l.getD 0 0) 31 = 31) (m : List Int) (hm : m = l.drop 2) (b1 : Int) (hb1 : b1 = l.getD 1 0) (g0 : 0 ≤ b1) (g1 : b1 ≤ 255) (hs : b1 = 130) (hm1 : 2 ≤ m.length) (k : List Int) (hk : k = m.drop 2) (b2 : Int) (hv2 : b2 = m.getD 0 0) (g2 : 0 ≤ b2) (g3 : b2 ≤ 255) (b3 : Int) (hv3 : b3 = m.getD 1 0) (g4 : 0 ≤ b3) (g5 : b3 ≤ 255) (hn : b2 * 256 + b3 < 256) :
    Calls Try.prog 12 #[.slice A0 l0.length c0, .int .i64 a1] w fun e w' => e = .returned (.tuple #[.int .u8 0, .int .i64 0, .int .i64 0, .int .i64 13]) ∧ Drawn0 w w' := by
  have hb : decide (a1 < 0) = false := decide_eq_false (by omega)
  have hb2 : decide ((l0.length : Int) < a1) = false := decide_eq_false (by omega)
  obtain ⟨A, c, hcut, hC, hcl⟩ := rest_of A0 c0 l0 a1 h0 h1 hc l hl
  have q0 : (0 < l.length) = True := eq_true (by omega)
  have q1 : (1 < l.length) = True := eq_true he
  have q1i : ((1 : Int) < (l.length : Int)) = True := eq_true (by omega)
  obtain ⟨ad, e1, x0⟩ := byte_first (hC w hr) (of_eq_true q0)
  obtain ⟨ad', e2, x1⟩ := byte_second (hC w hr) (of_eq_true q1)
  cases e1
  cases e2
  rw [← hb1] at x1
  have tg : (Go.bits .and .u8 (l.getD 0 0) 31 == 31) = false := beq_eq_false_iff_ne.mpr ht
  generalize l.getD 0 0 = b0 at *
  have na0 : decide (0 < (l.length : Int)) = true := decide_eq_true (by omega)
  have nb0 : decide (0 < l.length) = true := decide_eq_true (by omega)
  have na1 : decide ((l.length : Int) < 2) = false := decide_eq_false (by omega)
  have nb1 : decide (l.length < 2) = false := decide_eq_false (by omega)
  obtain ⟨A2, c2, hcut2, hC2, hcl2⟩ := rest_of (some ad) c l 2 (by omega) (by omega) hcl m hm
  have s0 : (b1 == 129) = false := beq_eq_false_iff_ne.mpr (by omega)
  have s1 : (b1 == 130) = true := beq_iff_eq.mpr (by omega)
  have za : decide ((m.length : Int) < 2) = false := decide_eq_false (by omega)
  have zb : decide (m.length < 2) = false := decide_eq_false (by omega)
  have z0 : (0 < m.length) = True := eq_true (by omega)
  have z1 : (1 < m.length) = True := eq_true (by omega)
  have z1i : ((1 : Int) < (m.length : Int)) = True := eq_true (by omega)
  obtain ⟨ad2, e3, x2⟩ := byte_first (hC2 w (hC w hr)) (of_eq_true z0)
  obtain ⟨ad3, e4, x3⟩ := byte_second (hC2 w (hC w hr)) (of_eq_true z1)
  cases e3
  cases e4
  rw [← hv2] at x2
  rw [← hv3] at x3
  obtain ⟨A3, c3, hcut3, hC3, hcl3⟩ := rest_of (some ad2) c2 m 2 (by omega) (by omega) hcl2 k hk
  have k0 : decide (b2 * 256 + b3 < 256) = true := decide_eq_true (by omega)
  clear h0 h1 hc he hl hC hcl hr ht hm hb1 hC2 hcl2 hs hm1 hk hv2 hv3 hC3 hcl3 hn
  go_enter Try.func12, Try.ntmps12
  go_wp2
  refine wp_scope_jumps 0 (Wrong 13 w) (fun _ _ => 0) rfl ?_ ?_
  · go_wp2
    repeat (go_quiet (fail); try go_wp2)
    go_step3
    exact ⟨rfl, Wrong.mk_ (by repeat (first | exact Drawn0.refl _ | apply Drawn0.step))⟩
  · rintro a' w' ⟨hd, f, rfl⟩
    go_wp2
    simp only [Exit.jump]
    refine bodyPost_ret (results_list (rs := [.tmp 4, .tmp 5, .tmp 6, .tmp 7]) rfl (by simp) (.tmp (.tmp (.tmp (.tmp .nil))))) rfl ?_
    exact ⟨rfl, hd⟩

set_option maxHeartbeats 1600000 in
set_option maxRecDepth 100000 in
theorem head_82_short (A0 : Option Addr) (c0 : Nat) (l0 : List Int) (a1 : Int) (w : World) (hr : (Kd.int .u8).C w A0 l0.length l0) (hc : l0.length ≤ c0) (h0 : 0 ≤ a1) (h1 : a1 ≤ (l0.length : Int)) (l : List Int) (hl : l = l0.drop a1.toNat) (he : 1 < l.length) (ht : ¬ Go.bits .and .u8 (l.getD 0 0) 31 = 31) (m : List Int) (hm : m = l.drop 2) (b1 : Int) (hb1 : b1 = l.getD 1 0) (g0 : 0 ≤ b1) (g1 : b1 ≤ 255) (hs : b1 = 130) (hm1 : 2 ≤ m.length) (k : List Int) (hk : k = m.drop 2) (b2 : Int) (hv2 : b2 = m.getD 0 0) (g2 : 0 ≤ b2) (g3 : b2 ≤ 255) (b3 : Int) (hv3 : b3 = m.getD 1 0) (g4 : 0 ≤ b3) (g5 : b3 ≤ 255) (hn : 256 ≤ b2 * 256 + b3) (hq : (k.length : Int) < b2 * 256 + b3) :
    Calls Try.prog 12 #[.slice A0 l0.length c0, .int .i64 a1] w fun e w' => e = .returned (.tuple #[.int .u8 0, .int .i64 0, .int .i64 0, .int .i64 12]) ∧ Drawn0 w w' := by
  have hb : decide (a1 < 0) = false := decide_eq_false (by omega)
  have hb2 : decide ((l0.length : Int) < a1) = false := decide_eq_false (by omega)
  obtain ⟨A, c, hcut, hC, hcl⟩ := rest_of A0 c0 l0 a1 h0 h1 hc l hl
  have q0 : (0 < l.length) = True := eq_true (by omega)
  have q1 : (1 < l.length) = True := eq_true he
  have q1i : ((1 : Int) < (l.length : Int)) = True := eq_true (by omega)
  obtain ⟨ad, e1, x0⟩ := byte_first (hC w hr) (of_eq_true q0)
  obtain ⟨ad', e2, x1⟩ := byte_second (hC w hr) (of_eq_true q1)
  cases e1
  cases e2
  rw [← hb1] at x1
  have tg : (Go.bits .and .u8 (l.getD 0 0) 31 == 31) = false := beq_eq_false_iff_ne.mpr ht
  generalize l.getD 0 0 = b0 at *
  have na0 : decide (0 < (l.length : Int)) = true := decide_eq_true (by omega)
  have nb0 : decide (0 < l.length) = true := decide_eq_true (by omega)
  have na1 : decide ((l.length : Int) < 2) = false := decide_eq_false (by omega)
  have nb1 : decide (l.length < 2) = false := decide_eq_false (by omega)
  obtain ⟨A2, c2, hcut2, hC2, hcl2⟩ := rest_of (some ad) c l 2 (by omega) (by omega) hcl m hm
  have s0 : (b1 == 129) = false := beq_eq_false_iff_ne.mpr (by omega)
  have s1 : (b1 == 130) = true := beq_iff_eq.mpr (by omega)
  have za : decide ((m.length : Int) < 2) = false := decide_eq_false (by omega)
  have zb : decide (m.length < 2) = false := decide_eq_false (by omega)
  have z0 : (0 < m.length) = True := eq_true (by omega)
  have z1 : (1 < m.length) = True := eq_true (by omega)
  have z1i : ((1 : Int) < (m.length : Int)) = True := eq_true (by omega)
  obtain ⟨ad2, e3, x2⟩ := byte_first (hC2 w (hC w hr)) (of_eq_true z0)
  obtain ⟨ad3, e4, x3⟩ := byte_second (hC2 w (hC w hr)) (of_eq_true z1)
  cases e3
  cases e4
  rw [← hv2] at x2
  rw [← hv3] at x3
  obtain ⟨A3, c3, hcut3, hC3, hcl3⟩ := rest_of (some ad2) c2 m 2 (by omega) (by omega) hcl2 k hk
  have k0 : decide (b2 * 256 + b3 < 256) = false := decide_eq_false (by omega)
  have k1 : decide (b2 * 256 + b3 ≤ (k.length : Int)) = false := decide_eq_false (by omega)
  clear h0 h1 hc he hl hC hcl hr ht hm hb1 hC2 hcl2 hs hm1 hk hv2 hv3 hC3 hcl3 hn hq
  go_enter Try.func12, Try.ntmps12
  go_wp2
  refine wp_scope_jumps 0 (Wrong 12 w) (fun _ _ => 0) rfl ?_ ?_
  · go_wp2
    repeat (go_quiet (fail); try go_wp2)
    go_step3
    go_wp2
    simp only [Exit.jump]
    refine bodyPost_ret (results_list (rs := [.tmp 4, .tmp 5, .tmp 6, .tmp 7]) rfl (by simp) (.tmp (.tmp (.tmp (.tmp .nil))))) rfl ?_
    exact ⟨rfl, by repeat (first | exact Drawn0.refl _ | apply Drawn0.step)⟩
  · rintro a' w' ⟨hd, f, rfl⟩
    go_wp2
    simp only [Exit.jump]
    refine bodyPost_ret (results_list (rs := [.tmp 4, .tmp 5, .tmp 6, .tmp 7]) rfl (by simp) (.tmp (.tmp (.tmp (.tmp .nil))))) rfl ?_
    exact ⟨rfl, hd⟩

set_option maxHeartbeats 1600000 in
set_option maxRecDepth 100000 in
theorem head_s_ok (A0 : Option Addr) (c0 : Nat) (l0 : List Int) (a1 : Int) (w : World) (hr : (Kd.int .u8).C w A0 l0.length l0) (hc : l0.length ≤ c0) (h0 : 0 ≤ a1) (h1 : a1 < (l0.length : Int)) (h2 : (l0.length : Int) ≤ 562949953421312) (l : List Int) (hl : l = l0.drop a1.toNat) (he : 1 < l.length) (ht : ¬ Go.bits .and .u8 (l.getD 0 0) 31 = 31) (m : List Int) (hm : m = l.drop 2) (b1 : Int) (hb1 : b1 = l.getD 1 0) (g0 : 0 ≤ b1) (g1 : b1 ≤ 255) (hs : b1 ≤ 127) (k : List Int) (hk : k = m) (hq : b1 ≤ (m.length : Int)) :
    Calls Try.prog 12 #[.slice A0 l0.length c0, .int .i64 a1] w fun e w' => e = .returned (.tuple #[.int .u8 (rd l0 a1), .int .i64 ((l0.length : Int) - (m.length : Int)), .int .i64 ((l0.length : Int) - (m.length : Int) + b1), .int .i64 0]) ∧ Drawn0 w w' := by
  have hb : decide (a1 < 0) = false := decide_eq_false (by omega)
  have hb2 : decide ((l0.length : Int) < a1) = false := decide_eq_false (by omega)
  obtain ⟨A, c, hcut, hC, hcl⟩ := rest_of A0 c0 l0 a1 h0 (by omega) hc l hl
  have q0 : (0 < l.length) = True := eq_true (by omega)
  have q1 : (1 < l.length) = True := eq_true he
  have q1i : ((1 : Int) < (l.length : Int)) = True := eq_true (by omega)
  obtain ⟨ad, e1, x0⟩ := byte_first (hC w hr) (of_eq_true q0)
  obtain ⟨ad', e2, x1⟩ := byte_second (hC w hr) (of_eq_true q1)
  cases e1
  cases e2
  rw [← hb1] at x1
  have tg : (Go.bits .and .u8 (l.getD 0 0) 31 == 31) = false := beq_eq_false_iff_ne.mpr ht
  generalize l.getD 0 0 = b0 at *
  have na0 : decide (0 < (l.length : Int)) = true := decide_eq_true (by omega)
  have nb0 : decide (0 < l.length) = true := decide_eq_true (by omega)
  have na1 : decide ((l.length : Int) < 2) = false := decide_eq_false (by omega)
  have nb1 : decide (l.length < 2) = false := decide_eq_false (by omega)
  obtain ⟨A2, c2, hcut2, hC2, hcl2⟩ := rest_of (some ad) c l 2 (by omega) (by omega) hcl m hm
  have s0 : (b1 == 129) = false := beq_eq_false_iff_ne.mpr (by omega)
  have s1 : (b1 == 130) = false := beq_eq_false_iff_ne.mpr (by omega)
  have s2 : decide (127 < b1) = false := decide_eq_false (by omega)
  have k0 : decide (b1 < 0) = false := decide_eq_false (by omega)
  have k1 : decide (b1 ≤ (m.length : Int)) = true := decide_eq_true (by omega)
  obtain ⟨ad0, e0, y0⟩ := Kd.at_int hr a1 h0 h1
  cases e0
  generalize rd l0 a1 = tag at *
  have i0 := eq_true h0
  have i1 := eq_true h1
  have i2 : (m.length : Int) ≤ (l0.length : Int) := by subst hk; subst hm; subst hl; simp only [List.length_drop]; omega
  have i3 : 0 ≤ (m.length : Int) := by omega
  clear h0 h1 hc he hl hC hcl hr ht hm hb1 hC2 hcl2 hs hq hk
  go_enter Try.func12, Try.ntmps12
  go_wp2
  refine wp_scope_jumps 0 (fun _ _ => False) (fun _ _ => 0) rfl ?_ ?_
  · go_wp2
    simp only [Exit.jump]
    refine bodyPost_ret (results_list (rs := [.tmp 4, .tmp 5, .tmp 6, .tmp 7]) rfl (by simp) (.tmp (.tmp (.tmp (.tmp .nil))))) rfl ?_
    exact ⟨rfl, by repeat (first | exact Drawn0.refl _ | apply Drawn0.step)⟩
  · exact fun _ _ h => h.elim

set_option maxHeartbeats 1600000 in
set_option maxRecDepth 100000 in
theorem head_81_ok (A0 : Option Addr) (c0 : Nat) (l0 : List Int) (a1 : Int) (w : World) (hr : (Kd.int .u8).C w A0 l0.length l0) (hc : l0.length ≤ c0) (h0 : 0 ≤ a1) (h1 : a1 < (l0.length : Int)) (h2 : (l0.length : Int) ≤ 562949953421312) (l : List Int) (hl : l = l0.drop a1.toNat) (he : 1 < l.length) (ht : ¬ Go.bits .and .u8 (l.getD 0 0) 31 = 31) (m : List Int) (hm : m = l.drop 2) (b1 : Int) (hb1 : b1 = l.getD 1 0) (g0 : 0 ≤ b1) (g1 : b1 ≤ 255) (hs : b1 = 129) (hm1 : 1 ≤ m.length) (k : List Int) (hk : k = m.drop 1) (b2 : Int) (hv2 : b2 = m.getD 0 0) (g2 : 0 ≤ b2) (g3 : b2 ≤ 255) (hn : 128 ≤ b2) (hq : b2 ≤ (k.length : Int)) :
    Calls Try.prog 12 #[.slice A0 l0.length c0, .int .i64 a1] w fun e w' => e = .returned (.tuple #[.int .u8 (rd l0 a1), .int .i64 ((l0.length : Int) - (k.length : Int)), .int .i64 ((l0.length : Int) - (k.length : Int) + b2), .int .i64 0]) ∧ Drawn0 w w' := by
  have hb : decide (a1 < 0) = false := decide_eq_false (by omega)
  have hb2 : decide ((l0.length : Int) < a1) = false := decide_eq_false (by omega)
  obtain ⟨A, c, hcut, hC, hcl⟩ := rest_of A0 c0 l0 a1 h0 (by omega) hc l hl
  have q0 : (0 < l.length) = True := eq_true (by omega)
  have q1 : (1 < l.length) = True := eq_true he
  have q1i : ((1 : Int) < (l.length : Int)) = True := eq_true (by omega)
  obtain ⟨ad, e1, x0⟩ := byte_first (hC w hr) (of_eq_true q0)
  obtain ⟨ad', e2, x1⟩ := byte_second (hC w hr) (of_eq_true q1)
  cases e1
  cases e2
  rw [← hb1] at x1
  have tg : (Go.bits .and .u8 (l.getD 0 0) 31 == 31) = false := beq_eq_false_iff_ne.mpr ht
  generalize l.getD 0 0 = b0 at *
  have na0 : decide (0 < (l.length : Int)) = true := decide_eq_true (by omega)
  have nb0 : decide (0 < l.length) = true := decide_eq_true (by omega)
  have na1 : decide ((l.length : Int) < 2) = false := decide_eq_false (by omega)
  have nb1 : decide (l.length < 2) = false := decide_eq_false (by omega)
  obtain ⟨A2, c2, hcut2, hC2, hcl2⟩ := rest_of (some ad) c l 2 (by omega) (by omega) hcl m hm
  have s0 : (b1 == 129) = true := beq_iff_eq.mpr (by omega)
  have za : decide ((m.length : Int) < 1) = false := decide_eq_false (by omega)
  have zb : decide (m.length < 1) = false := decide_eq_false (by omega)
  have z0 : (0 < m.length) = True := eq_true (by omega)
  obtain ⟨ad2, e3, x2⟩ := byte_first (hC2 w (hC w hr)) (of_eq_true z0)
  cases e3
  rw [← hv2] at x2
  obtain ⟨A3, c3, hcut3, hC3, hcl3⟩ := rest_of (some ad2) c2 m 1 (by omega) (by omega) hcl2 k hk
  have k0 : decide (b2 < 128) = false := decide_eq_false (by omega)
  have k1 : decide (b2 ≤ (k.length : Int)) = true := decide_eq_true (by omega)
  obtain ⟨ad0, e0, y0⟩ := Kd.at_int hr a1 h0 h1
  cases e0
  generalize rd l0 a1 = tag at *
  have i0 := eq_true h0
  have i1 := eq_true h1
  have i2 : (k.length : Int) ≤ (l0.length : Int) := by subst hk; subst hm; subst hl; simp only [List.length_drop]; omega
  have i3 : 0 ≤ (k.length : Int) := by omega
  clear h0 h1 hc he hl hC hcl hr ht hm hb1 hC2 hcl2 hs hm1 hk hv2 hC3 hcl3 hn hq
  go_enter Try.func12, Try.ntmps12
  go_wp2
  refine wp_scope_jumps 0 (fun _ _ => False) (fun _ _ => 0) rfl ?_ ?_
  · go_wp2
    repeat (go_quiet (fail); try go_wp2)
    simp only [Exit.jump]
    refine bodyPost_ret (results_list (rs := [.tmp 4, .tmp 5, .tmp 6, .tmp 7]) rfl (by simp) (.tmp (.tmp (.tmp (.tmp .nil))))) rfl ?_
    exact ⟨rfl, by repeat (first | exact Drawn0.refl _ | apply Drawn0.step)⟩
  · exact fun _ _ h => h.elim

set_option maxHeartbeats 1600000 in
set_option maxRecDepth 100000 in
theorem head_82_ok (A0 : Option Addr) (c0 : Nat) (l0 : List Int) (a1 : Int) (w : World) (hr : (Kd.int .u8).C w A0 l0.length l0) (hc : l0.length ≤ c0) (h0 : 0 ≤ a1) (h1 : a1 < (l0.length : Int)) (h2 : (l0.length : Int) ≤ 562949953421312) (l : List Int) (hl : l = l0.drop a1.toNat) (he : 1 < l.length) (ht : ¬ Go.bits .and .u8 (l.getD 0 0) 31 = 31) (m : List Int) (hm : m = l.drop 2) (b1 : Int) (hb1 : b1 = l.getD 1 0) (g0 : 0 ≤ b1) (g1 : b1 ≤ 255) (hs : b1 = 130) (hm1 : 2 ≤ m.length) (k : List Int) (hk : k = m.drop 2) (b2 : Int) (hv2 : b2 = m.getD 0 0) (g2 : 0 ≤ b2) (g3 : b2 ≤ 255) (b3 : Int) (hv3 : b3 = m.getD 1 0) (g4 : 0 ≤ b3) (g5 : b3 ≤ 255) (hn : 256 ≤ b2 * 256 + b3) (hq : b2 * 256 + b3 ≤ (k.length : Int)) :
    Calls Try.prog 12 #[.slice A0 l0.length c0, .int .i64 a1] w fun e w' => e = .returned (.tuple #[.int .u8 (rd l0 a1), .int .i64 ((l0.length : Int) - (k.length : Int)), .int .i64 ((l0.length : Int) - (k.length : Int) + (b2 * 256 + b3)), .int .i64 0]) ∧ Drawn0 w w' := by
  have hb : decide (a1 < 0) = false := decide_eq_false (by omega)
  have hb2 : decide ((l0.length : Int) < a1) = false := decide_eq_false (by omega)
  obtain ⟨A, c, hcut, hC, hcl⟩ := rest_of A0 c0 l0 a1 h0 (by omega) hc l hl
  have q0 : (0 < l.length) = True := eq_true (by omega)
  have q1 : (1 < l.length) = True := eq_true he
  have q1i : ((1 : Int) < (l.length : Int)) = True := eq_true (by omega)
  obtain ⟨ad, e1, x0⟩ := byte_first (hC w hr) (of_eq_true q0)
  obtain ⟨ad', e2, x1⟩ := byte_second (hC w hr) (of_eq_true q1)
  cases e1
  cases e2
  rw [← hb1] at x1
  have tg : (Go.bits .and .u8 (l.getD 0 0) 31 == 31) = false := beq_eq_false_iff_ne.mpr ht
  generalize l.getD 0 0 = b0 at *
  have na0 : decide (0 < (l.length : Int)) = true := decide_eq_true (by omega)
  have nb0 : decide (0 < l.length) = true := decide_eq_true (by omega)
  have na1 : decide ((l.length : Int) < 2) = false := decide_eq_false (by omega)
  have nb1 : decide (l.length < 2) = false := decide_eq_false (by omega)
  obtain ⟨A2, c2, hcut2, hC2, hcl2⟩ := rest_of (some ad) c l 2 (by omega) (by omega) hcl m hm
  have s0 : (b1 == 129) = false := beq_eq_false_iff_ne.mpr (by omega)
  have s1 : (b1 == 130) = true := beq_iff_eq.mpr (by omega)
  have za : decide ((m.length : Int) < 2) = false := decide_eq_false (by omega)
  have zb : decide (m.length < 2) = false := decide_eq_false (by omega)
  have z0 : (0 < m.length) = True := eq_true (by omega)
  have z1 : (1 < m.length) = True := eq_true (by omega)
  have z1i : ((1 : Int) < (m.length : Int)) = True := eq_true (by omega)
  obtain ⟨ad2, e3, x2⟩ := byte_first (hC2 w (hC w hr)) (of_eq_true z0)
  obtain ⟨ad3, e4, x3⟩ := byte_second (hC2 w (hC w hr)) (of_eq_true z1)
  cases e3
  cases e4
  rw [← hv2] at x2
  rw [← hv3] at x3
  obtain ⟨A3, c3, hcut3, hC3, hcl3⟩ := rest_of (some ad2) c2 m 2 (by omega) (by omega) hcl2 k hk
  have k0 : decide (b2 * 256 + b3 < 256) = false := decide_eq_false (by omega)
  have k1 : decide (b2 * 256 + b3 ≤ (k.length : Int)) = true := decide_eq_true (by omega)
  obtain ⟨ad0, e0, y0⟩ := Kd.at_int hr a1 h0 h1
  cases e0
  generalize rd l0 a1 = tag at *
  have i0 := eq_true h0
  have i1 := eq_true h1
  have i2 : (k.length : Int) ≤ (l0.length : Int) := by subst hk; subst hm; subst hl; simp only [List.length_drop]; omega
  have i3 : 0 ≤ (k.length : Int) := by omega
  clear h0 h1 hc he hl hC hcl hr ht hm hb1 hC2 hcl2 hs hm1 hk hv2 hv3 hC3 hcl3 hn hq
  go_enter Try.func12, Try.ntmps12
  go_wp2
  refine wp_scope_jumps 0 (fun _ _ => False) (fun _ _ => 0) rfl ?_ ?_
  · go_wp2
    repeat (go_quiet (fail); try go_wp2)
    simp only [Exit.jump]
    refine bodyPost_ret (results_list (rs := [.tmp 4, .tmp 5, .tmp 6, .tmp 7]) rfl (by simp) (.tmp (.tmp (.tmp (.tmp .nil))))) rfl ?_
    exact ⟨rfl, by repeat (first | exact Drawn0.refl _ | apply Drawn0.step)⟩
  · exact fun _ _ h => h.elim

end Go.Proofs.Ythfglkpmjamhmaa.Own
