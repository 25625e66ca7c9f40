/- What is proved here: the statement Rows.TlvRowSaid: for every input the law TlvRow returns true, and each argument reads behind the call as it read before. No condition. -/
import Derived.Test.YthfglkpmjamhmaaRows
import Derived.Test.YthfglkpmjamhmaaFTlvRow
import Derived.Test.YthfglkpmjamhmaaPureTlvRow
import Derived.Test.YthfglkpmjamhmaaRows2
import Derived.WalkKit
import Derived.ProofKit
import Derived.OpenShut
import Derived.ShutString
import Derived.ChangeOld
import Derived.Below
import Derived.SizedLaws
namespace Go.Proofs.Ythfglkpmjamhmaa.tlvRow
open Go.ChangeShapes Go.WideShapes Go.ChangeAt Go.RowKit
open Go.ChangeMaps (open_string shut_string)
set_option linter.unusedVariables false
theorem own : ownKnob Try.prog.godebug = none := by kernel_rfl
theorem laidOut : laidOutB Try.prog = true := by kernel_rfl
set_option maxRecDepth 100000 in
theorem lifted (os : Os) (started : os.Started) (H : Type) (enc : TypeId × Value → H) :
    ReturnsInHanded {} Try.checked os 8 .any (Rows.tlvRowSpec.pre6 enc Try.prog Try.f8 Rows.tlvRowRow.domain false) (Rows.tlvRowSpec.post enc Try.prog Try.f8 false true false false) := by
  refine returnsInHanded_of_change_sized (C := Try.checked) own started (by kernel_rfl) Try.func8
    (ChangeSpec.witness6 (enc := enc) (C := Try.checked) false ⟨#[], #[.int .u8 0, .slice none 0 0], []⟩ 8 (by kernel_rfl) (by kernel_rfl) (by kernel_rfl) (by kernel_rfl)) ?_
  intro W base args ds gs before hval0 hW hcnd hsz0 _
  have hsz : (DataW.weightsEach Try.prog (Try.f8.params.toList ++ Rows.tlvRowSpec.plain.varTypes Try.prog) (ds ++ gs)).all (· ≤ reachBytes) = true := hsz0
  have hval : ∀ (j : Nat) t v, Try.f8.params[j]? = some t → args[j]? = some v → Value.okWide Try.prog W .any base t v := hval0
  have hW' := hW
  obtain ⟨p, q, hA0, hV, rfl, hfz, hnd⟩ := hW
  have hA : DataW.TrodAll enc Try.prog W 0 (fun _ => true) true Try.f8.params.toList args.toList ds p := hA0
  rw [Try.params8] at hA hval hsz
  obtain ⟨v0, vs0, d0, ds0, p0, q0, hargs, rfl, rfl, h0, r0⟩ := trodAll_cons hA
  obtain ⟨v1, vs1, d1, ds1, p1, q1, rfl, rfl, rfl, h1, r1⟩ := trodAll_cons r0
  obtain ⟨rfl, rfl, rfl⟩ := trodAll_nil r1
  obtain rfl : args = #[v0, v1] := by cases args; simp_all
  obtain ⟨rfl, rfl⟩ := trodVars_none hV
  obtain ⟨a0, rfl, rfl, rfl, w0⟩ := open_int Try.underlying5 (hval 0 5 v0 rfl rfl) h0
  obtain ⟨a1, len1, cap1, rfl⟩ := okWide_slice Try.underlying34 (hval 1 34 v1 rfl rfl)
  have k1 := h1
  have lt1 : ∀ x ∈ p1, x.block < W.heap.size := by obtain ⟨m, hm⟩ := k1; exact DataW.trod_lt m _ _ _ hm
  obtain ⟨l1, e1, hr1, hc1, hb1⟩ : ∃ l : List (List Int), len1 = l.length ∧ Go.Proofs.YthfglkpmjamhmaaW.PrintWords.Kd.C (Go.Proofs.YthfglkpmjamhmaaW.PrintWords.Kd.slice 5 (Go.Proofs.YthfglkpmjamhmaaW.PrintWords.Kd.int .u8)) W a1 l.length l ∧ l.length ≤ cap1 ∧ ∀ x ∈ l, ∀ b ∈ x, (Lit.int .u8 b).wf = true := by
    obtain ⟨fuel, hf⟩ := h1
    rcases Deep.open_int_rows Try.underlying34 Try.underlying22 Try.underlying5 (by kernel_rfl) (by kernel_rfl) hf with ⟨hcs, _⟩ | ⟨x, l, c, A, L, C, Z, hcs, _, hl, hm, _, hrow⟩
    · simp [Value.cells] at hcs
      obtain ⟨rfl, rfl, rfl⟩ := hcs
      exact ⟨[], rfl, Own.rows_none W, Nat.le_refl _, by simp⟩
    · simp [Value.cells] at hcs
      obtain ⟨rfl, rfl, rfl⟩ := hcs
      obtain ⟨ls, hn, hC, hb⟩ := Own.rows_read hl hm (fun r hr => by
        obtain ⟨g1, g2, g3, g4, g5, g6, g7⟩ := hrow r hr
        exact ⟨g1, g2, g3, g4, g5, g6, fun a' ha => (g7 a' ha).2⟩)
      exact ⟨ls, hn, hC, hn ▸ hl, hb⟩
  subst e1
  obtain ⟨k, hk⟩ := Pure.TlvRow a0 l1 w0 hb1
  clear hA0 hval0 hsz0 hsz
  refine (Own.warderlaw01_TlvRow.calls k a0 a1 cap1 l1 true W hr1 hc1 hk).mono fun e W' ⟨he, bel⟩ => ?_
  subst he
  exact ⟨_, rfl, _, _, _, [], _, [], hW', trodAll_mk1 (shut_bool Try.underlying4 _), (trodAll_cons_mk (shut_int Try.underlying5 w0) (trodAll_cons_mk (Below.trod laidOut (by kernel_rfl) (of_decide_eq_true (by kernel_rfl)) k1 bel lt1) trodAll_mk0)), rfl, bel.frame _, fun h => by cases h⟩
theorem over : Rows.tlvRowRow.holds Try.pinned (OpenSpec.ofChange Rows.tlvRowSpec) :=
  OpenClaim.holds_of_wide 8 Try.f8 rfl rfl rfl rfl rfl rfl rfl ⟨rfl, rfl, rfl, rfl, rfl⟩ rfl rfl rfl rfl rfl (by kernel_rfl) Try.func8 (by kernel_rfl)
    (of_decide_eq_true (by kernel_rfl)) (by unfold Func.isWrapper; first | (rw [if_pos (by decide +kernel)]; kernel_rfl) | (rw [if_neg (by decide +kernel)]; exact ⟨rfl, rfl⟩))
    (fun os started H enc _ => lifted os started H enc)
theorem proved : Rows.TlvRowSaid := over
#print axioms proved
end Go.Proofs.Ythfglkpmjamhmaa.tlvRow
namespace Go.Proofs.Ythfglkpmjamhmaa
/-- The row, under a short name, for the claim. -/
theorem tlvRow_holds : Rows.TlvRowSaid := tlvRow.proved
end Go.Proofs.Ythfglkpmjamhmaa
