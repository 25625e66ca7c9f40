/- What is proved here: the call of the law package's function head returns true and writes no memory that was there, for every world. -/
import Derived.Test.YthfglkpmjamhmaaBase
import Derived.Lib.SlBytesConst
namespace Go.Proofs.Ythfglkpmjamhmaa.Own
open Go.RowKit Go.Proofs.YthfglkpmjamhmaaW.PrintWords Go.Proofs.YthfglkpmjamhmaaW.PrintLast Go.Proofs.YthfglkpmjamhmaaW.PrintMore
set_option linter.unusedVariables false
set_option linter.unusedSimpArgs false

def warderlaw01_head.f : Option Bool := some true

theorem put_ab : tlv_Put.f 4 [97, 98] = some ([4, 2, 97, 98], 0) := by decide +kernel
theorem put_no : tlv_Put.f 31 [] = some ([], 11) := by decide +kernel

theorem ab_text : ((strOfNums [4, 2, 97, 98]).toList == ([4, 2, 97, 98] : List UInt8)) = true := by decide +kernel

/-- The two bytes of the constant, in their block. -/
theorem ab_reads (w : World) : (Kd.int .u8).C (w.alloc (Obj.cells #[Value.int IntKind.u8 97, Value.int IntKind.u8 98] 5 (2, 3))) (some { block := w.heap.size, off := 0 }) ([97, 98] : List Int).length [97, 98] := by
  refine Kd.C_of_reads (d := (0 : Int)) (h1 := fun _ => rfl) ⟨rfl, by simp, fun _ => ⟨_, rfl, fun j hj => ?_⟩⟩
  rw [add_plain, World.cell?_alloc_mark]
  match j, hj with
  | 0, _ => rfl
  | 1, _ => rfl

set_option maxHeartbeats 8000000 in
set_option maxRecDepth 100000 in
theorem warderlaw01_head.calls (r : Bool) (w : World) (h : warderlaw01_head.f = some r) :
    Calls Try.prog 9 #[] w fun e w' => e = .returned (.bool r) ∧ Below w.heap.size w w' := by
  obtain rfl := Option.some.inj h
  clear h
  have kc := fun (w : World) (C : Array Value) (n c : Nat) => Lib.run_convert_bytes_const (P := Try.prog) w 22 5 C n c Try.underlying22 Try.underlying5
  go_enter Try.func9, Try.ntmps9
  go_wp2_with fail
  refine (tlv_Put.calls 4 _ 2 [97, 98] [4, 2, 97, 98] 0 _ (ab_reads w) (Nat.le_refl _) put_ab).mono ?_
  rintro e w1 ⟨v1, rfl, ho1, hb1⟩
  have HB := Aside0.mk (below_step (below_alloc (Below.refl w.heap.size w) _) hb1)
  have HO := Aside0.mk ho1
  clear hb1 ho1 kc
  go_wp2_with fail
  refine (tlv_Put.calls 31 none 0 [] [] 11 _ (Kd.C_nil _ _) (Nat.le_refl _) put_no).mono ?_
  rintro e w2 ⟨v2, rfl, ho2, hb2⟩
  have HB2 := Aside0.mk (below_step HB.out hb2)
  have HO2 := Aside0.mk (Kd.R_below HO.out hb2)
  clear hb2 ho2
  have hcv := own_string (P := Try.prog) Try.underlying22 Try.underlying5 Try.underlying9 (Kd.own_of_R HO2.out)
  go_wp2
  go_ret
  exact ⟨congrArg (fun b => Ending.returned (.bool b)) ab_text, HB2.out⟩

end Go.Proofs.Ythfglkpmjamhmaa.Own
