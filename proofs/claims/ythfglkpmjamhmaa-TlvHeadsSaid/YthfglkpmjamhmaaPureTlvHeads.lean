/- What is proved here: the plain function of the law TlvHeads answers true for every list of bytes and every place. -/
import Derived.Test.YthfglkpmjamhmaaFTlvHeads
import Derived.Test.YthfglkpmjamhmaaBytes
namespace Go.Proofs.Ythfglkpmjamhmaa.Pure
open Go.RowKit Go.Proofs.Ythfglkpmjamhmaa.Own Go.Proofs.YthfglkpmjamhmaaW.PrintWords Go.Proofs.YthfglkpmjamhmaaW.PrintLast

theorem TlvHeads : warderlaw01_TlvHeads.Pure := by
  intro l a _ hn hb _
  refine ⟨0, ?_⟩
  have ok : bytesOK l = true := bytesOK_mk (by omega) fun x hx => byte_bounds (hb x hx)
  unfold warderlaw01_TlvHeads.f warderlaw01_head.f tlv_Head.f warderref01_Head.f
  rw [if_pos ok]
  simp

end Go.Proofs.Ythfglkpmjamhmaa.Pure
