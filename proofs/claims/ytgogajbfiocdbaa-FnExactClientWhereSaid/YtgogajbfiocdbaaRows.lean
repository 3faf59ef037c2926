/-
  No cell of these rows narrows 'for every input' (looked for: loops, veiled, ifaces, maps, wideKeys, modest, calm, conditions, laid).
  DERIVED. THE GIVEN ROWS OF THIS SEAT. 12 by the template 'for every input the law returns true; each argument reads behind the call as it read before'; 0 by the template 'total and deterministic' (their statements: YtgogajbfiocdbaaTotals.lean).
  GIVEN WITH THE SEED: the statements are not yours to turn. If you find one false, say at which input.
  Laid BY PROGRAM, IN A SANDBOX (cutbox-rows.mjs): the forced cells as the released guide's own fill.sh prints them over the translation 862ec7436d8c7d2d… (all of the seat's roots in one cut). By AI agents, Wed Nov 11 2026. No macro, syntax, notation, axiom, sorry.
-/
import Derived.Test.YtgogajbfiocdbaaChecked
import GoSem.Claim
import GoSem.ClaimJoined
import GoSem.ClaimMapViews
import Derived.JoinedTies
import Derived.KernelRfl
namespace Go.Proofs.Ytgogajbfiocdbaa
/- THE CELL 'sum', in the pinned program and in every row, IS THE sha256 OF THE DUMP (.gsa) THAT YtgogajbfiocdbaaProg.lean LOADS. Nothing in Lean hashes anything: it is a label: what it is worth is what the hold of that sum in a sandbox is worth. -/
noncomputable def Try.pinned : Pinned := { name := "ytgogajbfiocdbaa", sum := "862ec7436d8c7d2d55829ae7990177974d1cb1a617fbe2f5e0aeb2e8739fe2ac", checked := Try.checked }
namespace Rows
def none {H : Type} : Left H := { results := [], args := [] }

/-- 'laws.FnExactPastOk': WHATEVER THE INPUT: true; the input reads as it did. -/
def fnExactPastOkSpec : ChangeSpec := { name := "fnExactPastOk", fn := fun _ => fun
  | [d] => { results := [.lit (.bool true)], args := [d] }
  | _ => none }
def fnExactPastOkRow : OpenClaim := { program := "ytgogajbfiocdbaa", sum := "862ec7436d8c7d2d55829ae7990177974d1cb1a617fbe2f5e0aeb2e8739fe2ac", func := "loop.example/g00138/laws.FnExactPastOk", spec := "fnExactPastOk", apart := false }
def FnExactPastOkSaid : Prop := fnExactPastOkRow.holds Try.pinned (OpenSpec.ofChange fnExactPastOkSpec)

/-- ITS FALSE NEIGHBOUR: 'it returns false'. Refute it at one input. -/
def fnExactPastOkWrong : ChangeSpec := { name := "fnExactPastOk", fn := fun _ => fun
  | [d] => { results := [.lit (.bool false)], args := [d] }
  | _ => none }
def FnExactPastOkWrongFalsely : Prop := fnExactPastOkRow.holds Try.pinned (OpenSpec.ofChange fnExactPastOkWrong)

/-- 'laws.FnExactTxAck': WHATEVER THE INPUT: true; the input reads as it did. -/
def fnExactTxAckSpec : ChangeSpec := { name := "fnExactTxAck", fn := fun _ => fun
  | [d1, d2] => { results := [.lit (.bool true)], args := [d1, d2] }
  | _ => none }
def fnExactTxAckRow : OpenClaim := { program := "ytgogajbfiocdbaa", sum := "862ec7436d8c7d2d55829ae7990177974d1cb1a617fbe2f5e0aeb2e8739fe2ac", func := "loop.example/g00138/laws.FnExactTxAck", spec := "fnExactTxAck", apart := false }
def FnExactTxAckSaid : Prop := fnExactTxAckRow.holds Try.pinned (OpenSpec.ofChange fnExactTxAckSpec)

/-- ITS FALSE NEIGHBOUR: 'it returns false'. Refute it at one input. -/
def fnExactTxAckWrong : ChangeSpec := { name := "fnExactTxAck", fn := fun _ => fun
  | [d1, d2] => { results := [.lit (.bool false)], args := [d1, d2] }
  | _ => none }
def FnExactTxAckWrongFalsely : Prop := fnExactTxAckRow.holds Try.pinned (OpenSpec.ofChange fnExactTxAckWrong)

/-- 'laws.FnExactTxVote': WHATEVER THE INPUT: true; the input reads as it did. -/
def fnExactTxVoteSpec : ChangeSpec := { name := "fnExactTxVote", fn := fun _ => fun
  | [d1, d2, d3] => { results := [.lit (.bool true)], args := [d1, d2, d3] }
  | _ => none }
def fnExactTxVoteRow : OpenClaim := { program := "ytgogajbfiocdbaa", sum := "862ec7436d8c7d2d55829ae7990177974d1cb1a617fbe2f5e0aeb2e8739fe2ac", func := "loop.example/g00138/laws.FnExactTxVote", spec := "fnExactTxVote", apart := false }
def FnExactTxVoteSaid : Prop := fnExactTxVoteRow.holds Try.pinned (OpenSpec.ofChange fnExactTxVoteSpec)

/-- ITS FALSE NEIGHBOUR: 'it returns false'. Refute it at one input. -/
def fnExactTxVoteWrong : ChangeSpec := { name := "fnExactTxVote", fn := fun _ => fun
  | [d1, d2, d3] => { results := [.lit (.bool false)], args := [d1, d2, d3] }
  | _ => none }
def FnExactTxVoteWrongFalsely : Prop := fnExactTxVoteRow.holds Try.pinned (OpenSpec.ofChange fnExactTxVoteWrong)

/-- 'laws.FnExactRouteOf': WHATEVER THE INPUT: true; the input reads as it did. -/
def fnExactRouteOfSpec : ChangeSpec := { name := "fnExactRouteOf", fn := fun _ => fun
  | [d1, d2] => { results := [.lit (.bool true)], args := [d1, d2] }
  | _ => none }
def fnExactRouteOfRow : OpenClaim := { program := "ytgogajbfiocdbaa", sum := "862ec7436d8c7d2d55829ae7990177974d1cb1a617fbe2f5e0aeb2e8739fe2ac", func := "loop.example/g00138/laws.FnExactRouteOf", spec := "fnExactRouteOf", unfollowed := true, recurses := true, apart := false }
def FnExactRouteOfSaid : Prop := fnExactRouteOfRow.holds Try.pinned (OpenSpec.ofChange fnExactRouteOfSpec)

/-- ITS FALSE NEIGHBOUR: 'it returns false'. Refute it at one input. -/
def fnExactRouteOfWrong : ChangeSpec := { name := "fnExactRouteOf", fn := fun _ => fun
  | [d1, d2] => { results := [.lit (.bool false)], args := [d1, d2] }
  | _ => none }
def FnExactRouteOfWrongFalsely : Prop := fnExactRouteOfRow.holds Try.pinned (OpenSpec.ofChange fnExactRouteOfWrong)

/-- 'laws.FnExactMovedBetween': WHATEVER THE INPUT: true; the input reads as it did. -/
def fnExactMovedBetweenSpec : ChangeSpec := { name := "fnExactMovedBetween", fn := fun _ => fun
  | [d1, d2, d3] => { results := [.lit (.bool true)], args := [d1, d2, d3] }
  | _ => none }
def fnExactMovedBetweenRow : OpenClaim := { program := "ytgogajbfiocdbaa", sum := "862ec7436d8c7d2d55829ae7990177974d1cb1a617fbe2f5e0aeb2e8739fe2ac", func := "loop.example/g00138/laws.FnExactMovedBetween", spec := "fnExactMovedBetween", unfollowed := true, recurses := true, apart := false }
def FnExactMovedBetweenSaid : Prop := fnExactMovedBetweenRow.holds Try.pinned (OpenSpec.ofChange fnExactMovedBetweenSpec)

/-- ITS FALSE NEIGHBOUR: 'it returns false'. Refute it at one input. -/
def fnExactMovedBetweenWrong : ChangeSpec := { name := "fnExactMovedBetween", fn := fun _ => fun
  | [d1, d2, d3] => { results := [.lit (.bool false)], args := [d1, d2, d3] }
  | _ => none }
def FnExactMovedBetweenWrongFalsely : Prop := fnExactMovedBetweenRow.holds Try.pinned (OpenSpec.ofChange fnExactMovedBetweenWrong)

/-- 'laws.FnExactTxSends': WHATEVER THE INPUT: true; the input reads as it did. -/
def fnExactTxSendsSpec : ChangeSpec := { name := "fnExactTxSends", fn := fun _ => fun
  | [d] => { results := [.lit (.bool true)], args := [d] }
  | _ => none }
def fnExactTxSendsRow : OpenClaim := { program := "ytgogajbfiocdbaa", sum := "862ec7436d8c7d2d55829ae7990177974d1cb1a617fbe2f5e0aeb2e8739fe2ac", func := "loop.example/g00138/laws.FnExactTxSends", spec := "fnExactTxSends", apart := false }
def FnExactTxSendsSaid : Prop := fnExactTxSendsRow.holds Try.pinned (OpenSpec.ofChange fnExactTxSendsSpec)

/-- ITS FALSE NEIGHBOUR: 'it returns false'. Refute it at one input. -/
def fnExactTxSendsWrong : ChangeSpec := { name := "fnExactTxSends", fn := fun _ => fun
  | [d] => { results := [.lit (.bool false)], args := [d] }
  | _ => none }
def FnExactTxSendsWrongFalsely : Prop := fnExactTxSendsRow.holds Try.pinned (OpenSpec.ofChange fnExactTxSendsWrong)

/-- 'laws.FnExactPastAt': WHATEVER THE INPUT: true; the input reads as it did. -/
def fnExactPastAtSpec : ChangeSpec := { name := "fnExactPastAt", fn := fun _ => fun
  | [d1, d2] => { results := [.lit (.bool true)], args := [d1, d2] }
  | _ => none }
def fnExactPastAtRow : OpenClaim := { program := "ytgogajbfiocdbaa", sum := "862ec7436d8c7d2d55829ae7990177974d1cb1a617fbe2f5e0aeb2e8739fe2ac", func := "loop.example/g00138/laws.FnExactPastAt", spec := "fnExactPastAt", apart := false }
def FnExactPastAtSaid : Prop := fnExactPastAtRow.holds Try.pinned (OpenSpec.ofChange fnExactPastAtSpec)

/-- ITS FALSE NEIGHBOUR: 'it returns false'. Refute it at one input. -/
def fnExactPastAtWrong : ChangeSpec := { name := "fnExactPastAt", fn := fun _ => fun
  | [d1, d2] => { results := [.lit (.bool false)], args := [d1, d2] }
  | _ => none }
def FnExactPastAtWrongFalsely : Prop := fnExactPastAtRow.holds Try.pinned (OpenSpec.ofChange fnExactPastAtWrong)

/-- 'laws.FnExactClientOk': WHATEVER THE INPUT: true; the input reads as it did. -/
def fnExactClientOkSpec : ChangeSpec := { name := "fnExactClientOk", fn := fun _ => fun
  | [d] => { results := [.lit (.bool true)], args := [d] }
  | _ => none }
def fnExactClientOkRow : OpenClaim := { program := "ytgogajbfiocdbaa", sum := "862ec7436d8c7d2d55829ae7990177974d1cb1a617fbe2f5e0aeb2e8739fe2ac", func := "loop.example/g00138/laws.FnExactClientOk", spec := "fnExactClientOk", unfollowed := true, recurses := true, apart := false }
def FnExactClientOkSaid : Prop := fnExactClientOkRow.holds Try.pinned (OpenSpec.ofChange fnExactClientOkSpec)

/-- ITS FALSE NEIGHBOUR: 'it returns false'. Refute it at one input. -/
def fnExactClientOkWrong : ChangeSpec := { name := "fnExactClientOk", fn := fun _ => fun
  | [d] => { results := [.lit (.bool false)], args := [d] }
  | _ => none }
def FnExactClientOkWrongFalsely : Prop := fnExactClientOkRow.holds Try.pinned (OpenSpec.ofChange fnExactClientOkWrong)

/-- 'laws.FnExactHandDone': WHATEVER THE INPUT: true; the input reads as it did. -/
def fnExactHandDoneSpec : ChangeSpec := { name := "fnExactHandDone", fn := fun _ => fun
  | [d1, d2] => { results := [.lit (.bool true)], args := [d1, d2] }
  | _ => none }
def fnExactHandDoneRow : OpenClaim := { program := "ytgogajbfiocdbaa", sum := "862ec7436d8c7d2d55829ae7990177974d1cb1a617fbe2f5e0aeb2e8739fe2ac", func := "loop.example/g00138/laws.FnExactHandDone", spec := "fnExactHandDone", apart := false }
def FnExactHandDoneSaid : Prop := fnExactHandDoneRow.holds Try.pinned (OpenSpec.ofChange fnExactHandDoneSpec)

/-- ITS FALSE NEIGHBOUR: 'it returns false'. Refute it at one input. -/
def fnExactHandDoneWrong : ChangeSpec := { name := "fnExactHandDone", fn := fun _ => fun
  | [d1, d2] => { results := [.lit (.bool false)], args := [d1, d2] }
  | _ => none }
def FnExactHandDoneWrongFalsely : Prop := fnExactHandDoneRow.holds Try.pinned (OpenSpec.ofChange fnExactHandDoneWrong)

/-- 'laws.FnExactClientWhere': WHATEVER THE INPUT: true; the input reads as it did. -/
def fnExactClientWhereSpec : ChangeSpec := { name := "fnExactClientWhere", fn := fun _ => fun
  | [d1, d2] => { results := [.lit (.bool true)], args := [d1, d2] }
  | _ => none }
def fnExactClientWhereRow : OpenClaim := { program := "ytgogajbfiocdbaa", sum := "862ec7436d8c7d2d55829ae7990177974d1cb1a617fbe2f5e0aeb2e8739fe2ac", func := "loop.example/g00138/laws.FnExactClientWhere", spec := "fnExactClientWhere", unfollowed := true, recurses := true, apart := false }
def FnExactClientWhereSaid : Prop := fnExactClientWhereRow.holds Try.pinned (OpenSpec.ofChange fnExactClientWhereSpec)

/-- ITS FALSE NEIGHBOUR: 'it returns false'. Refute it at one input. -/
def fnExactClientWhereWrong : ChangeSpec := { name := "fnExactClientWhere", fn := fun _ => fun
  | [d1, d2] => { results := [.lit (.bool false)], args := [d1, d2] }
  | _ => none }
def FnExactClientWhereWrongFalsely : Prop := fnExactClientWhereRow.holds Try.pinned (OpenSpec.ofChange fnExactClientWhereWrong)

/-- 'laws.FnExactNewClient': WHATEVER THE INPUT: true; the input reads as it did. -/
def fnExactNewClientSpec : ChangeSpec := { name := "fnExactNewClient", fn := fun _ => fun
  | [d1, d2] => { results := [.lit (.bool true)], args := [d1, d2] }
  | _ => none }
def fnExactNewClientRow : OpenClaim := { program := "ytgogajbfiocdbaa", sum := "862ec7436d8c7d2d55829ae7990177974d1cb1a617fbe2f5e0aeb2e8739fe2ac", func := "loop.example/g00138/laws.FnExactNewClient", spec := "fnExactNewClient", unfollowed := true, recurses := true, apart := false }
def FnExactNewClientSaid : Prop := fnExactNewClientRow.holds Try.pinned (OpenSpec.ofChange fnExactNewClientSpec)

/-- ITS FALSE NEIGHBOUR: 'it returns false'. Refute it at one input. -/
def fnExactNewClientWrong : ChangeSpec := { name := "fnExactNewClient", fn := fun _ => fun
  | [d1, d2] => { results := [.lit (.bool false)], args := [d1, d2] }
  | _ => none }
def FnExactNewClientWrongFalsely : Prop := fnExactNewClientRow.holds Try.pinned (OpenSpec.ofChange fnExactNewClientWrong)

/-- 'laws.FnExactPlayTx': WHATEVER THE INPUT: true; the input reads as it did. -/
def fnExactPlayTxSpec : ChangeSpec := { name := "fnExactPlayTx", fn := fun _ => fun
  | [d1, d2] => { results := [.lit (.bool true)], args := [d1, d2] }
  | _ => none }
def fnExactPlayTxRow : OpenClaim := { program := "ytgogajbfiocdbaa", sum := "862ec7436d8c7d2d55829ae7990177974d1cb1a617fbe2f5e0aeb2e8739fe2ac", func := "loop.example/g00138/laws.FnExactPlayTx", spec := "fnExactPlayTx", apart := false }
def FnExactPlayTxSaid : Prop := fnExactPlayTxRow.holds Try.pinned (OpenSpec.ofChange fnExactPlayTxSpec)

/-- ITS FALSE NEIGHBOUR: 'it returns false'. Refute it at one input. -/
def fnExactPlayTxWrong : ChangeSpec := { name := "fnExactPlayTx", fn := fun _ => fun
  | [d1, d2] => { results := [.lit (.bool false)], args := [d1, d2] }
  | _ => none }
def FnExactPlayTxWrongFalsely : Prop := fnExactPlayTxRow.holds Try.pinned (OpenSpec.ofChange fnExactPlayTxWrong)

/- THE SECOND FORM. 'bulk': how many values and letters a reading holds, each counted each time it is reached (what is shared counts as often as it is met; a slice's spare places count too). A statement '..UptoSaid' is the law's where the arguments, and the package variables that the reading takes, are together of bulk at most 1048576: NARROWER than '..Said'. Prove '..Said' where nothing that the law and all that it calls make is longer than what came in: it says more and counts as full. Else prove '..UptoSaid'. A law counts once. -/
mutual
def uptoBulk {H : Type} : DataW H → Nat
  | .lit (.string bytes) => bytes.length + 1
  | .lit _ => 1
  | .nil => 1
  | .ptr d => uptoBulk d + 1
  | .slice elems spare => uptoBulkAll elems + uptoBulkAll spare + 1
  | .agg parts => uptoBulkAll parts + 1
  | .iface _ d => uptoBulk d + 1
  | .map entries => uptoBulkEntries entries + 1
  | .held _ => 1
def uptoBulkAll {H : Type} : List (DataW H) → Nat
  | [] => 0
  | d :: r => uptoBulk d + uptoBulkAll r
def uptoBulkEntries {H : Type} : List (Lit × DataW H) → Nat
  | [] => 0
  | x :: r => uptoBulkEntry x + uptoBulkEntries r
def uptoBulkEntry {H : Type} : Lit × DataW H → Nat
  | (.string bytes, d) => bytes.length + uptoBulk d + 1
  | (_, d) => uptoBulk d + 1
 end
def uptoSmall : (H : Type) → List (DataW H) → Bool := fun _ ds => decide (uptoBulkAll ds ≤ 1048576)
def OpenSpec.upto (s : _root_.Go.ChangeSpec) : _root_.Go.OpenSpec := { _root_.Go.OpenSpec.ofChange s with cond := some uptoSmall }

/-- 'laws.FnExactPastOk', WHERE WHAT IT READS IS OF BULK AT MOST 1048576: true; the input reads as it did. -/
def fnExactPastOkUptoRow : OpenClaim := { program := "ytgogajbfiocdbaa", sum := "862ec7436d8c7d2d55829ae7990177974d1cb1a617fbe2f5e0aeb2e8739fe2ac", func := "loop.example/g00138/laws.FnExactPastOk", spec := "fnExactPastOk", apart := false, narrowed := true }
def FnExactPastOkUptoSaid : Prop := fnExactPastOkUptoRow.holds Try.pinned (OpenSpec.upto fnExactPastOkSpec)

/-- 'laws.FnExactTxAck', WHERE WHAT IT READS IS OF BULK AT MOST 1048576: true; the input reads as it did. -/
def fnExactTxAckUptoRow : OpenClaim := { program := "ytgogajbfiocdbaa", sum := "862ec7436d8c7d2d55829ae7990177974d1cb1a617fbe2f5e0aeb2e8739fe2ac", func := "loop.example/g00138/laws.FnExactTxAck", spec := "fnExactTxAck", apart := false, narrowed := true }
def FnExactTxAckUptoSaid : Prop := fnExactTxAckUptoRow.holds Try.pinned (OpenSpec.upto fnExactTxAckSpec)

/-- 'laws.FnExactTxVote', WHERE WHAT IT READS IS OF BULK AT MOST 1048576: true; the input reads as it did. -/
def fnExactTxVoteUptoRow : OpenClaim := { program := "ytgogajbfiocdbaa", sum := "862ec7436d8c7d2d55829ae7990177974d1cb1a617fbe2f5e0aeb2e8739fe2ac", func := "loop.example/g00138/laws.FnExactTxVote", spec := "fnExactTxVote", apart := false, narrowed := true }
def FnExactTxVoteUptoSaid : Prop := fnExactTxVoteUptoRow.holds Try.pinned (OpenSpec.upto fnExactTxVoteSpec)

/-- 'laws.FnExactRouteOf', WHERE WHAT IT READS IS OF BULK AT MOST 1048576: true; the input reads as it did. -/
def fnExactRouteOfUptoRow : OpenClaim := { program := "ytgogajbfiocdbaa", sum := "862ec7436d8c7d2d55829ae7990177974d1cb1a617fbe2f5e0aeb2e8739fe2ac", func := "loop.example/g00138/laws.FnExactRouteOf", spec := "fnExactRouteOf", unfollowed := true, recurses := true, apart := false, narrowed := true }
def FnExactRouteOfUptoSaid : Prop := fnExactRouteOfUptoRow.holds Try.pinned (OpenSpec.upto fnExactRouteOfSpec)

/-- 'laws.FnExactMovedBetween', WHERE WHAT IT READS IS OF BULK AT MOST 1048576: true; the input reads as it did. -/
def fnExactMovedBetweenUptoRow : OpenClaim := { program := "ytgogajbfiocdbaa", sum := "862ec7436d8c7d2d55829ae7990177974d1cb1a617fbe2f5e0aeb2e8739fe2ac", func := "loop.example/g00138/laws.FnExactMovedBetween", spec := "fnExactMovedBetween", unfollowed := true, recurses := true, apart := false, narrowed := true }
def FnExactMovedBetweenUptoSaid : Prop := fnExactMovedBetweenUptoRow.holds Try.pinned (OpenSpec.upto fnExactMovedBetweenSpec)

/-- 'laws.FnExactTxSends', WHERE WHAT IT READS IS OF BULK AT MOST 1048576: true; the input reads as it did. -/
def fnExactTxSendsUptoRow : OpenClaim := { program := "ytgogajbfiocdbaa", sum := "862ec7436d8c7d2d55829ae7990177974d1cb1a617fbe2f5e0aeb2e8739fe2ac", func := "loop.example/g00138/laws.FnExactTxSends", spec := "fnExactTxSends", apart := false, narrowed := true }
def FnExactTxSendsUptoSaid : Prop := fnExactTxSendsUptoRow.holds Try.pinned (OpenSpec.upto fnExactTxSendsSpec)

/-- 'laws.FnExactPastAt', WHERE WHAT IT READS IS OF BULK AT MOST 1048576: true; the input reads as it did. -/
def fnExactPastAtUptoRow : OpenClaim := { program := "ytgogajbfiocdbaa", sum := "862ec7436d8c7d2d55829ae7990177974d1cb1a617fbe2f5e0aeb2e8739fe2ac", func := "loop.example/g00138/laws.FnExactPastAt", spec := "fnExactPastAt", apart := false, narrowed := true }
def FnExactPastAtUptoSaid : Prop := fnExactPastAtUptoRow.holds Try.pinned (OpenSpec.upto fnExactPastAtSpec)

/-- 'laws.FnExactClientOk', WHERE WHAT IT READS IS OF BULK AT MOST 1048576: true; the input reads as it did. -/
def fnExactClientOkUptoRow : OpenClaim := { program := "ytgogajbfiocdbaa", sum := "862ec7436d8c7d2d55829ae7990177974d1cb1a617fbe2f5e0aeb2e8739fe2ac", func := "loop.example/g00138/laws.FnExactClientOk", spec := "fnExactClientOk", unfollowed := true, recurses := true, apart := false, narrowed := true }
def FnExactClientOkUptoSaid : Prop := fnExactClientOkUptoRow.holds Try.pinned (OpenSpec.upto fnExactClientOkSpec)

/-- 'laws.FnExactHandDone', WHERE WHAT IT READS IS OF BULK AT MOST 1048576: true; the input reads as it did. -/
def fnExactHandDoneUptoRow : OpenClaim := { program := "ytgogajbfiocdbaa", sum := "862ec7436d8c7d2d55829ae7990177974d1cb1a617fbe2f5e0aeb2e8739fe2ac", func := "loop.example/g00138/laws.FnExactHandDone", spec := "fnExactHandDone", apart := false, narrowed := true }
def FnExactHandDoneUptoSaid : Prop := fnExactHandDoneUptoRow.holds Try.pinned (OpenSpec.upto fnExactHandDoneSpec)

/-- 'laws.FnExactClientWhere', WHERE WHAT IT READS IS OF BULK AT MOST 1048576: true; the input reads as it did. -/
def fnExactClientWhereUptoRow : OpenClaim := { program := "ytgogajbfiocdbaa", sum := "862ec7436d8c7d2d55829ae7990177974d1cb1a617fbe2f5e0aeb2e8739fe2ac", func := "loop.example/g00138/laws.FnExactClientWhere", spec := "fnExactClientWhere", unfollowed := true, recurses := true, apart := false, narrowed := true }
def FnExactClientWhereUptoSaid : Prop := fnExactClientWhereUptoRow.holds Try.pinned (OpenSpec.upto fnExactClientWhereSpec)

/-- 'laws.FnExactNewClient', WHERE WHAT IT READS IS OF BULK AT MOST 1048576: true; the input reads as it did. -/
def fnExactNewClientUptoRow : OpenClaim := { program := "ytgogajbfiocdbaa", sum := "862ec7436d8c7d2d55829ae7990177974d1cb1a617fbe2f5e0aeb2e8739fe2ac", func := "loop.example/g00138/laws.FnExactNewClient", spec := "fnExactNewClient", unfollowed := true, recurses := true, apart := false, narrowed := true }
def FnExactNewClientUptoSaid : Prop := fnExactNewClientUptoRow.holds Try.pinned (OpenSpec.upto fnExactNewClientSpec)

/-- 'laws.FnExactPlayTx', WHERE WHAT IT READS IS OF BULK AT MOST 1048576: true; the input reads as it did. -/
def fnExactPlayTxUptoRow : OpenClaim := { program := "ytgogajbfiocdbaa", sum := "862ec7436d8c7d2d55829ae7990177974d1cb1a617fbe2f5e0aeb2e8739fe2ac", func := "loop.example/g00138/laws.FnExactPlayTx", spec := "fnExactPlayTx", apart := false, narrowed := true }
def FnExactPlayTxUptoSaid : Prop := fnExactPlayTxUptoRow.holds Try.pinned (OpenSpec.upto fnExactPlayTxSpec)

end Rows
end Go.Proofs.Ytgogajbfiocdbaa
