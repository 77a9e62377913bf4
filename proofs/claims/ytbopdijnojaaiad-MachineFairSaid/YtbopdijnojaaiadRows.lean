/-
  No cell of these rows narrows 'for every input' (looked for: loops, veiled, ifaces, maps, wideKeys, modest, calm, conditions, laid).
  DERIVED. THE GIVEN ROWS OF THIS SEAT. 3 by the template 'for every input the law returns true; each argument reads behind the call as it read before'; 0 by the template 'total and deterministic' (their statements: YtbopdijnojaaiadTotals.lean).
  GIVEN WITH THE SEED: the statements are not yours to turn. If you find one false, say at which input.
  Laid BY PROGRAM, IN A SANDBOX (cutbox-rows.mjs): the forced cells as the released guide's own fill.sh prints them over the translation d82d8a2b0a015966… (all of the seat's roots in one cut). By AI agents, Wed Nov 11 2026. No macro, syntax, notation, axiom, sorry.
-/
import Derived.Test.YtbopdijnojaaiadChecked
import GoSem.Claim
import GoSem.ClaimJoined
import GoSem.ClaimMapViews
import Derived.JoinedTies
import Derived.KernelRfl
namespace Go.Proofs.Ytbopdijnojaaiad
/- THE CELL 'sum', in the pinned program and in every row, IS THE sha256 OF THE DUMP (.gsa) THAT YtbopdijnojaaiadProg.lean LOADS. Nothing in Lean hashes anything: it is a label: what it is worth is what the hold of that sum in a sandbox is worth. -/
noncomputable def Try.pinned : Pinned := { name := "ytbopdijnojaaiad", sum := "d82d8a2b0a015966abd4729e92a5756eb714da7aba1a1042d3682f5f8d4af0b5", checked := Try.checked }
namespace Rows
def none {H : Type} : Left H := { results := [], args := [] }

/-- 'drawbridgelaw.AuditOwn': WHATEVER THE INPUT: true; the input reads as it did. -/
def auditOwnSpec : ChangeSpec := { name := "auditOwn", fn := fun _ => fun
  | [d1, d2] => { results := [.lit (.bool true)], args := [d1, d2] }
  | _ => none }
def auditOwnRow : OpenClaim := { program := "ytbopdijnojaaiad", sum := "d82d8a2b0a015966abd4729e92a5756eb714da7aba1a1042d3682f5f8d4af0b5", func := "drawbridge/drawbridgelaw.AuditOwn", spec := "auditOwn", unfollowed := true, recurses := true, plainKeys := false, apart := false }
def AuditOwnSaid : Prop := auditOwnRow.holds Try.pinned (OpenSpec.ofChange auditOwnSpec)

/-- ITS FALSE NEIGHBOUR: 'it returns false'. Refute it at one input. -/
def auditOwnWrong : ChangeSpec := { name := "auditOwn", fn := fun _ => fun
  | [d1, d2] => { results := [.lit (.bool false)], args := [d1, d2] }
  | _ => none }
def AuditOwnWrongFalsely : Prop := auditOwnRow.holds Try.pinned (OpenSpec.ofChange auditOwnWrong)

/-- 'drawbridgelaw.MachineTold': WHATEVER THE INPUT: true; the input reads as it did. -/
def machineToldSpec : ChangeSpec := { name := "machineTold", fn := fun _ => fun
  | [d1, d2] => { results := [.lit (.bool true)], args := [d1, d2] }
  | _ => none }
def machineToldRow : OpenClaim := { program := "ytbopdijnojaaiad", sum := "d82d8a2b0a015966abd4729e92a5756eb714da7aba1a1042d3682f5f8d4af0b5", func := "drawbridge/drawbridgelaw.MachineTold", spec := "machineTold", unfollowed := true, recurses := true, plainKeys := false, apart := false }
def MachineToldSaid : Prop := machineToldRow.holds Try.pinned (OpenSpec.ofChange machineToldSpec)

/-- ITS FALSE NEIGHBOUR: 'it returns false'. Refute it at one input. -/
def machineToldWrong : ChangeSpec := { name := "machineTold", fn := fun _ => fun
  | [d1, d2] => { results := [.lit (.bool false)], args := [d1, d2] }
  | _ => none }
def MachineToldWrongFalsely : Prop := machineToldRow.holds Try.pinned (OpenSpec.ofChange machineToldWrong)

/-- 'drawbridgelaw.MachineFair': WHATEVER THE INPUT: true; the input reads as it did. -/
def machineFairSpec : ChangeSpec := { name := "machineFair", fn := fun _ => fun
  | [d1, d2] => { results := [.lit (.bool true)], args := [d1, d2] }
  | _ => none }
def machineFairRow : OpenClaim := { program := "ytbopdijnojaaiad", sum := "d82d8a2b0a015966abd4729e92a5756eb714da7aba1a1042d3682f5f8d4af0b5", func := "drawbridge/drawbridgelaw.MachineFair", spec := "machineFair", unfollowed := true, recurses := true, plainKeys := false, apart := false }
def MachineFairSaid : Prop := machineFairRow.holds Try.pinned (OpenSpec.ofChange machineFairSpec)

/-- ITS FALSE NEIGHBOUR: 'it returns false'. Refute it at one input. -/
def machineFairWrong : ChangeSpec := { name := "machineFair", fn := fun _ => fun
  | [d1, d2] => { results := [.lit (.bool false)], args := [d1, d2] }
  | _ => none }
def MachineFairWrongFalsely : Prop := machineFairRow.holds Try.pinned (OpenSpec.ofChange machineFairWrong)

/- THE SECOND FORM. 'bulk': how many values and letters a reading holds, each counted each time it is reached (what is shared counts as often as it is met; a slice's spare places count too). A statement '..UptoSaid' is the law's where the arguments, and the package variables that the reading takes, are together of bulk at most 1048576: NARROWER than '..Said'. Prove '..Said' where nothing that the law and all that it calls make is longer than what came in: it says more and counts as full. Else prove '..UptoSaid'. A law counts once. -/
mutual
def uptoBulk {H : Type} : DataW H → Nat
  | .lit (.string bytes) => bytes.length + 1
  | .lit _ => 1
  | .nil => 1
  | .ptr d => uptoBulk d + 1
  | .slice elems spare => uptoBulkAll elems + uptoBulkAll spare + 1
  | .agg parts => uptoBulkAll parts + 1
  | .iface _ d => uptoBulk d + 1
  | .map entries => uptoBulkEntries entries + 1
  | .held _ => 1
def uptoBulkAll {H : Type} : List (DataW H) → Nat
  | [] => 0
  | d :: r => uptoBulk d + uptoBulkAll r
def uptoBulkEntries {H : Type} : List (Lit × DataW H) → Nat
  | [] => 0
  | x :: r => uptoBulkEntry x + uptoBulkEntries r
def uptoBulkEntry {H : Type} : Lit × DataW H → Nat
  | (.string bytes, d) => bytes.length + uptoBulk d + 1
  | (_, d) => uptoBulk d + 1
 end
def uptoSmall : (H : Type) → List (DataW H) → Bool := fun _ ds => decide (uptoBulkAll ds ≤ 1048576)
def OpenSpec.upto (s : _root_.Go.ChangeSpec) : _root_.Go.OpenSpec := { _root_.Go.OpenSpec.ofChange s with cond := some uptoSmall }

/-- 'drawbridgelaw.AuditOwn', WHERE WHAT IT READS IS OF BULK AT MOST 1048576: true; the input reads as it did. -/
def auditOwnUptoRow : OpenClaim := { program := "ytbopdijnojaaiad", sum := "d82d8a2b0a015966abd4729e92a5756eb714da7aba1a1042d3682f5f8d4af0b5", func := "drawbridge/drawbridgelaw.AuditOwn", spec := "auditOwn", unfollowed := true, recurses := true, plainKeys := false, apart := false, narrowed := true }
def AuditOwnUptoSaid : Prop := auditOwnUptoRow.holds Try.pinned (OpenSpec.upto auditOwnSpec)

/-- 'drawbridgelaw.MachineTold', WHERE WHAT IT READS IS OF BULK AT MOST 1048576: true; the input reads as it did. -/
def machineToldUptoRow : OpenClaim := { program := "ytbopdijnojaaiad", sum := "d82d8a2b0a015966abd4729e92a5756eb714da7aba1a1042d3682f5f8d4af0b5", func := "drawbridge/drawbridgelaw.MachineTold", spec := "machineTold", unfollowed := true, recurses := true, plainKeys := false, apart := false, narrowed := true }
def MachineToldUptoSaid : Prop := machineToldUptoRow.holds Try.pinned (OpenSpec.upto machineToldSpec)

/-- 'drawbridgelaw.MachineFair', WHERE WHAT IT READS IS OF BULK AT MOST 1048576: true; the input reads as it did. -/
def machineFairUptoRow : OpenClaim := { program := "ytbopdijnojaaiad", sum := "d82d8a2b0a015966abd4729e92a5756eb714da7aba1a1042d3682f5f8d4af0b5", func := "drawbridge/drawbridgelaw.MachineFair", spec := "machineFair", unfollowed := true, recurses := true, plainKeys := false, apart := false, narrowed := true }
def MachineFairUptoSaid : Prop := machineFairUptoRow.holds Try.pinned (OpenSpec.upto machineFairSpec)

end Rows
end Go.Proofs.Ytbopdijnojaaiad
