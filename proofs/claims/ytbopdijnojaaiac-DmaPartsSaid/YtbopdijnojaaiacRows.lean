/-
  No cell of these rows narrows 'for every input' (looked for: loops, veiled, ifaces, maps, wideKeys, modest, calm, conditions, laid).
  DERIVED. THE GIVEN ROWS OF THIS SEAT. 12 by the template 'for every input the law returns true; each argument reads behind the call as it read before'; 0 by the template 'total and deterministic' (their statements: YtbopdijnojaaiacTotals.lean).
  GIVEN WITH THE SEED: the statements are not yours to turn. If you find one false, say at which input.
  Laid BY PROGRAM, IN A SANDBOX (cutbox-rows.mjs): the forced cells as the released guide's own fill.sh prints them over the translation ed4e5b8a16d2d8a7… (all of the seat's roots in one cut). By AI agents, Wed Nov 11 2026. No macro, syntax, notation, axiom, sorry.
-/
import Derived.Test.YtbopdijnojaaiacChecked
import GoSem.Claim
import GoSem.ClaimJoined
import GoSem.ClaimMapViews
import Derived.JoinedTies
import Derived.KernelRfl
namespace Go.Proofs.Ytbopdijnojaaiac
/- THE CELL 'sum', in the pinned program and in every row, IS THE sha256 OF THE DUMP (.gsa) THAT YtbopdijnojaaiacProg.lean LOADS. Nothing in Lean hashes anything: it is a label: what it is worth is what the hold of that sum in a sandbox is worth. -/
noncomputable def Try.pinned : Pinned := { name := "ytbopdijnojaaiac", sum := "ed4e5b8a16d2d8a7fdec7c15125b34b863546774911b9c263f9df0ecb3be8f30", checked := Try.checked }
namespace Rows
def none {H : Type} : Left H := { results := [], args := [] }

/-- 'drawbridgelaw.AuditSays': WHATEVER THE INPUT: true; the input reads as it did. -/
def auditSaysSpec : ChangeSpec := { name := "auditSays", fn := fun _ => fun
  | [d1, d2] => { results := [.lit (.bool true)], args := [d1, d2] }
  | _ => none }
def auditSaysRow : OpenClaim := { program := "ytbopdijnojaaiac", sum := "ed4e5b8a16d2d8a7fdec7c15125b34b863546774911b9c263f9df0ecb3be8f30", func := "drawbridge/drawbridgelaw.AuditSays", spec := "auditSays", unfollowed := true, recurses := true, apart := false }
def AuditSaysSaid : Prop := auditSaysRow.holds Try.pinned (OpenSpec.ofChange auditSaysSpec)

/-- ITS FALSE NEIGHBOUR: 'it returns false'. Refute it at one input. -/
def auditSaysWrong : ChangeSpec := { name := "auditSays", fn := fun _ => fun
  | [d1, d2] => { results := [.lit (.bool false)], args := [d1, d2] }
  | _ => none }
def AuditSaysWrongFalsely : Prop := auditSaysRow.holds Try.pinned (OpenSpec.ofChange auditSaysWrong)

/-- 'drawbridgelaw.AuditMore': WHATEVER THE INPUT: true; the input reads as it did. -/
def auditMoreSpec : ChangeSpec := { name := "auditMore", fn := fun _ => fun
  | [d1, d2, d3] => { results := [.lit (.bool true)], args := [d1, d2, d3] }
  | _ => none }
def auditMoreRow : OpenClaim := { program := "ytbopdijnojaaiac", sum := "ed4e5b8a16d2d8a7fdec7c15125b34b863546774911b9c263f9df0ecb3be8f30", func := "drawbridge/drawbridgelaw.AuditMore", spec := "auditMore", unfollowed := true, recurses := true, apart := false }
def AuditMoreSaid : Prop := auditMoreRow.holds Try.pinned (OpenSpec.ofChange auditMoreSpec)

/-- ITS FALSE NEIGHBOUR: 'it returns false'. Refute it at one input. -/
def auditMoreWrong : ChangeSpec := { name := "auditMore", fn := fun _ => fun
  | [d1, d2, d3] => { results := [.lit (.bool false)], args := [d1, d2, d3] }
  | _ => none }
def AuditMoreWrongFalsely : Prop := auditMoreRow.holds Try.pinned (OpenSpec.ofChange auditMoreWrong)

/-- 'drawbridgelaw.BridgeFaults': WHATEVER THE INPUT: true; the input reads as it did. -/
def bridgeFaultsSpec : ChangeSpec := { name := "bridgeFaults", fn := fun _ => fun
  | [d1, d2, d3] => { results := [.lit (.bool true)], args := [d1, d2, d3] }
  | _ => none }
def bridgeFaultsRow : OpenClaim := { program := "ytbopdijnojaaiac", sum := "ed4e5b8a16d2d8a7fdec7c15125b34b863546774911b9c263f9df0ecb3be8f30", func := "drawbridge/drawbridgelaw.BridgeFaults", spec := "bridgeFaults", unfollowed := true, recurses := true, apart := false }
def BridgeFaultsSaid : Prop := bridgeFaultsRow.holds Try.pinned (OpenSpec.ofChange bridgeFaultsSpec)

/-- ITS FALSE NEIGHBOUR: 'it returns false'. Refute it at one input. -/
def bridgeFaultsWrong : ChangeSpec := { name := "bridgeFaults", fn := fun _ => fun
  | [d1, d2, d3] => { results := [.lit (.bool false)], args := [d1, d2, d3] }
  | _ => none }
def BridgeFaultsWrongFalsely : Prop := bridgeFaultsRow.holds Try.pinned (OpenSpec.ofChange bridgeFaultsWrong)

/-- 'drawbridgelaw.DmaSays': WHATEVER THE INPUT: true; the input reads as it did. -/
def dmaSaysSpec : ChangeSpec := { name := "dmaSays", fn := fun _ => fun
  | [d1, d2, d3] => { results := [.lit (.bool true)], args := [d1, d2, d3] }
  | _ => none }
def dmaSaysRow : OpenClaim := { program := "ytbopdijnojaaiac", sum := "ed4e5b8a16d2d8a7fdec7c15125b34b863546774911b9c263f9df0ecb3be8f30", func := "drawbridge/drawbridgelaw.DmaSays", spec := "dmaSays", unfollowed := true, recurses := true, apart := false }
def DmaSaysSaid : Prop := dmaSaysRow.holds Try.pinned (OpenSpec.ofChange dmaSaysSpec)

/-- ITS FALSE NEIGHBOUR: 'it returns false'. Refute it at one input. -/
def dmaSaysWrong : ChangeSpec := { name := "dmaSays", fn := fun _ => fun
  | [d1, d2, d3] => { results := [.lit (.bool false)], args := [d1, d2, d3] }
  | _ => none }
def DmaSaysWrongFalsely : Prop := dmaSaysRow.holds Try.pinned (OpenSpec.ofChange dmaSaysWrong)

/-- 'drawbridgelaw.DmaHeld': WHATEVER THE INPUT: true; the input reads as it did. -/
def dmaHeldSpec : ChangeSpec := { name := "dmaHeld", fn := fun _ => fun
  | [d1, d2, d3] => { results := [.lit (.bool true)], args := [d1, d2, d3] }
  | _ => none }
def dmaHeldRow : OpenClaim := { program := "ytbopdijnojaaiac", sum := "ed4e5b8a16d2d8a7fdec7c15125b34b863546774911b9c263f9df0ecb3be8f30", func := "drawbridge/drawbridgelaw.DmaHeld", spec := "dmaHeld", unfollowed := true, recurses := true, apart := false }
def DmaHeldSaid : Prop := dmaHeldRow.holds Try.pinned (OpenSpec.ofChange dmaHeldSpec)

/-- ITS FALSE NEIGHBOUR: 'it returns false'. Refute it at one input. -/
def dmaHeldWrong : ChangeSpec := { name := "dmaHeld", fn := fun _ => fun
  | [d1, d2, d3] => { results := [.lit (.bool false)], args := [d1, d2, d3] }
  | _ => none }
def DmaHeldWrongFalsely : Prop := dmaHeldRow.holds Try.pinned (OpenSpec.ofChange dmaHeldWrong)

/-- 'drawbridgelaw.BridgeOrders': WHATEVER THE INPUT: true; the input reads as it did. -/
def bridgeOrdersSpec : ChangeSpec := { name := "bridgeOrders", fn := fun _ => fun
  | [d1, d2] => { results := [.lit (.bool true)], args := [d1, d2] }
  | _ => none }
def bridgeOrdersRow : OpenClaim := { program := "ytbopdijnojaaiac", sum := "ed4e5b8a16d2d8a7fdec7c15125b34b863546774911b9c263f9df0ecb3be8f30", func := "drawbridge/drawbridgelaw.BridgeOrders", spec := "bridgeOrders", unfollowed := true, recurses := true, apart := false }
def BridgeOrdersSaid : Prop := bridgeOrdersRow.holds Try.pinned (OpenSpec.ofChange bridgeOrdersSpec)

/-- ITS FALSE NEIGHBOUR: 'it returns false'. Refute it at one input. -/
def bridgeOrdersWrong : ChangeSpec := { name := "bridgeOrders", fn := fun _ => fun
  | [d1, d2] => { results := [.lit (.bool false)], args := [d1, d2] }
  | _ => none }
def BridgeOrdersWrongFalsely : Prop := bridgeOrdersRow.holds Try.pinned (OpenSpec.ofChange bridgeOrdersWrong)

/-- 'drawbridgelaw.DmaParts': WHATEVER THE INPUT: true; the input reads as it did. -/
def dmaPartsSpec : ChangeSpec := { name := "dmaParts", fn := fun _ => fun
  | [d1, d2, d3] => { results := [.lit (.bool true)], args := [d1, d2, d3] }
  | _ => none }
def dmaPartsRow : OpenClaim := { program := "ytbopdijnojaaiac", sum := "ed4e5b8a16d2d8a7fdec7c15125b34b863546774911b9c263f9df0ecb3be8f30", func := "drawbridge/drawbridgelaw.DmaParts", spec := "dmaParts", unfollowed := true, recurses := true, apart := false }
def DmaPartsSaid : Prop := dmaPartsRow.holds Try.pinned (OpenSpec.ofChange dmaPartsSpec)

/-- ITS FALSE NEIGHBOUR: 'it returns false'. Refute it at one input. -/
def dmaPartsWrong : ChangeSpec := { name := "dmaParts", fn := fun _ => fun
  | [d1, d2, d3] => { results := [.lit (.bool false)], args := [d1, d2, d3] }
  | _ => none }
def DmaPartsWrongFalsely : Prop := dmaPartsRow.holds Try.pinned (OpenSpec.ofChange dmaPartsWrong)

/-- 'drawbridgelaw.DmaBack': WHATEVER THE INPUT: true; the input reads as it did. -/
def dmaBackSpec : ChangeSpec := { name := "dmaBack", fn := fun _ => fun
  | [d1, d2, d3] => { results := [.lit (.bool true)], args := [d1, d2, d3] }
  | _ => none }
def dmaBackRow : OpenClaim := { program := "ytbopdijnojaaiac", sum := "ed4e5b8a16d2d8a7fdec7c15125b34b863546774911b9c263f9df0ecb3be8f30", func := "drawbridge/drawbridgelaw.DmaBack", spec := "dmaBack", unfollowed := true, recurses := true, apart := false }
def DmaBackSaid : Prop := dmaBackRow.holds Try.pinned (OpenSpec.ofChange dmaBackSpec)

/-- ITS FALSE NEIGHBOUR: 'it returns false'. Refute it at one input. -/
def dmaBackWrong : ChangeSpec := { name := "dmaBack", fn := fun _ => fun
  | [d1, d2, d3] => { results := [.lit (.bool false)], args := [d1, d2, d3] }
  | _ => none }
def DmaBackWrongFalsely : Prop := dmaBackRow.holds Try.pinned (OpenSpec.ofChange dmaBackWrong)

/-- 'drawbridgelaw.BridgeTells': WHATEVER THE INPUT: true; the input reads as it did. -/
def bridgeTellsSpec : ChangeSpec := { name := "bridgeTells", fn := fun _ => fun
  | [d1, d2, d3] => { results := [.lit (.bool true)], args := [d1, d2, d3] }
  | _ => none }
def bridgeTellsRow : OpenClaim := { program := "ytbopdijnojaaiac", sum := "ed4e5b8a16d2d8a7fdec7c15125b34b863546774911b9c263f9df0ecb3be8f30", func := "drawbridge/drawbridgelaw.BridgeTells", spec := "bridgeTells", unfollowed := true, recurses := true, apart := false }
def BridgeTellsSaid : Prop := bridgeTellsRow.holds Try.pinned (OpenSpec.ofChange bridgeTellsSpec)

/-- ITS FALSE NEIGHBOUR: 'it returns false'. Refute it at one input. -/
def bridgeTellsWrong : ChangeSpec := { name := "bridgeTells", fn := fun _ => fun
  | [d1, d2, d3] => { results := [.lit (.bool false)], args := [d1, d2, d3] }
  | _ => none }
def BridgeTellsWrongFalsely : Prop := bridgeTellsRow.holds Try.pinned (OpenSpec.ofChange bridgeTellsWrong)

/-- 'drawbridgelaw.MachineShut': WHATEVER THE INPUT: true; the input reads as it did. -/
def machineShutSpec : ChangeSpec := { name := "machineShut", fn := fun _ => fun
  | [d1, d2] => { results := [.lit (.bool true)], args := [d1, d2] }
  | _ => none }
def machineShutRow : OpenClaim := { program := "ytbopdijnojaaiac", sum := "ed4e5b8a16d2d8a7fdec7c15125b34b863546774911b9c263f9df0ecb3be8f30", func := "drawbridge/drawbridgelaw.MachineShut", spec := "machineShut", unfollowed := true, recurses := true, apart := false }
def MachineShutSaid : Prop := machineShutRow.holds Try.pinned (OpenSpec.ofChange machineShutSpec)

/-- ITS FALSE NEIGHBOUR: 'it returns false'. Refute it at one input. -/
def machineShutWrong : ChangeSpec := { name := "machineShut", fn := fun _ => fun
  | [d1, d2] => { results := [.lit (.bool false)], args := [d1, d2] }
  | _ => none }
def MachineShutWrongFalsely : Prop := machineShutRow.holds Try.pinned (OpenSpec.ofChange machineShutWrong)

/-- 'drawbridgelaw.MachineHeld': WHATEVER THE INPUT: true; the input reads as it did. -/
def machineHeldSpec : ChangeSpec := { name := "machineHeld", fn := fun _ => fun
  | [d1, d2] => { results := [.lit (.bool true)], args := [d1, d2] }
  | _ => none }
def machineHeldRow : OpenClaim := { program := "ytbopdijnojaaiac", sum := "ed4e5b8a16d2d8a7fdec7c15125b34b863546774911b9c263f9df0ecb3be8f30", func := "drawbridge/drawbridgelaw.MachineHeld", spec := "machineHeld", unfollowed := true, recurses := true, apart := false }
def MachineHeldSaid : Prop := machineHeldRow.holds Try.pinned (OpenSpec.ofChange machineHeldSpec)

/-- ITS FALSE NEIGHBOUR: 'it returns false'. Refute it at one input. -/
def machineHeldWrong : ChangeSpec := { name := "machineHeld", fn := fun _ => fun
  | [d1, d2] => { results := [.lit (.bool false)], args := [d1, d2] }
  | _ => none }
def MachineHeldWrongFalsely : Prop := machineHeldRow.holds Try.pinned (OpenSpec.ofChange machineHeldWrong)

/-- 'drawbridgelaw.MachinePlain': WHATEVER THE INPUT: true; the input reads as it did. -/
def machinePlainSpec : ChangeSpec := { name := "machinePlain", fn := fun _ => fun
  | [d1, d2] => { results := [.lit (.bool true)], args := [d1, d2] }
  | _ => none }
def machinePlainRow : OpenClaim := { program := "ytbopdijnojaaiac", sum := "ed4e5b8a16d2d8a7fdec7c15125b34b863546774911b9c263f9df0ecb3be8f30", func := "drawbridge/drawbridgelaw.MachinePlain", spec := "machinePlain", unfollowed := true, recurses := true, apart := false }
def MachinePlainSaid : Prop := machinePlainRow.holds Try.pinned (OpenSpec.ofChange machinePlainSpec)

/-- ITS FALSE NEIGHBOUR: 'it returns false'. Refute it at one input. -/
def machinePlainWrong : ChangeSpec := { name := "machinePlain", fn := fun _ => fun
  | [d1, d2] => { results := [.lit (.bool false)], args := [d1, d2] }
  | _ => none }
def MachinePlainWrongFalsely : Prop := machinePlainRow.holds Try.pinned (OpenSpec.ofChange machinePlainWrong)

/- THE SECOND FORM. 'bulk': how many values and letters a reading holds, each counted each time it is reached (what is shared counts as often as it is met; a slice's spare places count too). A statement '..UptoSaid' is the law's where the arguments, and the package variables that the reading takes, are together of bulk at most 1048576: NARROWER than '..Said'. Prove '..Said' where nothing that the law and all that it calls make is longer than what came in: it says more and counts as full. Else prove '..UptoSaid'. A law counts once. -/
mutual
def uptoBulk {H : Type} : DataW H → Nat
  | .lit (.string bytes) => bytes.length + 1
  | .lit _ => 1
  | .nil => 1
  | .ptr d => uptoBulk d + 1
  | .slice elems spare => uptoBulkAll elems + uptoBulkAll spare + 1
  | .agg parts => uptoBulkAll parts + 1
  | .iface _ d => uptoBulk d + 1
  | .map entries => uptoBulkEntries entries + 1
  | .held _ => 1
def uptoBulkAll {H : Type} : List (DataW H) → Nat
  | [] => 0
  | d :: r => uptoBulk d + uptoBulkAll r
def uptoBulkEntries {H : Type} : List (Lit × DataW H) → Nat
  | [] => 0
  | x :: r => uptoBulkEntry x + uptoBulkEntries r
def uptoBulkEntry {H : Type} : Lit × DataW H → Nat
  | (.string bytes, d) => bytes.length + uptoBulk d + 1
  | (_, d) => uptoBulk d + 1
 end
def uptoSmall : (H : Type) → List (DataW H) → Bool := fun _ ds => decide (uptoBulkAll ds ≤ 1048576)
def OpenSpec.upto (s : _root_.Go.ChangeSpec) : _root_.Go.OpenSpec := { _root_.Go.OpenSpec.ofChange s with cond := some uptoSmall }

/-- 'drawbridgelaw.AuditSays', WHERE WHAT IT READS IS OF BULK AT MOST 1048576: true; the input reads as it did. -/
def auditSaysUptoRow : OpenClaim := { program := "ytbopdijnojaaiac", sum := "ed4e5b8a16d2d8a7fdec7c15125b34b863546774911b9c263f9df0ecb3be8f30", func := "drawbridge/drawbridgelaw.AuditSays", spec := "auditSays", unfollowed := true, recurses := true, apart := false, narrowed := true }
def AuditSaysUptoSaid : Prop := auditSaysUptoRow.holds Try.pinned (OpenSpec.upto auditSaysSpec)

/-- 'drawbridgelaw.AuditMore', WHERE WHAT IT READS IS OF BULK AT MOST 1048576: true; the input reads as it did. -/
def auditMoreUptoRow : OpenClaim := { program := "ytbopdijnojaaiac", sum := "ed4e5b8a16d2d8a7fdec7c15125b34b863546774911b9c263f9df0ecb3be8f30", func := "drawbridge/drawbridgelaw.AuditMore", spec := "auditMore", unfollowed := true, recurses := true, apart := false, narrowed := true }
def AuditMoreUptoSaid : Prop := auditMoreUptoRow.holds Try.pinned (OpenSpec.upto auditMoreSpec)

/-- 'drawbridgelaw.BridgeFaults', WHERE WHAT IT READS IS OF BULK AT MOST 1048576: true; the input reads as it did. -/
def bridgeFaultsUptoRow : OpenClaim := { program := "ytbopdijnojaaiac", sum := "ed4e5b8a16d2d8a7fdec7c15125b34b863546774911b9c263f9df0ecb3be8f30", func := "drawbridge/drawbridgelaw.BridgeFaults", spec := "bridgeFaults", unfollowed := true, recurses := true, apart := false, narrowed := true }
def BridgeFaultsUptoSaid : Prop := bridgeFaultsUptoRow.holds Try.pinned (OpenSpec.upto bridgeFaultsSpec)

/-- 'drawbridgelaw.DmaSays', WHERE WHAT IT READS IS OF BULK AT MOST 1048576: true; the input reads as it did. -/
def dmaSaysUptoRow : OpenClaim := { program := "ytbopdijnojaaiac", sum := "ed4e5b8a16d2d8a7fdec7c15125b34b863546774911b9c263f9df0ecb3be8f30", func := "drawbridge/drawbridgelaw.DmaSays", spec := "dmaSays", unfollowed := true, recurses := true, apart := false, narrowed := true }
def DmaSaysUptoSaid : Prop := dmaSaysUptoRow.holds Try.pinned (OpenSpec.upto dmaSaysSpec)

/-- 'drawbridgelaw.DmaHeld', WHERE WHAT IT READS IS OF BULK AT MOST 1048576: true; the input reads as it did. -/
def dmaHeldUptoRow : OpenClaim := { program := "ytbopdijnojaaiac", sum := "ed4e5b8a16d2d8a7fdec7c15125b34b863546774911b9c263f9df0ecb3be8f30", func := "drawbridge/drawbridgelaw.DmaHeld", spec := "dmaHeld", unfollowed := true, recurses := true, apart := false, narrowed := true }
def DmaHeldUptoSaid : Prop := dmaHeldUptoRow.holds Try.pinned (OpenSpec.upto dmaHeldSpec)

/-- 'drawbridgelaw.BridgeOrders', WHERE WHAT IT READS IS OF BULK AT MOST 1048576: true; the input reads as it did. -/
def bridgeOrdersUptoRow : OpenClaim := { program := "ytbopdijnojaaiac", sum := "ed4e5b8a16d2d8a7fdec7c15125b34b863546774911b9c263f9df0ecb3be8f30", func := "drawbridge/drawbridgelaw.BridgeOrders", spec := "bridgeOrders", unfollowed := true, recurses := true, apart := false, narrowed := true }
def BridgeOrdersUptoSaid : Prop := bridgeOrdersUptoRow.holds Try.pinned (OpenSpec.upto bridgeOrdersSpec)

/-- 'drawbridgelaw.DmaParts', WHERE WHAT IT READS IS OF BULK AT MOST 1048576: true; the input reads as it did. -/
def dmaPartsUptoRow : OpenClaim := { program := "ytbopdijnojaaiac", sum := "ed4e5b8a16d2d8a7fdec7c15125b34b863546774911b9c263f9df0ecb3be8f30", func := "drawbridge/drawbridgelaw.DmaParts", spec := "dmaParts", unfollowed := true, recurses := true, apart := false, narrowed := true }
def DmaPartsUptoSaid : Prop := dmaPartsUptoRow.holds Try.pinned (OpenSpec.upto dmaPartsSpec)

/-- 'drawbridgelaw.DmaBack', WHERE WHAT IT READS IS OF BULK AT MOST 1048576: true; the input reads as it did. -/
def dmaBackUptoRow : OpenClaim := { program := "ytbopdijnojaaiac", sum := "ed4e5b8a16d2d8a7fdec7c15125b34b863546774911b9c263f9df0ecb3be8f30", func := "drawbridge/drawbridgelaw.DmaBack", spec := "dmaBack", unfollowed := true, recurses := true, apart := false, narrowed := true }
def DmaBackUptoSaid : Prop := dmaBackUptoRow.holds Try.pinned (OpenSpec.upto dmaBackSpec)

/-- 'drawbridgelaw.BridgeTells', WHERE WHAT IT READS IS OF BULK AT MOST 1048576: true; the input reads as it did. -/
def bridgeTellsUptoRow : OpenClaim := { program := "ytbopdijnojaaiac", sum := "ed4e5b8a16d2d8a7fdec7c15125b34b863546774911b9c263f9df0ecb3be8f30", func := "drawbridge/drawbridgelaw.BridgeTells", spec := "bridgeTells", unfollowed := true, recurses := true, apart := false, narrowed := true }
def BridgeTellsUptoSaid : Prop := bridgeTellsUptoRow.holds Try.pinned (OpenSpec.upto bridgeTellsSpec)

/-- 'drawbridgelaw.MachineShut', WHERE WHAT IT READS IS OF BULK AT MOST 1048576: true; the input reads as it did. -/
def machineShutUptoRow : OpenClaim := { program := "ytbopdijnojaaiac", sum := "ed4e5b8a16d2d8a7fdec7c15125b34b863546774911b9c263f9df0ecb3be8f30", func := "drawbridge/drawbridgelaw.MachineShut", spec := "machineShut", unfollowed := true, recurses := true, apart := false, narrowed := true }
def MachineShutUptoSaid : Prop := machineShutUptoRow.holds Try.pinned (OpenSpec.upto machineShutSpec)

/-- 'drawbridgelaw.MachineHeld', WHERE WHAT IT READS IS OF BULK AT MOST 1048576: true; the input reads as it did. -/
def machineHeldUptoRow : OpenClaim := { program := "ytbopdijnojaaiac", sum := "ed4e5b8a16d2d8a7fdec7c15125b34b863546774911b9c263f9df0ecb3be8f30", func := "drawbridge/drawbridgelaw.MachineHeld", spec := "machineHeld", unfollowed := true, recurses := true, apart := false, narrowed := true }
def MachineHeldUptoSaid : Prop := machineHeldUptoRow.holds Try.pinned (OpenSpec.upto machineHeldSpec)

/-- 'drawbridgelaw.MachinePlain', WHERE WHAT IT READS IS OF BULK AT MOST 1048576: true; the input reads as it did. -/
def machinePlainUptoRow : OpenClaim := { program := "ytbopdijnojaaiac", sum := "ed4e5b8a16d2d8a7fdec7c15125b34b863546774911b9c263f9df0ecb3be8f30", func := "drawbridge/drawbridgelaw.MachinePlain", spec := "machinePlain", unfollowed := true, recurses := true, apart := false, narrowed := true }
def MachinePlainUptoSaid : Prop := machinePlainUptoRow.holds Try.pinned (OpenSpec.upto machinePlainSpec)

end Rows
end Go.Proofs.Ytbopdijnojaaiac
