/-
  No cell of these rows narrows 'for every input' (looked for: loops, veiled, ifaces, maps, wideKeys, modest, calm, conditions, laid).
  DERIVED. THE GIVEN ROWS OF THIS SEAT. 12 by the template 'for every input the law returns true; each argument reads behind the call as it read before'; 0 by the template 'total and deterministic' (their statements: YtbopdijnojaaiabTotals.lean).
  GIVEN WITH THE SEED: the statements are not yours to turn. If you find one false, say at which input.
  Laid BY PROGRAM, IN A SANDBOX (cutbox-rows.mjs): the forced cells as the released guide's own fill.sh prints them over the translation 8a938c57e139eaa8… (all of the seat's roots in one cut). By AI agents, Wed Nov 11 2026. No macro, syntax, notation, axiom, sorry.
-/
import Derived.Test.YtbopdijnojaaiabChecked
import GoSem.Claim
import GoSem.ClaimJoined
import GoSem.ClaimMapViews
import Derived.JoinedTies
import Derived.KernelRfl
namespace Go.Proofs.Ytbopdijnojaaiab
/- THE CELL 'sum', in the pinned program and in every row, IS THE sha256 OF THE DUMP (.gsa) THAT YtbopdijnojaaiabProg.lean LOADS. Nothing in Lean hashes anything: it is a label: what it is worth is what the hold of that sum in a sandbox is worth. -/
noncomputable def Try.pinned : Pinned := { name := "ytbopdijnojaaiab", sum := "8a938c57e139eaa88a9708a721928b792edc258bef2137635f57097ab46a716a", checked := Try.checked }
namespace Rows
def none {H : Type} : Left H := { results := [], args := [] }

/-- 'drawbridgelaw.RingOrder': WHATEVER THE INPUT: true; the input reads as it did. -/
def ringOrderSpec : ChangeSpec := { name := "ringOrder", fn := fun _ => fun
  | [d1, d2, d3] => { results := [.lit (.bool true)], args := [d1, d2, d3] }
  | _ => none }
def ringOrderRow : OpenClaim := { program := "ytbopdijnojaaiab", sum := "8a938c57e139eaa88a9708a721928b792edc258bef2137635f57097ab46a716a", func := "drawbridge/drawbridgelaw.RingOrder", spec := "ringOrder", apart := false }
def RingOrderSaid : Prop := ringOrderRow.holds Try.pinned (OpenSpec.ofChange ringOrderSpec)

/-- ITS FALSE NEIGHBOUR: 'it returns false'. Refute it at one input. -/
def ringOrderWrong : ChangeSpec := { name := "ringOrder", fn := fun _ => fun
  | [d1, d2, d3] => { results := [.lit (.bool false)], args := [d1, d2, d3] }
  | _ => none }
def RingOrderWrongFalsely : Prop := ringOrderRow.holds Try.pinned (OpenSpec.ofChange ringOrderWrong)

/-- 'drawbridgelaw.RingSays': WHATEVER THE INPUT: true; the input reads as it did. -/
def ringSaysSpec : ChangeSpec := { name := "ringSays", fn := fun _ => fun
  | [d1, d2, d3] => { results := [.lit (.bool true)], args := [d1, d2, d3] }
  | _ => none }
def ringSaysRow : OpenClaim := { program := "ytbopdijnojaaiab", sum := "8a938c57e139eaa88a9708a721928b792edc258bef2137635f57097ab46a716a", func := "drawbridge/drawbridgelaw.RingSays", spec := "ringSays", apart := false }
def RingSaysSaid : Prop := ringSaysRow.holds Try.pinned (OpenSpec.ofChange ringSaysSpec)

/-- ITS FALSE NEIGHBOUR: 'it returns false'. Refute it at one input. -/
def ringSaysWrong : ChangeSpec := { name := "ringSays", fn := fun _ => fun
  | [d1, d2, d3] => { results := [.lit (.bool false)], args := [d1, d2, d3] }
  | _ => none }
def RingSaysWrongFalsely : Prop := ringSaysRow.holds Try.pinned (OpenSpec.ofChange ringSaysWrong)

/-- 'drawbridgelaw.CacheSays': WHATEVER THE INPUT: true; the input reads as it did. -/
def cacheSaysSpec : ChangeSpec := { name := "cacheSays", fn := fun _ => fun
  | [d1, d2, d3, d4, d5] => { results := [.lit (.bool true)], args := [d1, d2, d3, d4, d5] }
  | _ => none }
def cacheSaysRow : OpenClaim := { program := "ytbopdijnojaaiab", sum := "8a938c57e139eaa88a9708a721928b792edc258bef2137635f57097ab46a716a", func := "drawbridge/drawbridgelaw.CacheSays", spec := "cacheSays", unfollowed := true, recurses := true, apart := false }
def CacheSaysSaid : Prop := cacheSaysRow.holds Try.pinned (OpenSpec.ofChange cacheSaysSpec)

/-- ITS FALSE NEIGHBOUR: 'it returns false'. Refute it at one input. -/
def cacheSaysWrong : ChangeSpec := { name := "cacheSays", fn := fun _ => fun
  | [d1, d2, d3, d4, d5] => { results := [.lit (.bool false)], args := [d1, d2, d3, d4, d5] }
  | _ => none }
def CacheSaysWrongFalsely : Prop := cacheSaysRow.holds Try.pinned (OpenSpec.ofChange cacheSaysWrong)

/-- 'drawbridgelaw.MachineParts': WHATEVER THE INPUT: true; the input reads as it did. -/
def machinePartsSpec : ChangeSpec := { name := "machineParts", fn := fun _ => fun
  | [d1, d2, d3] => { results := [.lit (.bool true)], args := [d1, d2, d3] }
  | _ => none }
def machinePartsRow : OpenClaim := { program := "ytbopdijnojaaiab", sum := "8a938c57e139eaa88a9708a721928b792edc258bef2137635f57097ab46a716a", func := "drawbridge/drawbridgelaw.MachineParts", spec := "machineParts", unfollowed := true, recurses := true, apart := false }
def MachinePartsSaid : Prop := machinePartsRow.holds Try.pinned (OpenSpec.ofChange machinePartsSpec)

/-- ITS FALSE NEIGHBOUR: 'it returns false'. Refute it at one input. -/
def machinePartsWrong : ChangeSpec := { name := "machineParts", fn := fun _ => fun
  | [d1, d2, d3] => { results := [.lit (.bool false)], args := [d1, d2, d3] }
  | _ => none }
def MachinePartsWrongFalsely : Prop := machinePartsRow.holds Try.pinned (OpenSpec.ofChange machinePartsWrong)

/-- 'drawbridgelaw.CacheKeeps': WHATEVER THE INPUT: true; the input reads as it did. -/
def cacheKeepsSpec : ChangeSpec := { name := "cacheKeeps", fn := fun _ => fun
  | [d1, d2, d3] => { results := [.lit (.bool true)], args := [d1, d2, d3] }
  | _ => none }
def cacheKeepsRow : OpenClaim := { program := "ytbopdijnojaaiab", sum := "8a938c57e139eaa88a9708a721928b792edc258bef2137635f57097ab46a716a", func := "drawbridge/drawbridgelaw.CacheKeeps", spec := "cacheKeeps", unfollowed := true, recurses := true, apart := false }
def CacheKeepsSaid : Prop := cacheKeepsRow.holds Try.pinned (OpenSpec.ofChange cacheKeepsSpec)

/-- ITS FALSE NEIGHBOUR: 'it returns false'. Refute it at one input. -/
def cacheKeepsWrong : ChangeSpec := { name := "cacheKeeps", fn := fun _ => fun
  | [d1, d2, d3] => { results := [.lit (.bool false)], args := [d1, d2, d3] }
  | _ => none }
def CacheKeepsWrongFalsely : Prop := cacheKeepsRow.holds Try.pinned (OpenSpec.ofChange cacheKeepsWrong)

/-- 'drawbridgelaw.WalkTwo': WHATEVER THE INPUT: true; the input reads as it did. -/
def walkTwoSpec : ChangeSpec := { name := "walkTwo", fn := fun _ => fun
  | [d1, d2, d3, d4, d5, d6] => { results := [.lit (.bool true)], args := [d1, d2, d3, d4, d5, d6] }
  | _ => none }
def walkTwoRow : OpenClaim := { program := "ytbopdijnojaaiab", sum := "8a938c57e139eaa88a9708a721928b792edc258bef2137635f57097ab46a716a", func := "drawbridge/drawbridgelaw.WalkTwo", spec := "walkTwo", apart := false }
def WalkTwoSaid : Prop := walkTwoRow.holds Try.pinned (OpenSpec.ofChange walkTwoSpec)

/-- ITS FALSE NEIGHBOUR: 'it returns false'. Refute it at one input. -/
def walkTwoWrong : ChangeSpec := { name := "walkTwo", fn := fun _ => fun
  | [d1, d2, d3, d4, d5, d6] => { results := [.lit (.bool false)], args := [d1, d2, d3, d4, d5, d6] }
  | _ => none }
def WalkTwoWrongFalsely : Prop := walkTwoRow.holds Try.pinned (OpenSpec.ofChange walkTwoWrong)

/-- 'drawbridgelaw.HartStands': WHATEVER THE INPUT: true; the input reads as it did. -/
def hartStandsSpec : ChangeSpec := { name := "hartStands", fn := fun _ => fun
  | [d1, d2, d3] => { results := [.lit (.bool true)], args := [d1, d2, d3] }
  | _ => none }
def hartStandsRow : OpenClaim := { program := "ytbopdijnojaaiab", sum := "8a938c57e139eaa88a9708a721928b792edc258bef2137635f57097ab46a716a", func := "drawbridge/drawbridgelaw.HartStands", spec := "hartStands", unfollowed := true, recurses := true, apart := false }
def HartStandsSaid : Prop := hartStandsRow.holds Try.pinned (OpenSpec.ofChange hartStandsSpec)

/-- ITS FALSE NEIGHBOUR: 'it returns false'. Refute it at one input. -/
def hartStandsWrong : ChangeSpec := { name := "hartStands", fn := fun _ => fun
  | [d1, d2, d3] => { results := [.lit (.bool false)], args := [d1, d2, d3] }
  | _ => none }
def HartStandsWrongFalsely : Prop := hartStandsRow.holds Try.pinned (OpenSpec.ofChange hartStandsWrong)

/-- 'drawbridgelaw.BridgeSays': WHATEVER THE INPUT: true; the input reads as it did. -/
def bridgeSaysSpec : ChangeSpec := { name := "bridgeSays", fn := fun _ => fun
  | [d1, d2, d3, d4, d5, d6] => { results := [.lit (.bool true)], args := [d1, d2, d3, d4, d5, d6] }
  | _ => none }
def bridgeSaysRow : OpenClaim := { program := "ytbopdijnojaaiab", sum := "8a938c57e139eaa88a9708a721928b792edc258bef2137635f57097ab46a716a", func := "drawbridge/drawbridgelaw.BridgeSays", spec := "bridgeSays", unfollowed := true, recurses := true, apart := false }
def BridgeSaysSaid : Prop := bridgeSaysRow.holds Try.pinned (OpenSpec.ofChange bridgeSaysSpec)

/-- ITS FALSE NEIGHBOUR: 'it returns false'. Refute it at one input. -/
def bridgeSaysWrong : ChangeSpec := { name := "bridgeSays", fn := fun _ => fun
  | [d1, d2, d3, d4, d5, d6] => { results := [.lit (.bool false)], args := [d1, d2, d3, d4, d5, d6] }
  | _ => none }
def BridgeSaysWrongFalsely : Prop := bridgeSaysRow.holds Try.pinned (OpenSpec.ofChange bridgeSaysWrong)

/-- 'drawbridgelaw.BridgeShut': WHATEVER THE INPUT: true; the input reads as it did. -/
def bridgeShutSpec : ChangeSpec := { name := "bridgeShut", fn := fun _ => fun
  | [d1, d2, d3, d4, d5] => { results := [.lit (.bool true)], args := [d1, d2, d3, d4, d5] }
  | _ => none }
def bridgeShutRow : OpenClaim := { program := "ytbopdijnojaaiab", sum := "8a938c57e139eaa88a9708a721928b792edc258bef2137635f57097ab46a716a", func := "drawbridge/drawbridgelaw.BridgeShut", spec := "bridgeShut", unfollowed := true, recurses := true, apart := false }
def BridgeShutSaid : Prop := bridgeShutRow.holds Try.pinned (OpenSpec.ofChange bridgeShutSpec)

/-- ITS FALSE NEIGHBOUR: 'it returns false'. Refute it at one input. -/
def bridgeShutWrong : ChangeSpec := { name := "bridgeShut", fn := fun _ => fun
  | [d1, d2, d3, d4, d5] => { results := [.lit (.bool false)], args := [d1, d2, d3, d4, d5] }
  | _ => none }
def BridgeShutWrongFalsely : Prop := bridgeShutRow.holds Try.pinned (OpenSpec.ofChange bridgeShutWrong)

/-- 'drawbridgelaw.HartSays': WHATEVER THE INPUT: true; the input reads as it did. -/
def hartSaysSpec : ChangeSpec := { name := "hartSays", fn := fun _ => fun
  | [d1, d2, d3, d4, d5] => { results := [.lit (.bool true)], args := [d1, d2, d3, d4, d5] }
  | _ => none }
def hartSaysRow : OpenClaim := { program := "ytbopdijnojaaiab", sum := "8a938c57e139eaa88a9708a721928b792edc258bef2137635f57097ab46a716a", func := "drawbridge/drawbridgelaw.HartSays", spec := "hartSays", unfollowed := true, recurses := true, apart := false }
def HartSaysSaid : Prop := hartSaysRow.holds Try.pinned (OpenSpec.ofChange hartSaysSpec)

/-- ITS FALSE NEIGHBOUR: 'it returns false'. Refute it at one input. -/
def hartSaysWrong : ChangeSpec := { name := "hartSays", fn := fun _ => fun
  | [d1, d2, d3, d4, d5] => { results := [.lit (.bool false)], args := [d1, d2, d3, d4, d5] }
  | _ => none }
def HartSaysWrongFalsely : Prop := hartSaysRow.holds Try.pinned (OpenSpec.ofChange hartSaysWrong)

/-- 'drawbridgelaw.HartKeeps': WHATEVER THE INPUT: true; the input reads as it did. -/
def hartKeepsSpec : ChangeSpec := { name := "hartKeeps", fn := fun _ => fun
  | [d1, d2, d3] => { results := [.lit (.bool true)], args := [d1, d2, d3] }
  | _ => none }
def hartKeepsRow : OpenClaim := { program := "ytbopdijnojaaiab", sum := "8a938c57e139eaa88a9708a721928b792edc258bef2137635f57097ab46a716a", func := "drawbridge/drawbridgelaw.HartKeeps", spec := "hartKeeps", unfollowed := true, recurses := true, apart := false }
def HartKeepsSaid : Prop := hartKeepsRow.holds Try.pinned (OpenSpec.ofChange hartKeepsSpec)

/-- ITS FALSE NEIGHBOUR: 'it returns false'. Refute it at one input. -/
def hartKeepsWrong : ChangeSpec := { name := "hartKeeps", fn := fun _ => fun
  | [d1, d2, d3] => { results := [.lit (.bool false)], args := [d1, d2, d3] }
  | _ => none }
def HartKeepsWrongFalsely : Prop := hartKeepsRow.holds Try.pinned (OpenSpec.ofChange hartKeepsWrong)

/-- 'drawbridgelaw.BridgeRemembers': WHATEVER THE INPUT: true; the input reads as it did. -/
def bridgeRemembersSpec : ChangeSpec := { name := "bridgeRemembers", fn := fun _ => fun
  | [d1, d2, d3, d4, d5, d6] => { results := [.lit (.bool true)], args := [d1, d2, d3, d4, d5, d6] }
  | _ => none }
def bridgeRemembersRow : OpenClaim := { program := "ytbopdijnojaaiab", sum := "8a938c57e139eaa88a9708a721928b792edc258bef2137635f57097ab46a716a", func := "drawbridge/drawbridgelaw.BridgeRemembers", spec := "bridgeRemembers", unfollowed := true, recurses := true, apart := false }
def BridgeRemembersSaid : Prop := bridgeRemembersRow.holds Try.pinned (OpenSpec.ofChange bridgeRemembersSpec)

/-- ITS FALSE NEIGHBOUR: 'it returns false'. Refute it at one input. -/
def bridgeRemembersWrong : ChangeSpec := { name := "bridgeRemembers", fn := fun _ => fun
  | [d1, d2, d3, d4, d5, d6] => { results := [.lit (.bool false)], args := [d1, d2, d3, d4, d5, d6] }
  | _ => none }
def BridgeRemembersWrongFalsely : Prop := bridgeRemembersRow.holds Try.pinned (OpenSpec.ofChange bridgeRemembersWrong)

/- THE SECOND FORM. 'bulk': how many values and letters a reading holds, each counted each time it is reached (what is shared counts as often as it is met; a slice's spare places count too). A statement '..UptoSaid' is the law's where the arguments, and the package variables that the reading takes, are together of bulk at most 1048576: NARROWER than '..Said'. Prove '..Said' where nothing that the law and all that it calls make is longer than what came in: it says more and counts as full. Else prove '..UptoSaid'. A law counts once. -/
mutual
def uptoBulk {H : Type} : DataW H → Nat
  | .lit (.string bytes) => bytes.length + 1
  | .lit _ => 1
  | .nil => 1
  | .ptr d => uptoBulk d + 1
  | .slice elems spare => uptoBulkAll elems + uptoBulkAll spare + 1
  | .agg parts => uptoBulkAll parts + 1
  | .iface _ d => uptoBulk d + 1
  | .map entries => uptoBulkEntries entries + 1
  | .held _ => 1
def uptoBulkAll {H : Type} : List (DataW H) → Nat
  | [] => 0
  | d :: r => uptoBulk d + uptoBulkAll r
def uptoBulkEntries {H : Type} : List (Lit × DataW H) → Nat
  | [] => 0
  | x :: r => uptoBulkEntry x + uptoBulkEntries r
def uptoBulkEntry {H : Type} : Lit × DataW H → Nat
  | (.string bytes, d) => bytes.length + uptoBulk d + 1
  | (_, d) => uptoBulk d + 1
 end
def uptoSmall : (H : Type) → List (DataW H) → Bool := fun _ ds => decide (uptoBulkAll ds ≤ 1048576)
def OpenSpec.upto (s : _root_.Go.ChangeSpec) : _root_.Go.OpenSpec := { _root_.Go.OpenSpec.ofChange s with cond := some uptoSmall }

/-- 'drawbridgelaw.RingOrder', WHERE WHAT IT READS IS OF BULK AT MOST 1048576: true; the input reads as it did. -/
def ringOrderUptoRow : OpenClaim := { program := "ytbopdijnojaaiab", sum := "8a938c57e139eaa88a9708a721928b792edc258bef2137635f57097ab46a716a", func := "drawbridge/drawbridgelaw.RingOrder", spec := "ringOrder", apart := false, narrowed := true }
def RingOrderUptoSaid : Prop := ringOrderUptoRow.holds Try.pinned (OpenSpec.upto ringOrderSpec)

/-- 'drawbridgelaw.RingSays', WHERE WHAT IT READS IS OF BULK AT MOST 1048576: true; the input reads as it did. -/
def ringSaysUptoRow : OpenClaim := { program := "ytbopdijnojaaiab", sum := "8a938c57e139eaa88a9708a721928b792edc258bef2137635f57097ab46a716a", func := "drawbridge/drawbridgelaw.RingSays", spec := "ringSays", apart := false, narrowed := true }
def RingSaysUptoSaid : Prop := ringSaysUptoRow.holds Try.pinned (OpenSpec.upto ringSaysSpec)

/-- 'drawbridgelaw.CacheSays', WHERE WHAT IT READS IS OF BULK AT MOST 1048576: true; the input reads as it did. -/
def cacheSaysUptoRow : OpenClaim := { program := "ytbopdijnojaaiab", sum := "8a938c57e139eaa88a9708a721928b792edc258bef2137635f57097ab46a716a", func := "drawbridge/drawbridgelaw.CacheSays", spec := "cacheSays", unfollowed := true, recurses := true, apart := false, narrowed := true }
def CacheSaysUptoSaid : Prop := cacheSaysUptoRow.holds Try.pinned (OpenSpec.upto cacheSaysSpec)

/-- 'drawbridgelaw.MachineParts', WHERE WHAT IT READS IS OF BULK AT MOST 1048576: true; the input reads as it did. -/
def machinePartsUptoRow : OpenClaim := { program := "ytbopdijnojaaiab", sum := "8a938c57e139eaa88a9708a721928b792edc258bef2137635f57097ab46a716a", func := "drawbridge/drawbridgelaw.MachineParts", spec := "machineParts", unfollowed := true, recurses := true, apart := false, narrowed := true }
def MachinePartsUptoSaid : Prop := machinePartsUptoRow.holds Try.pinned (OpenSpec.upto machinePartsSpec)

/-- 'drawbridgelaw.CacheKeeps', WHERE WHAT IT READS IS OF BULK AT MOST 1048576: true; the input reads as it did. -/
def cacheKeepsUptoRow : OpenClaim := { program := "ytbopdijnojaaiab", sum := "8a938c57e139eaa88a9708a721928b792edc258bef2137635f57097ab46a716a", func := "drawbridge/drawbridgelaw.CacheKeeps", spec := "cacheKeeps", unfollowed := true, recurses := true, apart := false, narrowed := true }
def CacheKeepsUptoSaid : Prop := cacheKeepsUptoRow.holds Try.pinned (OpenSpec.upto cacheKeepsSpec)

/-- 'drawbridgelaw.WalkTwo', WHERE WHAT IT READS IS OF BULK AT MOST 1048576: true; the input reads as it did. -/
def walkTwoUptoRow : OpenClaim := { program := "ytbopdijnojaaiab", sum := "8a938c57e139eaa88a9708a721928b792edc258bef2137635f57097ab46a716a", func := "drawbridge/drawbridgelaw.WalkTwo", spec := "walkTwo", apart := false, narrowed := true }
def WalkTwoUptoSaid : Prop := walkTwoUptoRow.holds Try.pinned (OpenSpec.upto walkTwoSpec)

/-- 'drawbridgelaw.HartStands', WHERE WHAT IT READS IS OF BULK AT MOST 1048576: true; the input reads as it did. -/
def hartStandsUptoRow : OpenClaim := { program := "ytbopdijnojaaiab", sum := "8a938c57e139eaa88a9708a721928b792edc258bef2137635f57097ab46a716a", func := "drawbridge/drawbridgelaw.HartStands", spec := "hartStands", unfollowed := true, recurses := true, apart := false, narrowed := true }
def HartStandsUptoSaid : Prop := hartStandsUptoRow.holds Try.pinned (OpenSpec.upto hartStandsSpec)

/-- 'drawbridgelaw.BridgeSays', WHERE WHAT IT READS IS OF BULK AT MOST 1048576: true; the input reads as it did. -/
def bridgeSaysUptoRow : OpenClaim := { program := "ytbopdijnojaaiab", sum := "8a938c57e139eaa88a9708a721928b792edc258bef2137635f57097ab46a716a", func := "drawbridge/drawbridgelaw.BridgeSays", spec := "bridgeSays", unfollowed := true, recurses := true, apart := false, narrowed := true }
def BridgeSaysUptoSaid : Prop := bridgeSaysUptoRow.holds Try.pinned (OpenSpec.upto bridgeSaysSpec)

/-- 'drawbridgelaw.BridgeShut', WHERE WHAT IT READS IS OF BULK AT MOST 1048576: true; the input reads as it did. -/
def bridgeShutUptoRow : OpenClaim := { program := "ytbopdijnojaaiab", sum := "8a938c57e139eaa88a9708a721928b792edc258bef2137635f57097ab46a716a", func := "drawbridge/drawbridgelaw.BridgeShut", spec := "bridgeShut", unfollowed := true, recurses := true, apart := false, narrowed := true }
def BridgeShutUptoSaid : Prop := bridgeShutUptoRow.holds Try.pinned (OpenSpec.upto bridgeShutSpec)

/-- 'drawbridgelaw.HartSays', WHERE WHAT IT READS IS OF BULK AT MOST 1048576: true; the input reads as it did. -/
def hartSaysUptoRow : OpenClaim := { program := "ytbopdijnojaaiab", sum := "8a938c57e139eaa88a9708a721928b792edc258bef2137635f57097ab46a716a", func := "drawbridge/drawbridgelaw.HartSays", spec := "hartSays", unfollowed := true, recurses := true, apart := false, narrowed := true }
def HartSaysUptoSaid : Prop := hartSaysUptoRow.holds Try.pinned (OpenSpec.upto hartSaysSpec)

/-- 'drawbridgelaw.HartKeeps', WHERE WHAT IT READS IS OF BULK AT MOST 1048576: true; the input reads as it did. -/
def hartKeepsUptoRow : OpenClaim := { program := "ytbopdijnojaaiab", sum := "8a938c57e139eaa88a9708a721928b792edc258bef2137635f57097ab46a716a", func := "drawbridge/drawbridgelaw.HartKeeps", spec := "hartKeeps", unfollowed := true, recurses := true, apart := false, narrowed := true }
def HartKeepsUptoSaid : Prop := hartKeepsUptoRow.holds Try.pinned (OpenSpec.upto hartKeepsSpec)

/-- 'drawbridgelaw.BridgeRemembers', WHERE WHAT IT READS IS OF BULK AT MOST 1048576: true; the input reads as it did. -/
def bridgeRemembersUptoRow : OpenClaim := { program := "ytbopdijnojaaiab", sum := "8a938c57e139eaa88a9708a721928b792edc258bef2137635f57097ab46a716a", func := "drawbridge/drawbridgelaw.BridgeRemembers", spec := "bridgeRemembers", unfollowed := true, recurses := true, apart := false, narrowed := true }
def BridgeRemembersUptoSaid : Prop := bridgeRemembersUptoRow.holds Try.pinned (OpenSpec.upto bridgeRemembersSpec)

end Rows
end Go.Proofs.Ytbopdijnojaaiab
