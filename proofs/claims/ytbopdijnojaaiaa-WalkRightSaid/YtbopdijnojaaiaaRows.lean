/-
  No cell of these rows narrows 'for every input' (looked for: loops, veiled, ifaces, maps, wideKeys, modest, calm, conditions, laid).
  DERIVED. THE GIVEN ROWS OF THIS SEAT. 11 by the template 'for every input the law returns true; each argument reads behind the call as it read before'; 0 by the template 'total and deterministic' (their statements: YtbopdijnojaaiaaTotals.lean).
  GIVEN WITH THE SEED: the statements are not yours to turn. If you find one false, say at which input.
  Laid BY PROGRAM, IN A SANDBOX (cutbox-rows.mjs): the forced cells as the released guide's own fill.sh prints them over the translation f54208eceb2bbc6e… (all of the seat's roots in one cut). By AI agents, Wed Nov 11 2026. No macro, syntax, notation, axiom, sorry.
-/
import Derived.Test.YtbopdijnojaaiaaChecked
import GoSem.Claim
import GoSem.ClaimJoined
import GoSem.ClaimMapViews
import Derived.JoinedTies
import Derived.KernelRfl
namespace Go.Proofs.Ytbopdijnojaaiaa
/- THE CELL 'sum', in the pinned program and in every row, IS THE sha256 OF THE DUMP (.gsa) THAT YtbopdijnojaaiaaProg.lean LOADS. Nothing in Lean hashes anything: it is a label: what it is worth is what the hold of that sum in a sandbox is worth. -/
noncomputable def Try.pinned : Pinned := { name := "ytbopdijnojaaiaa", sum := "f54208eceb2bbc6ed47d32385940ef2e0a08f8fb9a074fe2b72ac742d7138bb0", checked := Try.checked }
namespace Rows
def none {H : Type} : Left H := { results := [], args := [] }

/-- 'drawbridgelaw.Names': WHATEVER THE INPUT: true; the input reads as it did. -/
def namesSpec : ChangeSpec := { name := "names", fn := fun _ => fun
  | [] => { results := [.lit (.bool true)], args := [] }
  | _ => none }
def namesRow : OpenClaim := { program := "ytbopdijnojaaiaa", sum := "f54208eceb2bbc6ed47d32385940ef2e0a08f8fb9a074fe2b72ac742d7138bb0", func := "drawbridge/drawbridgelaw.Names", spec := "names", apart := false }
def NamesSaid : Prop := namesRow.holds Try.pinned (OpenSpec.ofChange namesSpec)

/-- ITS FALSE NEIGHBOUR: 'it returns false'. Refute it at one input. -/
def namesWrong : ChangeSpec := { name := "names", fn := fun _ => fun
  | [] => { results := [.lit (.bool false)], args := [] }
  | _ => none }
def NamesWrongFalsely : Prop := namesRow.holds Try.pinned (OpenSpec.ofChange namesWrong)

/-- 'drawbridgelaw.CodeSays': WHATEVER THE INPUT: true; the input reads as it did. -/
def codeSaysSpec : ChangeSpec := { name := "codeSays", fn := fun _ => fun
  | [d1, d2] => { results := [.lit (.bool true)], args := [d1, d2] }
  | _ => none }
def codeSaysRow : OpenClaim := { program := "ytbopdijnojaaiaa", sum := "f54208eceb2bbc6ed47d32385940ef2e0a08f8fb9a074fe2b72ac742d7138bb0", func := "drawbridge/drawbridgelaw.CodeSays", spec := "codeSays", unfollowed := true, recurses := true, apart := false }
def CodeSaysSaid : Prop := codeSaysRow.holds Try.pinned (OpenSpec.ofChange codeSaysSpec)

/-- ITS FALSE NEIGHBOUR: 'it returns false'. Refute it at one input. -/
def codeSaysWrong : ChangeSpec := { name := "codeSays", fn := fun _ => fun
  | [d1, d2] => { results := [.lit (.bool false)], args := [d1, d2] }
  | _ => none }
def CodeSaysWrongFalsely : Prop := codeSaysRow.holds Try.pinned (OpenSpec.ofChange codeSaysWrong)

/-- 'drawbridgelaw.CodeBack': WHATEVER THE INPUT: true; the input reads as it did. -/
def codeBackSpec : ChangeSpec := { name := "codeBack", fn := fun _ => fun
  | [d1, d2] => { results := [.lit (.bool true)], args := [d1, d2] }
  | _ => none }
def codeBackRow : OpenClaim := { program := "ytbopdijnojaaiaa", sum := "f54208eceb2bbc6ed47d32385940ef2e0a08f8fb9a074fe2b72ac742d7138bb0", func := "drawbridge/drawbridgelaw.CodeBack", spec := "codeBack", apart := false }
def CodeBackSaid : Prop := codeBackRow.holds Try.pinned (OpenSpec.ofChange codeBackSpec)

/-- ITS FALSE NEIGHBOUR: 'it returns false'. Refute it at one input. -/
def codeBackWrong : ChangeSpec := { name := "codeBack", fn := fun _ => fun
  | [d1, d2] => { results := [.lit (.bool false)], args := [d1, d2] }
  | _ => none }
def CodeBackWrongFalsely : Prop := codeBackRow.holds Try.pinned (OpenSpec.ofChange codeBackWrong)

/-- 'drawbridgelaw.WordSays': WHATEVER THE INPUT: true; the input reads as it did. -/
def wordSaysSpec : ChangeSpec := { name := "wordSays", fn := fun _ => fun
  | [d1, d2, d3] => { results := [.lit (.bool true)], args := [d1, d2, d3] }
  | _ => none }
def wordSaysRow : OpenClaim := { program := "ytbopdijnojaaiaa", sum := "f54208eceb2bbc6ed47d32385940ef2e0a08f8fb9a074fe2b72ac742d7138bb0", func := "drawbridge/drawbridgelaw.WordSays", spec := "wordSays", apart := false }
def WordSaysSaid : Prop := wordSaysRow.holds Try.pinned (OpenSpec.ofChange wordSaysSpec)

/-- ITS FALSE NEIGHBOUR: 'it returns false'. Refute it at one input. -/
def wordSaysWrong : ChangeSpec := { name := "wordSays", fn := fun _ => fun
  | [d1, d2, d3] => { results := [.lit (.bool false)], args := [d1, d2, d3] }
  | _ => none }
def WordSaysWrongFalsely : Prop := wordSaysRow.holds Try.pinned (OpenSpec.ofChange wordSaysWrong)

/-- 'drawbridgelaw.WordBack': WHATEVER THE INPUT: true; the input reads as it did. -/
def wordBackSpec : ChangeSpec := { name := "wordBack", fn := fun _ => fun
  | [d1, d2, d3, d4] => { results := [.lit (.bool true)], args := [d1, d2, d3, d4] }
  | _ => none }
def wordBackRow : OpenClaim := { program := "ytbopdijnojaaiaa", sum := "f54208eceb2bbc6ed47d32385940ef2e0a08f8fb9a074fe2b72ac742d7138bb0", func := "drawbridge/drawbridgelaw.WordBack", spec := "wordBack", apart := false }
def WordBackSaid : Prop := wordBackRow.holds Try.pinned (OpenSpec.ofChange wordBackSpec)

/-- ITS FALSE NEIGHBOUR: 'it returns false'. Refute it at one input. -/
def wordBackWrong : ChangeSpec := { name := "wordBack", fn := fun _ => fun
  | [d1, d2, d3, d4] => { results := [.lit (.bool false)], args := [d1, d2, d3, d4] }
  | _ => none }
def WordBackWrongFalsely : Prop := wordBackRow.holds Try.pinned (OpenSpec.ofChange wordBackWrong)

/-- 'drawbridgelaw.EntrySays': WHATEVER THE INPUT: true; the input reads as it did. -/
def entrySaysSpec : ChangeSpec := { name := "entrySays", fn := fun _ => fun
  | [d1, d2, d3] => { results := [.lit (.bool true)], args := [d1, d2, d3] }
  | _ => none }
def entrySaysRow : OpenClaim := { program := "ytbopdijnojaaiaa", sum := "f54208eceb2bbc6ed47d32385940ef2e0a08f8fb9a074fe2b72ac742d7138bb0", func := "drawbridge/drawbridgelaw.EntrySays", spec := "entrySays", apart := false }
def EntrySaysSaid : Prop := entrySaysRow.holds Try.pinned (OpenSpec.ofChange entrySaysSpec)

/-- ITS FALSE NEIGHBOUR: 'it returns false'. Refute it at one input. -/
def entrySaysWrong : ChangeSpec := { name := "entrySays", fn := fun _ => fun
  | [d1, d2, d3] => { results := [.lit (.bool false)], args := [d1, d2, d3] }
  | _ => none }
def EntrySaysWrongFalsely : Prop := entrySaysRow.holds Try.pinned (OpenSpec.ofChange entrySaysWrong)

/-- 'drawbridgelaw.EntryBack': WHATEVER THE INPUT: true; the input reads as it did. -/
def entryBackSpec : ChangeSpec := { name := "entryBack", fn := fun _ => fun
  | [d1, d2, d3] => { results := [.lit (.bool true)], args := [d1, d2, d3] }
  | _ => none }
def entryBackRow : OpenClaim := { program := "ytbopdijnojaaiaa", sum := "f54208eceb2bbc6ed47d32385940ef2e0a08f8fb9a074fe2b72ac742d7138bb0", func := "drawbridge/drawbridgelaw.EntryBack", spec := "entryBack", apart := false }
def EntryBackSaid : Prop := entryBackRow.holds Try.pinned (OpenSpec.ofChange entryBackSpec)

/-- ITS FALSE NEIGHBOUR: 'it returns false'. Refute it at one input. -/
def entryBackWrong : ChangeSpec := { name := "entryBack", fn := fun _ => fun
  | [d1, d2, d3] => { results := [.lit (.bool false)], args := [d1, d2, d3] }
  | _ => none }
def EntryBackWrongFalsely : Prop := entryBackRow.holds Try.pinned (OpenSpec.ofChange entryBackWrong)

/-- 'drawbridgelaw.MemSays': WHATEVER THE INPUT: true; the input reads as it did. -/
def memSaysSpec : ChangeSpec := { name := "memSays", fn := fun _ => fun
  | [d1, d2, d3, d4] => { results := [.lit (.bool true)], args := [d1, d2, d3, d4] }
  | _ => none }
def memSaysRow : OpenClaim := { program := "ytbopdijnojaaiaa", sum := "f54208eceb2bbc6ed47d32385940ef2e0a08f8fb9a074fe2b72ac742d7138bb0", func := "drawbridge/drawbridgelaw.MemSays", spec := "memSays", apart := false }
def MemSaysSaid : Prop := memSaysRow.holds Try.pinned (OpenSpec.ofChange memSaysSpec)

/-- ITS FALSE NEIGHBOUR: 'it returns false'. Refute it at one input. -/
def memSaysWrong : ChangeSpec := { name := "memSays", fn := fun _ => fun
  | [d1, d2, d3, d4] => { results := [.lit (.bool false)], args := [d1, d2, d3, d4] }
  | _ => none }
def MemSaysWrongFalsely : Prop := memSaysRow.holds Try.pinned (OpenSpec.ofChange memSaysWrong)

/-- 'drawbridgelaw.MemKeeps': WHATEVER THE INPUT: true; the input reads as it did. -/
def memKeepsSpec : ChangeSpec := { name := "memKeeps", fn := fun _ => fun
  | [d1, d2, d3, d4, d5] => { results := [.lit (.bool true)], args := [d1, d2, d3, d4, d5] }
  | _ => none }
def memKeepsRow : OpenClaim := { program := "ytbopdijnojaaiaa", sum := "f54208eceb2bbc6ed47d32385940ef2e0a08f8fb9a074fe2b72ac742d7138bb0", func := "drawbridge/drawbridgelaw.MemKeeps", spec := "memKeeps", apart := false }
def MemKeepsSaid : Prop := memKeepsRow.holds Try.pinned (OpenSpec.ofChange memKeepsSpec)

/-- ITS FALSE NEIGHBOUR: 'it returns false'. Refute it at one input. -/
def memKeepsWrong : ChangeSpec := { name := "memKeeps", fn := fun _ => fun
  | [d1, d2, d3, d4, d5] => { results := [.lit (.bool false)], args := [d1, d2, d3, d4, d5] }
  | _ => none }
def MemKeepsWrongFalsely : Prop := memKeepsRow.holds Try.pinned (OpenSpec.ofChange memKeepsWrong)

/-- 'drawbridgelaw.WalkSays': WHATEVER THE INPUT: true; the input reads as it did. -/
def walkSaysSpec : ChangeSpec := { name := "walkSays", fn := fun _ => fun
  | [d1, d2, d3, d4] => { results := [.lit (.bool true)], args := [d1, d2, d3, d4] }
  | _ => none }
def walkSaysRow : OpenClaim := { program := "ytbopdijnojaaiaa", sum := "f54208eceb2bbc6ed47d32385940ef2e0a08f8fb9a074fe2b72ac742d7138bb0", func := "drawbridge/drawbridgelaw.WalkSays", spec := "walkSays", apart := false }
def WalkSaysSaid : Prop := walkSaysRow.holds Try.pinned (OpenSpec.ofChange walkSaysSpec)

/-- ITS FALSE NEIGHBOUR: 'it returns false'. Refute it at one input. -/
def walkSaysWrong : ChangeSpec := { name := "walkSays", fn := fun _ => fun
  | [d1, d2, d3, d4] => { results := [.lit (.bool false)], args := [d1, d2, d3, d4] }
  | _ => none }
def WalkSaysWrongFalsely : Prop := walkSaysRow.holds Try.pinned (OpenSpec.ofChange walkSaysWrong)

/-- 'drawbridgelaw.WalkRight': WHATEVER THE INPUT: true; the input reads as it did. -/
def walkRightSpec : ChangeSpec := { name := "walkRight", fn := fun _ => fun
  | [d1, d2, d3] => { results := [.lit (.bool true)], args := [d1, d2, d3] }
  | _ => none }
def walkRightRow : OpenClaim := { program := "ytbopdijnojaaiaa", sum := "f54208eceb2bbc6ed47d32385940ef2e0a08f8fb9a074fe2b72ac742d7138bb0", func := "drawbridge/drawbridgelaw.WalkRight", spec := "walkRight", apart := false }
def WalkRightSaid : Prop := walkRightRow.holds Try.pinned (OpenSpec.ofChange walkRightSpec)

/-- ITS FALSE NEIGHBOUR: 'it returns false'. Refute it at one input. -/
def walkRightWrong : ChangeSpec := { name := "walkRight", fn := fun _ => fun
  | [d1, d2, d3] => { results := [.lit (.bool false)], args := [d1, d2, d3] }
  | _ => none }
def WalkRightWrongFalsely : Prop := walkRightRow.holds Try.pinned (OpenSpec.ofChange walkRightWrong)

/- THE SECOND FORM. 'bulk': how many values and letters a reading holds, each counted each time it is reached (what is shared counts as often as it is met; a slice's spare places count too). A statement '..UptoSaid' is the law's where the arguments, and the package variables that the reading takes, are together of bulk at most 1048576: NARROWER than '..Said'. Prove '..Said' where nothing that the law and all that it calls make is longer than what came in: it says more and counts as full. Else prove '..UptoSaid'. A law counts once. -/
mutual
def uptoBulk {H : Type} : DataW H → Nat
  | .lit (.string bytes) => bytes.length + 1
  | .lit _ => 1
  | .nil => 1
  | .ptr d => uptoBulk d + 1
  | .slice elems spare => uptoBulkAll elems + uptoBulkAll spare + 1
  | .agg parts => uptoBulkAll parts + 1
  | .iface _ d => uptoBulk d + 1
  | .map entries => uptoBulkEntries entries + 1
  | .held _ => 1
def uptoBulkAll {H : Type} : List (DataW H) → Nat
  | [] => 0
  | d :: r => uptoBulk d + uptoBulkAll r
def uptoBulkEntries {H : Type} : List (Lit × DataW H) → Nat
  | [] => 0
  | x :: r => uptoBulkEntry x + uptoBulkEntries r
def uptoBulkEntry {H : Type} : Lit × DataW H → Nat
  | (.string bytes, d) => bytes.length + uptoBulk d + 1
  | (_, d) => uptoBulk d + 1
 end
def uptoSmall : (H : Type) → List (DataW H) → Bool := fun _ ds => decide (uptoBulkAll ds ≤ 1048576)
def OpenSpec.upto (s : _root_.Go.ChangeSpec) : _root_.Go.OpenSpec := { _root_.Go.OpenSpec.ofChange s with cond := some uptoSmall }

/-- 'drawbridgelaw.Names', WHERE WHAT IT READS IS OF BULK AT MOST 1048576: true; the input reads as it did. -/
def namesUptoRow : OpenClaim := { program := "ytbopdijnojaaiaa", sum := "f54208eceb2bbc6ed47d32385940ef2e0a08f8fb9a074fe2b72ac742d7138bb0", func := "drawbridge/drawbridgelaw.Names", spec := "names", apart := false, narrowed := true }
def NamesUptoSaid : Prop := namesUptoRow.holds Try.pinned (OpenSpec.upto namesSpec)

/-- 'drawbridgelaw.CodeSays', WHERE WHAT IT READS IS OF BULK AT MOST 1048576: true; the input reads as it did. -/
def codeSaysUptoRow : OpenClaim := { program := "ytbopdijnojaaiaa", sum := "f54208eceb2bbc6ed47d32385940ef2e0a08f8fb9a074fe2b72ac742d7138bb0", func := "drawbridge/drawbridgelaw.CodeSays", spec := "codeSays", unfollowed := true, recurses := true, apart := false, narrowed := true }
def CodeSaysUptoSaid : Prop := codeSaysUptoRow.holds Try.pinned (OpenSpec.upto codeSaysSpec)

/-- 'drawbridgelaw.CodeBack', WHERE WHAT IT READS IS OF BULK AT MOST 1048576: true; the input reads as it did. -/
def codeBackUptoRow : OpenClaim := { program := "ytbopdijnojaaiaa", sum := "f54208eceb2bbc6ed47d32385940ef2e0a08f8fb9a074fe2b72ac742d7138bb0", func := "drawbridge/drawbridgelaw.CodeBack", spec := "codeBack", apart := false, narrowed := true }
def CodeBackUptoSaid : Prop := codeBackUptoRow.holds Try.pinned (OpenSpec.upto codeBackSpec)

/-- 'drawbridgelaw.WordSays', WHERE WHAT IT READS IS OF BULK AT MOST 1048576: true; the input reads as it did. -/
def wordSaysUptoRow : OpenClaim := { program := "ytbopdijnojaaiaa", sum := "f54208eceb2bbc6ed47d32385940ef2e0a08f8fb9a074fe2b72ac742d7138bb0", func := "drawbridge/drawbridgelaw.WordSays", spec := "wordSays", apart := false, narrowed := true }
def WordSaysUptoSaid : Prop := wordSaysUptoRow.holds Try.pinned (OpenSpec.upto wordSaysSpec)

/-- 'drawbridgelaw.WordBack', WHERE WHAT IT READS IS OF BULK AT MOST 1048576: true; the input reads as it did. -/
def wordBackUptoRow : OpenClaim := { program := "ytbopdijnojaaiaa", sum := "f54208eceb2bbc6ed47d32385940ef2e0a08f8fb9a074fe2b72ac742d7138bb0", func := "drawbridge/drawbridgelaw.WordBack", spec := "wordBack", apart := false, narrowed := true }
def WordBackUptoSaid : Prop := wordBackUptoRow.holds Try.pinned (OpenSpec.upto wordBackSpec)

/-- 'drawbridgelaw.EntrySays', WHERE WHAT IT READS IS OF BULK AT MOST 1048576: true; the input reads as it did. -/
def entrySaysUptoRow : OpenClaim := { program := "ytbopdijnojaaiaa", sum := "f54208eceb2bbc6ed47d32385940ef2e0a08f8fb9a074fe2b72ac742d7138bb0", func := "drawbridge/drawbridgelaw.EntrySays", spec := "entrySays", apart := false, narrowed := true }
def EntrySaysUptoSaid : Prop := entrySaysUptoRow.holds Try.pinned (OpenSpec.upto entrySaysSpec)

/-- 'drawbridgelaw.EntryBack', WHERE WHAT IT READS IS OF BULK AT MOST 1048576: true; the input reads as it did. -/
def entryBackUptoRow : OpenClaim := { program := "ytbopdijnojaaiaa", sum := "f54208eceb2bbc6ed47d32385940ef2e0a08f8fb9a074fe2b72ac742d7138bb0", func := "drawbridge/drawbridgelaw.EntryBack", spec := "entryBack", apart := false, narrowed := true }
def EntryBackUptoSaid : Prop := entryBackUptoRow.holds Try.pinned (OpenSpec.upto entryBackSpec)

/-- 'drawbridgelaw.MemSays', WHERE WHAT IT READS IS OF BULK AT MOST 1048576: true; the input reads as it did. -/
def memSaysUptoRow : OpenClaim := { program := "ytbopdijnojaaiaa", sum := "f54208eceb2bbc6ed47d32385940ef2e0a08f8fb9a074fe2b72ac742d7138bb0", func := "drawbridge/drawbridgelaw.MemSays", spec := "memSays", apart := false, narrowed := true }
def MemSaysUptoSaid : Prop := memSaysUptoRow.holds Try.pinned (OpenSpec.upto memSaysSpec)

/-- 'drawbridgelaw.MemKeeps', WHERE WHAT IT READS IS OF BULK AT MOST 1048576: true; the input reads as it did. -/
def memKeepsUptoRow : OpenClaim := { program := "ytbopdijnojaaiaa", sum := "f54208eceb2bbc6ed47d32385940ef2e0a08f8fb9a074fe2b72ac742d7138bb0", func := "drawbridge/drawbridgelaw.MemKeeps", spec := "memKeeps", apart := false, narrowed := true }
def MemKeepsUptoSaid : Prop := memKeepsUptoRow.holds Try.pinned (OpenSpec.upto memKeepsSpec)

/-- 'drawbridgelaw.WalkSays', WHERE WHAT IT READS IS OF BULK AT MOST 1048576: true; the input reads as it did. -/
def walkSaysUptoRow : OpenClaim := { program := "ytbopdijnojaaiaa", sum := "f54208eceb2bbc6ed47d32385940ef2e0a08f8fb9a074fe2b72ac742d7138bb0", func := "drawbridge/drawbridgelaw.WalkSays", spec := "walkSays", apart := false, narrowed := true }
def WalkSaysUptoSaid : Prop := walkSaysUptoRow.holds Try.pinned (OpenSpec.upto walkSaysSpec)

/-- 'drawbridgelaw.WalkRight', WHERE WHAT IT READS IS OF BULK AT MOST 1048576: true; the input reads as it did. -/
def walkRightUptoRow : OpenClaim := { program := "ytbopdijnojaaiaa", sum := "f54208eceb2bbc6ed47d32385940ef2e0a08f8fb9a074fe2b72ac742d7138bb0", func := "drawbridge/drawbridgelaw.WalkRight", spec := "walkRight", apart := false, narrowed := true }
def WalkRightUptoSaid : Prop := walkRightUptoRow.holds Try.pinned (OpenSpec.upto walkRightSpec)

end Rows
end Go.Proofs.Ytbopdijnojaaiaa
