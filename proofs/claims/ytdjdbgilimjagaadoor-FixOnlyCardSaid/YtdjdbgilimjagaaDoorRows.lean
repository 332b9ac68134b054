/-
  NARROWER THAN 'FOR EVERY INPUT', by the rows' own cells (each row's printed sentence says how): CodeWord: laid · CodeBit: laid · CodeFields: laid · FixLeads: laid · FixOnly: laid · FixMoved: laid · InstRenamed: laid.
  DERIVED. THE GIVEN ROWS OF THIS SEAT. 7 by the template 'for every input the law returns true; each argument reads behind the call as it read before'; 0 by the template 'total and deterministic' (their statements: YtdjdbgilimjagaaDoorTotals.lean).
  GIVEN WITH THE SEED: the statements are not yours to turn. If you find one false, say at which input.
  Laid BY PROGRAM, IN A SANDBOX (cutbox-rows.mjs): the forced cells as the released guide's own fill.sh prints them over the translation f01128349a1046ec… (all of the seat's roots in one cut). By AI agents, Wed Nov 11 2026. No macro, syntax, notation, axiom, sorry.
-/
import Derived.Test.YtdjdbgilimjagaaDoorChecked
import GoSem.Claim
import GoSem.ClaimJoined
import GoSem.ClaimMapViews
import Derived.JoinedTies
import Derived.KernelRfl
namespace Go.Proofs.YtdjdbgilimjagaaDoor
/- THE CELL 'sum', in the pinned program and in every row, IS THE sha256 OF THE DUMP (.gsa) THAT YtdjdbgilimjagaaDoorProg.lean LOADS. Nothing in Lean hashes anything: it is a label: what it is worth is what the hold of that sum in a sandbox is worth. -/
noncomputable def Tryd.pinned : Pinned := { name := "ytdjdbgilimjagaadoor", sum := "f01128349a1046eccbbdc3dfd9e5b93ccc331120e5b54d9959f9cfe756444946", checked := Tryd.checked }
namespace Rows
def none {H : Type} : Left H := { results := [], args := [] }

/- WHAT THE LISTED PACKAGE-LEVEL VARIABLES READ AS WHEN THE CALL BEGINS. Each datum BY PROGRAM (the guide's laid-datum.mjs) off the statement by which the dump's own 'gosem.cut.vars' lays the variable. In a bare row this is a premise. The card (YtdjdbgilimjagaaDoorCards.lean) ties it to the program's text. -/
def laid_math_bits_deBruijn64tab {H : Type} : DataW H := .agg [.lit (.int .u8 0), .lit (.int .u8 1), .lit (.int .u8 56), .lit (.int .u8 2), .lit (.int .u8 57), .lit (.int .u8 49), .lit (.int .u8 28), .lit (.int .u8 3), .lit (.int .u8 61), .lit (.int .u8 58), .lit (.int .u8 42), .lit (.int .u8 50), .lit (.int .u8 38), .lit (.int .u8 29), .lit (.int .u8 17), .lit (.int .u8 4), .lit (.int .u8 62), .lit (.int .u8 47), .lit (.int .u8 59), .lit (.int .u8 36), .lit (.int .u8 45), .lit (.int .u8 43), .lit (.int .u8 51), .lit (.int .u8 22), .lit (.int .u8 53), .lit (.int .u8 39), .lit (.int .u8 33), .lit (.int .u8 30), .lit (.int .u8 24), .lit (.int .u8 18), .lit (.int .u8 12), .lit (.int .u8 5), .lit (.int .u8 63), .lit (.int .u8 55), .lit (.int .u8 48), .lit (.int .u8 27), .lit (.int .u8 60), .lit (.int .u8 41), .lit (.int .u8 37), .lit (.int .u8 16), .lit (.int .u8 46), .lit (.int .u8 35), .lit (.int .u8 44), .lit (.int .u8 21), .lit (.int .u8 52), .lit (.int .u8 32), .lit (.int .u8 23), .lit (.int .u8 11), .lit (.int .u8 54), .lit (.int .u8 26), .lit (.int .u8 40), .lit (.int .u8 15), .lit (.int .u8 34), .lit (.int .u8 20), .lit (.int .u8 31), .lit (.int .u8 10), .lit (.int .u8 25), .lit (.int .u8 14), .lit (.int .u8 19), .lit (.int .u8 9), .lit (.int .u8 13), .lit (.int .u8 8), .lit (.int .u8 7), .lit (.int .u8 6)]

/-- 'cleatlaw05.CodeWord': WHATEVER THE INPUT: true; the input reads as it did. -/
def codeWordSpec : ChangeSpec := { name := "codeWord", fn := fun _ => fun
  | [d] => { results := [.lit (.bool true)], args := [d] }
  | _ => none }
def codeWordRow : OpenClaim := { program := "ytdjdbgilimjagaadoor", sum := "f01128349a1046eccbbdc3dfd9e5b93ccc331120e5b54d9959f9cfe756444946", func := "cleat/cleatlaw05.CodeWord", spec := "codeWord", unfollowed := true, recurses := true, named := ["math/bits.deBruijn64tab"], apart := false, laid := [("math/bits.deBruijn64tab", laid_math_bits_deBruijn64tab)] }
def CodeWordSaid : Prop := codeWordRow.holds Tryd.pinned (OpenSpec.ofChange codeWordSpec)

/-- ITS FALSE NEIGHBOUR: 'it returns false'. Refute it at one input. -/
def codeWordWrong : ChangeSpec := { name := "codeWord", fn := fun _ => fun
  | [d] => { results := [.lit (.bool false)], args := [d] }
  | _ => none }
def CodeWordWrongFalsely : Prop := codeWordRow.holds Tryd.pinned (OpenSpec.ofChange codeWordWrong)

/-- 'cleatlaw05.CodeBit': WHATEVER THE INPUT: true; the input reads as it did. -/
def codeBitSpec : ChangeSpec := { name := "codeBit", fn := fun _ => fun
  | [d1, d2] => { results := [.lit (.bool true)], args := [d1, d2] }
  | _ => none }
def codeBitRow : OpenClaim := { program := "ytdjdbgilimjagaadoor", sum := "f01128349a1046eccbbdc3dfd9e5b93ccc331120e5b54d9959f9cfe756444946", func := "cleat/cleatlaw05.CodeBit", spec := "codeBit", unfollowed := true, recurses := true, named := ["math/bits.deBruijn64tab"], apart := false, laid := [("math/bits.deBruijn64tab", laid_math_bits_deBruijn64tab)] }
def CodeBitSaid : Prop := codeBitRow.holds Tryd.pinned (OpenSpec.ofChange codeBitSpec)

/-- ITS FALSE NEIGHBOUR: 'it returns false'. Refute it at one input. -/
def codeBitWrong : ChangeSpec := { name := "codeBit", fn := fun _ => fun
  | [d1, d2] => { results := [.lit (.bool false)], args := [d1, d2] }
  | _ => none }
def CodeBitWrongFalsely : Prop := codeBitRow.holds Tryd.pinned (OpenSpec.ofChange codeBitWrong)

/-- 'cleatlaw05.CodeFields': WHATEVER THE INPUT: true; the input reads as it did. -/
def codeFieldsSpec : ChangeSpec := { name := "codeFields", fn := fun _ => fun
  | [d1, d2] => { results := [.lit (.bool true)], args := [d1, d2] }
  | _ => none }
def codeFieldsRow : OpenClaim := { program := "ytdjdbgilimjagaadoor", sum := "f01128349a1046eccbbdc3dfd9e5b93ccc331120e5b54d9959f9cfe756444946", func := "cleat/cleatlaw05.CodeFields", spec := "codeFields", unfollowed := true, recurses := true, named := ["math/bits.deBruijn64tab"], apart := false, laid := [("math/bits.deBruijn64tab", laid_math_bits_deBruijn64tab)] }
def CodeFieldsSaid : Prop := codeFieldsRow.holds Tryd.pinned (OpenSpec.ofChange codeFieldsSpec)

/-- ITS FALSE NEIGHBOUR: 'it returns false'. Refute it at one input. -/
def codeFieldsWrong : ChangeSpec := { name := "codeFields", fn := fun _ => fun
  | [d1, d2] => { results := [.lit (.bool false)], args := [d1, d2] }
  | _ => none }
def CodeFieldsWrongFalsely : Prop := codeFieldsRow.holds Tryd.pinned (OpenSpec.ofChange codeFieldsWrong)

/-- 'cleatlaw26.FixLeads': WHATEVER THE INPUT: true; the input reads as it did. -/
def fixLeadsSpec : ChangeSpec := { name := "fixLeads", fn := fun _ => fun
  | [d1, d2, d3, d4] => { results := [.lit (.bool true)], args := [d1, d2, d3, d4] }
  | _ => none }
def fixLeadsRow : OpenClaim := { program := "ytdjdbgilimjagaadoor", sum := "f01128349a1046eccbbdc3dfd9e5b93ccc331120e5b54d9959f9cfe756444946", func := "cleat/cleatlaw26.FixLeads", spec := "fixLeads", unfollowed := true, recurses := true, named := ["math/bits.deBruijn64tab"], apart := false, laid := [("math/bits.deBruijn64tab", laid_math_bits_deBruijn64tab)] }
def FixLeadsSaid : Prop := fixLeadsRow.holds Tryd.pinned (OpenSpec.ofChange fixLeadsSpec)

/-- ITS FALSE NEIGHBOUR: 'it returns false'. Refute it at one input. -/
def fixLeadsWrong : ChangeSpec := { name := "fixLeads", fn := fun _ => fun
  | [d1, d2, d3, d4] => { results := [.lit (.bool false)], args := [d1, d2, d3, d4] }
  | _ => none }
def FixLeadsWrongFalsely : Prop := fixLeadsRow.holds Tryd.pinned (OpenSpec.ofChange fixLeadsWrong)

/-- 'cleatlaw26.FixOnly': WHATEVER THE INPUT: true; the input reads as it did. -/
def fixOnlySpec : ChangeSpec := { name := "fixOnly", fn := fun _ => fun
  | [d1, d2, d3, d4] => { results := [.lit (.bool true)], args := [d1, d2, d3, d4] }
  | _ => none }
def fixOnlyRow : OpenClaim := { program := "ytdjdbgilimjagaadoor", sum := "f01128349a1046eccbbdc3dfd9e5b93ccc331120e5b54d9959f9cfe756444946", func := "cleat/cleatlaw26.FixOnly", spec := "fixOnly", unfollowed := true, recurses := true, named := ["math/bits.deBruijn64tab"], apart := false, laid := [("math/bits.deBruijn64tab", laid_math_bits_deBruijn64tab)] }
def FixOnlySaid : Prop := fixOnlyRow.holds Tryd.pinned (OpenSpec.ofChange fixOnlySpec)

/-- ITS FALSE NEIGHBOUR: 'it returns false'. Refute it at one input. -/
def fixOnlyWrong : ChangeSpec := { name := "fixOnly", fn := fun _ => fun
  | [d1, d2, d3, d4] => { results := [.lit (.bool false)], args := [d1, d2, d3, d4] }
  | _ => none }
def FixOnlyWrongFalsely : Prop := fixOnlyRow.holds Tryd.pinned (OpenSpec.ofChange fixOnlyWrong)

/-- 'cleatlaw26.FixMoved': WHATEVER THE INPUT: true; the input reads as it did. -/
def fixMovedSpec : ChangeSpec := { name := "fixMoved", fn := fun _ => fun
  | [d1, d2, d3, d4] => { results := [.lit (.bool true)], args := [d1, d2, d3, d4] }
  | _ => none }
def fixMovedRow : OpenClaim := { program := "ytdjdbgilimjagaadoor", sum := "f01128349a1046eccbbdc3dfd9e5b93ccc331120e5b54d9959f9cfe756444946", func := "cleat/cleatlaw26.FixMoved", spec := "fixMoved", unfollowed := true, recurses := true, named := ["math/bits.deBruijn64tab"], apart := false, laid := [("math/bits.deBruijn64tab", laid_math_bits_deBruijn64tab)] }
def FixMovedSaid : Prop := fixMovedRow.holds Tryd.pinned (OpenSpec.ofChange fixMovedSpec)

/-- ITS FALSE NEIGHBOUR: 'it returns false'. Refute it at one input. -/
def fixMovedWrong : ChangeSpec := { name := "fixMoved", fn := fun _ => fun
  | [d1, d2, d3, d4] => { results := [.lit (.bool false)], args := [d1, d2, d3, d4] }
  | _ => none }
def FixMovedWrongFalsely : Prop := fixMovedRow.holds Tryd.pinned (OpenSpec.ofChange fixMovedWrong)

/-- 'cleatlaw04.InstRenamed': WHATEVER THE INPUT: true; the input reads as it did. -/
def instRenamedSpec : ChangeSpec := { name := "instRenamed", fn := fun _ => fun
  | [d1, d2, d3] => { results := [.lit (.bool true)], args := [d1, d2, d3] }
  | _ => none }
def instRenamedRow : OpenClaim := { program := "ytdjdbgilimjagaadoor", sum := "f01128349a1046eccbbdc3dfd9e5b93ccc331120e5b54d9959f9cfe756444946", func := "cleat/cleatlaw04.InstRenamed", spec := "instRenamed", unfollowed := true, recurses := true, named := ["math/bits.deBruijn64tab"], apart := false, laid := [("math/bits.deBruijn64tab", laid_math_bits_deBruijn64tab)] }
def InstRenamedSaid : Prop := instRenamedRow.holds Tryd.pinned (OpenSpec.ofChange instRenamedSpec)

/-- ITS FALSE NEIGHBOUR: 'it returns false'. Refute it at one input. -/
def instRenamedWrong : ChangeSpec := { name := "instRenamed", fn := fun _ => fun
  | [d1, d2, d3] => { results := [.lit (.bool false)], args := [d1, d2, d3] }
  | _ => none }
def InstRenamedWrongFalsely : Prop := instRenamedRow.holds Tryd.pinned (OpenSpec.ofChange instRenamedWrong)

/- THE SECOND FORM. 'bulk': how many values and letters a reading holds, each counted each time it is reached (what is shared counts as often as it is met; a slice's spare places count too). A statement '..UptoSaid' is the law's where the arguments, and the package variables that the reading takes, are together of bulk at most 1048576: NARROWER than '..Said'. Prove '..Said' where nothing that the law and all that it calls make is longer than what came in: it says more and counts as full. Else prove '..UptoSaid'. A law counts once. -/
mutual
def uptoBulk {H : Type} : DataW H → Nat
  | .lit (.string bytes) => bytes.length + 1
  | .lit _ => 1
  | .nil => 1
  | .ptr d => uptoBulk d + 1
  | .slice elems spare => uptoBulkAll elems + uptoBulkAll spare + 1
  | .agg parts => uptoBulkAll parts + 1
  | .iface _ d => uptoBulk d + 1
  | .map entries => uptoBulkEntries entries + 1
  | .held _ => 1
def uptoBulkAll {H : Type} : List (DataW H) → Nat
  | [] => 0
  | d :: r => uptoBulk d + uptoBulkAll r
def uptoBulkEntries {H : Type} : List (Lit × DataW H) → Nat
  | [] => 0
  | x :: r => uptoBulkEntry x + uptoBulkEntries r
def uptoBulkEntry {H : Type} : Lit × DataW H → Nat
  | (.string bytes, d) => bytes.length + uptoBulk d + 1
  | (_, d) => uptoBulk d + 1
 end
def uptoSmall : (H : Type) → List (DataW H) → Bool := fun _ ds => decide (uptoBulkAll ds ≤ 1048576)
def OpenSpec.upto (s : _root_.Go.ChangeSpec) : _root_.Go.OpenSpec := { _root_.Go.OpenSpec.ofChange s with cond := some uptoSmall }

/-- 'cleatlaw05.CodeWord', WHERE WHAT IT READS IS OF BULK AT MOST 1048576: true; the input reads as it did. -/
def codeWordUptoRow : OpenClaim := { program := "ytdjdbgilimjagaadoor", sum := "f01128349a1046eccbbdc3dfd9e5b93ccc331120e5b54d9959f9cfe756444946", func := "cleat/cleatlaw05.CodeWord", spec := "codeWord", unfollowed := true, recurses := true, named := ["math/bits.deBruijn64tab"], apart := false, laid := [("math/bits.deBruijn64tab", laid_math_bits_deBruijn64tab)], narrowed := true }
def CodeWordUptoSaid : Prop := codeWordUptoRow.holds Tryd.pinned (OpenSpec.upto codeWordSpec)

/-- 'cleatlaw05.CodeBit', WHERE WHAT IT READS IS OF BULK AT MOST 1048576: true; the input reads as it did. -/
def codeBitUptoRow : OpenClaim := { program := "ytdjdbgilimjagaadoor", sum := "f01128349a1046eccbbdc3dfd9e5b93ccc331120e5b54d9959f9cfe756444946", func := "cleat/cleatlaw05.CodeBit", spec := "codeBit", unfollowed := true, recurses := true, named := ["math/bits.deBruijn64tab"], apart := false, laid := [("math/bits.deBruijn64tab", laid_math_bits_deBruijn64tab)], narrowed := true }
def CodeBitUptoSaid : Prop := codeBitUptoRow.holds Tryd.pinned (OpenSpec.upto codeBitSpec)

/-- 'cleatlaw05.CodeFields', WHERE WHAT IT READS IS OF BULK AT MOST 1048576: true; the input reads as it did. -/
def codeFieldsUptoRow : OpenClaim := { program := "ytdjdbgilimjagaadoor", sum := "f01128349a1046eccbbdc3dfd9e5b93ccc331120e5b54d9959f9cfe756444946", func := "cleat/cleatlaw05.CodeFields", spec := "codeFields", unfollowed := true, recurses := true, named := ["math/bits.deBruijn64tab"], apart := false, laid := [("math/bits.deBruijn64tab", laid_math_bits_deBruijn64tab)], narrowed := true }
def CodeFieldsUptoSaid : Prop := codeFieldsUptoRow.holds Tryd.pinned (OpenSpec.upto codeFieldsSpec)

/-- 'cleatlaw26.FixLeads', WHERE WHAT IT READS IS OF BULK AT MOST 1048576: true; the input reads as it did. -/
def fixLeadsUptoRow : OpenClaim := { program := "ytdjdbgilimjagaadoor", sum := "f01128349a1046eccbbdc3dfd9e5b93ccc331120e5b54d9959f9cfe756444946", func := "cleat/cleatlaw26.FixLeads", spec := "fixLeads", unfollowed := true, recurses := true, named := ["math/bits.deBruijn64tab"], apart := false, laid := [("math/bits.deBruijn64tab", laid_math_bits_deBruijn64tab)], narrowed := true }
def FixLeadsUptoSaid : Prop := fixLeadsUptoRow.holds Tryd.pinned (OpenSpec.upto fixLeadsSpec)

/-- 'cleatlaw26.FixOnly', WHERE WHAT IT READS IS OF BULK AT MOST 1048576: true; the input reads as it did. -/
def fixOnlyUptoRow : OpenClaim := { program := "ytdjdbgilimjagaadoor", sum := "f01128349a1046eccbbdc3dfd9e5b93ccc331120e5b54d9959f9cfe756444946", func := "cleat/cleatlaw26.FixOnly", spec := "fixOnly", unfollowed := true, recurses := true, named := ["math/bits.deBruijn64tab"], apart := false, laid := [("math/bits.deBruijn64tab", laid_math_bits_deBruijn64tab)], narrowed := true }
def FixOnlyUptoSaid : Prop := fixOnlyUptoRow.holds Tryd.pinned (OpenSpec.upto fixOnlySpec)

/-- 'cleatlaw26.FixMoved', WHERE WHAT IT READS IS OF BULK AT MOST 1048576: true; the input reads as it did. -/
def fixMovedUptoRow : OpenClaim := { program := "ytdjdbgilimjagaadoor", sum := "f01128349a1046eccbbdc3dfd9e5b93ccc331120e5b54d9959f9cfe756444946", func := "cleat/cleatlaw26.FixMoved", spec := "fixMoved", unfollowed := true, recurses := true, named := ["math/bits.deBruijn64tab"], apart := false, laid := [("math/bits.deBruijn64tab", laid_math_bits_deBruijn64tab)], narrowed := true }
def FixMovedUptoSaid : Prop := fixMovedUptoRow.holds Tryd.pinned (OpenSpec.upto fixMovedSpec)

/-- 'cleatlaw04.InstRenamed', WHERE WHAT IT READS IS OF BULK AT MOST 1048576: true; the input reads as it did. -/
def instRenamedUptoRow : OpenClaim := { program := "ytdjdbgilimjagaadoor", sum := "f01128349a1046eccbbdc3dfd9e5b93ccc331120e5b54d9959f9cfe756444946", func := "cleat/cleatlaw04.InstRenamed", spec := "instRenamed", unfollowed := true, recurses := true, named := ["math/bits.deBruijn64tab"], apart := false, laid := [("math/bits.deBruijn64tab", laid_math_bits_deBruijn64tab)], narrowed := true }
def InstRenamedUptoSaid : Prop := instRenamedUptoRow.holds Tryd.pinned (OpenSpec.upto instRenamedSpec)

end Rows
end Go.Proofs.YtdjdbgilimjagaaDoor
