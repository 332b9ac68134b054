/- Which parts an instruction of a shape has, and what they are of. No condition. -/
import Derived.Test.YtdjdbgilimjagaaDoorSpecI
set_option linter.unusedVariables false
set_option linter.unusedSimpArgs false
namespace Go.Proofs.YtdjdbgilimjagaaDoor

/-- What a part is of. -/
inductive Sel where
  | d | n | m | a | shift | cond | low | high
  | imm (g : Int)
  | amt (g : Int)
  | mk (k : Int)
/-- A part: where it is, how many bits, with a sign or none, and of what. -/
structure PS where
  pos : Int
  n : Int
  sign : Bool
  sel : Sel
def partsL (s : Int) : List PS :=
  if s = 1 then [⟨0, 5, false, .d⟩, ⟨5, 16, false, (.imm 1)⟩, ⟨21, 2, false, (.amt 16)⟩]
  else if s = 2 then [⟨0, 5, false, .d⟩, ⟨5, 5, false, .n⟩, ⟨10, 12, false, (.imm 1)⟩, ⟨22, 1, false, (.amt 12)⟩]
  else if s = 3 then [⟨22, 1, false, (.mk 0)⟩, ⟨16, 6, false, (.mk 1)⟩, ⟨10, 6, false, (.mk 2)⟩, ⟨0, 5, false, .d⟩, ⟨5, 5, false, .n⟩]
  else if s = 4 then [⟨0, 5, false, .d⟩, ⟨5, 5, false, .n⟩, ⟨16, 5, false, .m⟩, ⟨10, 6, false, (.amt 1)⟩, ⟨22, 2, false, .shift⟩]
  else if s = 5 then [⟨0, 5, false, .d⟩, ⟨5, 5, false, .n⟩, ⟨16, 5, false, .m⟩, ⟨10, 6, false, (.amt 1)⟩, ⟨22, 2, false, .shift⟩]
  else if s = 6 then [⟨0, 5, false, .d⟩, ⟨5, 5, false, .n⟩, ⟨16, 5, false, .m⟩, ⟨10, 5, false, .a⟩]
  else if s = 7 then [⟨0, 5, false, .d⟩, ⟨5, 5, false, .n⟩, ⟨10, 12, false, (.imm 8)⟩]
  else if s = 8 then [⟨0, 5, false, .d⟩, ⟨5, 5, false, .n⟩, ⟨10, 12, false, (.imm 1)⟩]
  else if s = 9 then [⟨0, 5, false, .d⟩, ⟨5, 19, true, (.imm 4)⟩]
  else if s = 10 then [⟨29, 2, false, .low⟩, ⟨5, 19, true, .high⟩, ⟨0, 5, false, .d⟩]
  else if s = 11 then [⟨0, 26, true, (.imm 4)⟩]
  else if s = 12 then [⟨0, 4, false, .cond⟩, ⟨5, 19, true, (.imm 4)⟩]
  else if s = 13 then [⟨5, 5, false, .n⟩]
  else if s = 14 then [⟨5, 16, false, (.imm 1)⟩]
  else if s = 16 then [⟨0, 5, false, .d⟩, ⟨5, 5, false, .n⟩, ⟨16, 5, false, .m⟩, ⟨12, 4, false, .cond⟩]
  else []
end Go.Proofs.YtdjdbgilimjagaaDoor
