/- What the rows of this seat share: the library's table lies as the condition says; a world in which it does. No condition. -/
import Derived.Test.YtdjdbgilimjagaaDoorMaskD
import Derived.ProofKit
import Derived.LaidMore
import Derived.OpenShut
import Derived.Stop.Joined
import Derived.Lib.LaidTab
import Derived.Lib.SmallJoins
set_option linter.unusedVariables false
set_option linter.unusedSimpArgs false
namespace Go.Proofs.YtdjdbgilimjagaaDoor
open Go.ChangeShapes Go.WideShapes Go.ChangeAt Go.RowKit

theorem own : ownKnob Tryd.prog.godebug = none := by kernel_rfl
theorem gTab : Tryd.prog.globalNamed "math/bits.deBruijn64tab" = some 0 := by kernel_rfl
theorem tTab : (Tryd.prog.globals[0]?).map (·.type) = some 139 := by kernel_rfl
theorem cells5 : Tryd.prog.cellsOf 5 = 1 := by kernel_rfl
theorem cells139 : Tryd.prog.cellsOf 139 = 64 := by kernel_rfl
def laidT : List (String × DataW Unit) := [("math/bits.deBruijn64tab", Rows.laid_math_bits_deBruijn64tab)]
def tabZ : List Int := tabL.map fun (n : Nat) => (n : Int)
/-- What the condition gives a walk: the table's cells. -/
theorem tab_of_laid {W : World} (h : laidMetH Tryd.prog laidT W) : Tab W := by
  rw [MakeChecks.laidMetH_plain _ _ _ (by kernel_rfl)] at h
  have h' : laidMet Tryd.prog [("math/bits.deBruijn64tab", Lib.tabData .u8 tabZ)] W := h
  have hT := Lib.tabIs_of_head gTab tTab Tryd.underlying139 Tryd.underlying5 cells5 cells139 h'
  intro i hi
  have hc := hT.cell gTab i (by show i < 64; exact hi)
  rw [hc]
  congr 2
  unfold tabZ
  rw [List.getD_eq_getElem?_getD, List.getElem?_map, List.getD_eq_getElem?_getD]
  have : i < tabL.length := hi
  rw [List.getElem?_eq_getElem this]
  rfl
/-- The door's own heap meets the condition. -/
theorem door_met (os : Os) (args : Array Value) : laidMetH Tryd.prog laidT ((World.doorLaid Tryd.prog 400 os).forCall (fun _ _ => 0) ⟨#[], args, []⟩).memory :=
  laidMetH_of_parts3 (fuel := 8) (laidMet_of_run' 8 (by kernel_rfl) (by kernel_rfl)) (by kernel_rfl) (by kernel_rfl)

set_option maxRecDepth 100000 in
/-- The row's last step for a law: the call hands back true, nothing that was there has turned, the arguments read as they did. -/
theorem law_post {H : Type} {enc : TypeId × Value → H} {f : Func} {s : ChangeSpec} {W W' : World} {args : Array Value} {ds : List (DataW H)} {places : List MemPlace}
    (hr : f.resultTypes = #[4]) (hv : s.vars = [])
    (hs : s.fn H (ds ++ []) = { results := [.lit (.bool true)], args := ds })
    (hW : DataW.Whole enc Tryd.prog f.params.toList s.vars false W args.toList ds [] places) (hb : Below W.heap.size W W')
    (hargs : ∀ sp : Nat → Bool, (∀ p ∈ places, sp p.block = true) → DataW.TrodAll enc Tryd.prog W' 0 sp true f.params.toList args.toList ds places) :
    s.post enc Tryd.prog f false true false false W args (.bool true) W' := by
  have hold : ∀ p ∈ places, (fun b => decide (b < W.heap.size)) p.block = true := fun p hp => decide_eq_true (hW.lt p hp)
  have hres : ∀ (b : Nat) (sp : Nat → Bool) (hd : Bool), DataW.TrodAll enc Tryd.prog W' b sp hd f.resultTypes.toList ((Value.bool true).resultList f.resultTypes.size) (s.fn H (ds ++ [])).results [] := fun b sp hd => by
    rw [hr, hs]; exact trodAll_mk1 (shut_bool Tryd.underlying4 _)
  have hvar : ∀ sp : Nat → Bool, DataW.TrodVars enc Tryd.prog W' sp s.vars (s.fn H (ds ++ [])).vars [] := fun sp => by
    rw [hv, hs]; rfl
  have ha : ∀ sp : Nat → Bool, (∀ p ∈ places, sp p.block = true) → DataW.TrodAll enc Tryd.prog W' 0 sp true f.params.toList args.toList (s.fn H (ds ++ [])).args places := fun sp h => by
    rw [hs]; exact hargs sp h
  refine ⟨ds, [], places, [], places, [], hW, hres _ _ _, ha _ hold, hvar _, World.keptBut_mono (fun p hp => ⟨hp, ?_⟩) (hb.frame (· ∈ places)), fun _ => ?_⟩
  · exact .inr (.inl hp)
  have hr2 : DataW.TrodAll enc Tryd.prog W' 0 (fun _ => true) true f.resultTypes.toList ((Value.bool true).resultList f.resultTypes.size) [.lit (.bool true)] [] := by
    have := hres 0 (fun _ => true) true
    rwa [hs] at this
  have ha2 := hargs (fun _ => true) fun _ _ => rfl
  have hv2 : DataW.TrodVars enc Tryd.prog W' (fun _ => true) s.vars ([] : List (DataW H)) [] := by rw [hv]; rfl
  refine ⟨?_, [.lit (.bool true)] ++ ds, [], places, ⟨places, [], trodAll_append ha2 hr2, hv2, by simp, ?_, ?_⟩, ?_⟩
  · exact ok_one hr rfl (okWide_bool_mk Tryd.underlying4 _)
  · intro b off hp
    have hl := hW.lt _ hp
    obtain ⟨_, _, _, _, _, hz, _⟩ := hW
    rw [hb.frozen hl]
    exact hz b off hp
  · intro h; cases h
  · intro p hp _; exact hp
end Go.Proofs.YtdjdbgilimjagaaDoor
