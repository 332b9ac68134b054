/- Layer 5 of the program, walked: the parts of a shape. No condition. -/
import Derived.Test.YtdjdbgilimjagaaDoorCodeB
import Derived.Test.YtdjdbgilimjagaaDoorSpecP
set_option linter.unusedVariables false
set_option linter.unusedSimpArgs false
namespace Go.Proofs.YtdjdbgilimjagaaDoor
open Go.RowKit
set_option maxRecDepth 100000

/-- A part as it lies: what it is, its two functions, and what they hold. -/
structure PD where
  ps : PS
  g : Nat
  h : Nat
  cg : Array Value
  ch : Array Value
def PD.cells (p : PD) : List Value := partV p.ps.pos p.ps.n p.g p.h p.cg p.ch p.ps.sign
def SelOK (w : World) (bt : Nat) (g h : Nat) (cg ch : Array Value) : Sel → Prop
  | .d => g = 75 ∧ h = 76 ∧ cg = #[] ∧ ch = #[]
  | .n => g = 81 ∧ h = 82 ∧ cg = #[] ∧ ch = #[]
  | .m => g = 89 ∧ h = 90 ∧ cg = #[] ∧ ch = #[]
  | .a => g = 93 ∧ h = 94 ∧ cg = #[] ∧ ch = #[]
  | .shift => g = 91 ∧ h = 92 ∧ cg = #[] ∧ ch = #[]
  | .cond => g = 99 ∧ h = 100 ∧ cg = #[] ∧ ch = #[]
  | .low => g = 95 ∧ h = 96 ∧ cg = #[] ∧ ch = #[]
  | .high => g = 97 ∧ h = 98 ∧ cg = #[] ∧ ch = #[]
  | .imm v => g = 77 ∧ h = 78 ∧ ∃ pb, cg = #[ptr pb] ∧ ch = #[ptr pb] ∧ w.cell? ⟨pb, 0, none⟩ = some (.int .i64 v)
  | .amt v => g = 79 ∧ h = 80 ∧ ∃ pb, cg = #[ptr pb] ∧ ch = #[ptr pb] ∧ w.cell? ⟨pb, 0, none⟩ = some (.int .i64 v)
  | .mk k => g = 84 ∧ h = 87 ∧ ∃ p1 p2, cg = #[ptr p1] ∧ ch = #[ptr bt, ptr p2] ∧ w.cell? ⟨p1, 0, none⟩ = some (.int .i64 k) ∧ w.cell? ⟨p2, 0, none⟩ = some (.int .i64 k)
def PD.ok (w : World) (bt : Nat) (p : PD) : Prop := SelOK w bt p.g p.h p.cg p.ch p.ps.sel
/-- What a part's functions hold is new, and apart from what is told. -/
def PD.new (n0 bt : Nat) (p : PD) : Prop := (∀ pb, p.ch = #[ptr pb] → n0 ≤ pb) ∧ ∀ pb, p.ch = #[ptr bt, ptr pb] → n0 ≤ pb ∧ pb ≠ bt
theorem ptr_inj {a b : Nat} (h : ptr a = ptr b) : a = b := by unfold ptr at h; simpa using h
theorem new_none (n0 bt : Nat) (ps : PS) (g h : Nat) (cg : Array Value) : PD.new n0 bt ⟨ps, g, h, cg, #[]⟩ :=
  ⟨fun pb e => by simp at e, fun pb e => by simp at e⟩
theorem new_one (n0 bt : Nat) (ps : PS) (g h b : Nat) (cg : Array Value) (hb : n0 ≤ b) : PD.new n0 bt ⟨ps, g, h, cg, #[ptr b]⟩ :=
  ⟨fun pb e => by have e2 : ptr b = ptr pb := by simpa using e
                  rw [← ptr_inj e2]; exact hb, fun pb e => by simp at e⟩
theorem new_two (n0 bt : Nat) (ps : PS) (g h b : Nat) (cg : Array Value) (hb : n0 ≤ b) (hne : b ≠ bt) : PD.new n0 bt ⟨ps, g, h, cg, #[ptr bt, ptr b]⟩ :=
  ⟨fun pb e => by simp at e, fun pb e => by have e2 : ptr b = ptr pb := by simpa using e
                                            rw [← ptr_inj e2]; exact ⟨hb, hne⟩⟩
/-- A row of parts, as it lies. -/
def PartsAt (w : World) (n0 bt : Nat) (v : Value) (L : List PD) : Prop :=
  ((L = [] ∧ v = .slice none 0 0) ∨ ∃ b cap, v = .slice (some ⟨b, 0, none⟩) L.length cap ∧ n0 ≤ b ∧ b < w.heap.size ∧ ∀ k u, (L.flatMap PD.cells)[k]? = some u → w.cell? ⟨b, k, none⟩ = some u) ∧
  (∀ p, p ∈ L → p.ok w bt)
/-- What 'parts' hands back. -/
def Parts (w : World) (s : Int) (e : Ending) (w' : World) : Prop :=
  ∃ v bt L, e = .returned v ∧ PartsAt w' w.heap.size bt v L ∧ L.map PD.ps = partsL s ∧ Below w.heap.size w w' ∧ (s = 3 → w.heap.size ≤ bt ∧ w'.heap[bt]? = some (.cells #[.int .i64 0, .int .i64 0, .int .i64 0] 119)) ∧ ∀ p, p ∈ L → p.new w.heap.size bt
theorem bt2 {a b c : World} (h : Below a.heap.size a b) (k : Below b.heap.size b c) : Below a.heap.size a c := h.trans (k.mono h.size)
theorem balloc (a : World) (o : Obj) : Below a.heap.size a (a.alloc o) := (Below.refl _ _).alloc (Nat.le_refl _) _
theorem lay_new (w : World) (L : List PD) (C : List Value) (h : L.flatMap PD.cells = C) : ∀ k u, (L.flatMap PD.cells)[k]? = some u → (w.alloc (.cells C.toArray 64)).cell? ⟨w.heap.size, k, none⟩ = some u := by
  intro k u hk
  rw [cell_of_row _ _ k C.toArray 64 (0, 0) (heap_alloc_new w _), List.getElem?_toArray, ← h]
  exact hk

theorem parts_nil (s : Int) (w : World) (h : s = 0 ∨ s = 15) : Calls Tryd.prog 31 #[.int .i64 s] w (Parts w s) := by
  have h2 : Calls Tryd.prog 31 #[.int .i64 s] w fun e w' => e = .returned (.slice none 0 0) ∧ w = w' := by
    rcases h with rfl | rfl
    all_goals
      go_enter Tryd.func31, Tryd.ntmps31
      go_wp2
      go_ret
      exact ⟨rfl, rfl⟩
  refine h2.mono fun e w' q => ?_
  obtain ⟨rfl, rfl⟩ := q
  refine ⟨_, 0, [], rfl, ⟨.inl ⟨rfl, rfl⟩, fun p hp => by cases hp⟩, ?_, Below.refl _ _, (fun h3 => by omega), fun p hp => by cases hp⟩
  rcases h with rfl | rfl <;> rfl

set_option maxHeartbeats 1000000 in
theorem parts_1 (w : World) : Calls Tryd.prog 31 #[.int .i64 1] w (Parts w 1) := by
  go_enter Tryd.func31, Tryd.ntmps31
  go_wp2_with (first | (go_at_call 56; refine (make_56 _).mono ?_; rintro e w1 ⟨rfl, hb1⟩) | (go_at_call 57; refine (make_57 _ _ _ _ _).mono ?_; rintro e w2 ⟨rfl, hb2, hc2, hz2⟩) | (go_at_call 58; refine (make_58 _ _ _ _).mono ?_; rintro e w3 ⟨rfl, hb3, hc3, hz3⟩))
  go_ret
  refine ⟨_, 0, [⟨⟨0, 5, false, .d⟩, 75, 76, #[], #[]⟩, ⟨⟨5, 16, false, (.imm 1)⟩, 77, 78, #[ptr w1.heap.size], #[ptr w1.heap.size]⟩, ⟨⟨21, 2, false, (.amt 16)⟩, 79, 80, #[ptr w2.heap.size], #[ptr w2.heap.size]⟩], rfl, ⟨.inr ⟨w3.heap.size, 3, rfl, Nat.le_trans (Nat.le_refl _) (bt2 hb1 (bt2 hb2 (hb3))).size, by simp, lay_new w3 _ _ rfl⟩, ?_⟩, rfl, (bt2 hb1 (bt2 hb2 (bt2 hb3 (balloc w3 _)))), (fun h => absurd h (by decide)), ?_⟩
  all_goals
    intro p hp
    simp only [List.mem_cons, List.not_mem_nil, or_false] at hp
    rcases hp with rfl | rfl | rfl
  · exact ⟨rfl, rfl, rfl, rfl⟩
  · exact ⟨rfl, rfl, _, rfl, rfl, cell_later (bt2 hb3 (balloc w3 _)) hc2⟩
  · exact ⟨rfl, rfl, _, rfl, rfl, cell_later (balloc w3 _) hc3⟩
  · exact new_none _ _ _ _ _ _
  · exact new_one _ _ _ _ _ _ _ ((hb1).size)
  · exact new_one _ _ _ _ _ _ _ ((bt2 hb1 (hb2)).size)

set_option maxHeartbeats 1000000 in
theorem parts_2 (w : World) : Calls Tryd.prog 31 #[.int .i64 2] w (Parts w 2) := by
  go_enter Tryd.func31, Tryd.ntmps31
  go_wp2_with (first | (go_at_call 56; refine (make_56 _).mono ?_; rintro e w1 ⟨rfl, hb1⟩) | (go_at_call 59; refine (make_59 _).mono ?_; rintro e w2 ⟨rfl, hb2⟩) | (go_at_call 57; refine (make_57 _ _ _ _ _).mono ?_; rintro e w3 ⟨rfl, hb3, hc3, hz3⟩) | (go_at_call 58; refine (make_58 _ _ _ _).mono ?_; rintro e w4 ⟨rfl, hb4, hc4, hz4⟩))
  go_ret
  refine ⟨_, 0, [⟨⟨0, 5, false, .d⟩, 75, 76, #[], #[]⟩, ⟨⟨5, 5, false, .n⟩, 81, 82, #[], #[]⟩, ⟨⟨10, 12, false, (.imm 1)⟩, 77, 78, #[ptr w2.heap.size], #[ptr w2.heap.size]⟩, ⟨⟨22, 1, false, (.amt 12)⟩, 79, 80, #[ptr w3.heap.size], #[ptr w3.heap.size]⟩], rfl, ⟨.inr ⟨w4.heap.size, 4, rfl, Nat.le_trans (Nat.le_refl _) (bt2 hb1 (bt2 hb2 (bt2 hb3 (hb4)))).size, by simp, lay_new w4 _ _ rfl⟩, ?_⟩, rfl, (bt2 hb1 (bt2 hb2 (bt2 hb3 (bt2 hb4 (balloc w4 _))))), (fun h => absurd h (by decide)), ?_⟩
  all_goals
    intro p hp
    simp only [List.mem_cons, List.not_mem_nil, or_false] at hp
    rcases hp with rfl | rfl | rfl | rfl
  · exact ⟨rfl, rfl, rfl, rfl⟩
  · exact ⟨rfl, rfl, rfl, rfl⟩
  · exact ⟨rfl, rfl, _, rfl, rfl, cell_later (bt2 hb4 (balloc w4 _)) hc3⟩
  · exact ⟨rfl, rfl, _, rfl, rfl, cell_later (balloc w4 _) hc4⟩
  · exact new_none _ _ _ _ _ _
  · exact new_none _ _ _ _ _ _
  · exact new_one _ _ _ _ _ _ _ ((bt2 hb1 (hb2)).size)
  · exact new_one _ _ _ _ _ _ _ ((bt2 hb1 (bt2 hb2 (hb3))).size)

set_option maxHeartbeats 1000000 in
theorem parts_4 (w : World) : Calls Tryd.prog 31 #[.int .i64 4] w (Parts w 4) := by
  go_enter Tryd.func31, Tryd.ntmps31
  go_wp2_with (first | (go_at_call 56; refine (make_56 _).mono ?_; rintro e w1 ⟨rfl, hb1⟩) | (go_at_call 59; refine (make_59 _).mono ?_; rintro e w2 ⟨rfl, hb2⟩) | (go_at_call 61; refine (make_61 _).mono ?_; rintro e w3 ⟨rfl, hb3⟩) | (go_at_call 58; refine (make_58 _ _ _ _).mono ?_; rintro e w4 ⟨rfl, hb4, hc4, hz4⟩) | (go_at_call 62; refine (make_62 _).mono ?_; rintro e w5 ⟨rfl, hb5⟩))
  go_ret
  refine ⟨_, 0, [⟨⟨0, 5, false, .d⟩, 75, 76, #[], #[]⟩, ⟨⟨5, 5, false, .n⟩, 81, 82, #[], #[]⟩, ⟨⟨16, 5, false, .m⟩, 89, 90, #[], #[]⟩, ⟨⟨10, 6, false, (.amt 1)⟩, 79, 80, #[ptr w3.heap.size], #[ptr w3.heap.size]⟩, ⟨⟨22, 2, false, .shift⟩, 91, 92, #[], #[]⟩], rfl, ⟨.inr ⟨w5.heap.size, 5, rfl, Nat.le_trans (Nat.le_refl _) (bt2 hb1 (bt2 hb2 (bt2 hb3 (bt2 hb4 (hb5))))).size, by simp, lay_new w5 _ _ rfl⟩, ?_⟩, rfl, (bt2 hb1 (bt2 hb2 (bt2 hb3 (bt2 hb4 (bt2 hb5 (balloc w5 _)))))), (fun h => absurd h (by decide)), ?_⟩
  all_goals
    intro p hp
    simp only [List.mem_cons, List.not_mem_nil, or_false] at hp
    rcases hp with rfl | rfl | rfl | rfl | rfl
  · exact ⟨rfl, rfl, rfl, rfl⟩
  · exact ⟨rfl, rfl, rfl, rfl⟩
  · exact ⟨rfl, rfl, rfl, rfl⟩
  · exact ⟨rfl, rfl, _, rfl, rfl, cell_later (bt2 hb5 (balloc w5 _)) hc4⟩
  · exact ⟨rfl, rfl, rfl, rfl⟩
  · exact new_none _ _ _ _ _ _
  · exact new_none _ _ _ _ _ _
  · exact new_none _ _ _ _ _ _
  · exact new_one _ _ _ _ _ _ _ ((bt2 hb1 (bt2 hb2 (hb3))).size)
  · exact new_none _ _ _ _ _ _

set_option maxHeartbeats 1000000 in
theorem parts_5 (w : World) : Calls Tryd.prog 31 #[.int .i64 5] w (Parts w 5) := by
  go_enter Tryd.func31, Tryd.ntmps31
  go_wp2_with (first | (go_at_call 56; refine (make_56 _).mono ?_; rintro e w1 ⟨rfl, hb1⟩) | (go_at_call 59; refine (make_59 _).mono ?_; rintro e w2 ⟨rfl, hb2⟩) | (go_at_call 61; refine (make_61 _).mono ?_; rintro e w3 ⟨rfl, hb3⟩) | (go_at_call 58; refine (make_58 _ _ _ _).mono ?_; rintro e w4 ⟨rfl, hb4, hc4, hz4⟩) | (go_at_call 62; refine (make_62 _).mono ?_; rintro e w5 ⟨rfl, hb5⟩))
  go_ret
  refine ⟨_, 0, [⟨⟨0, 5, false, .d⟩, 75, 76, #[], #[]⟩, ⟨⟨5, 5, false, .n⟩, 81, 82, #[], #[]⟩, ⟨⟨16, 5, false, .m⟩, 89, 90, #[], #[]⟩, ⟨⟨10, 6, false, (.amt 1)⟩, 79, 80, #[ptr w3.heap.size], #[ptr w3.heap.size]⟩, ⟨⟨22, 2, false, .shift⟩, 91, 92, #[], #[]⟩], rfl, ⟨.inr ⟨w5.heap.size, 5, rfl, Nat.le_trans (Nat.le_refl _) (bt2 hb1 (bt2 hb2 (bt2 hb3 (bt2 hb4 (hb5))))).size, by simp, lay_new w5 _ _ rfl⟩, ?_⟩, rfl, (bt2 hb1 (bt2 hb2 (bt2 hb3 (bt2 hb4 (bt2 hb5 (balloc w5 _)))))), (fun h => absurd h (by decide)), ?_⟩
  all_goals
    intro p hp
    simp only [List.mem_cons, List.not_mem_nil, or_false] at hp
    rcases hp with rfl | rfl | rfl | rfl | rfl
  · exact ⟨rfl, rfl, rfl, rfl⟩
  · exact ⟨rfl, rfl, rfl, rfl⟩
  · exact ⟨rfl, rfl, rfl, rfl⟩
  · exact ⟨rfl, rfl, _, rfl, rfl, cell_later (bt2 hb5 (balloc w5 _)) hc4⟩
  · exact ⟨rfl, rfl, rfl, rfl⟩
  · exact new_none _ _ _ _ _ _
  · exact new_none _ _ _ _ _ _
  · exact new_none _ _ _ _ _ _
  · exact new_one _ _ _ _ _ _ _ ((bt2 hb1 (bt2 hb2 (hb3))).size)
  · exact new_none _ _ _ _ _ _

set_option maxHeartbeats 1000000 in
theorem parts_6 (w : World) : Calls Tryd.prog 31 #[.int .i64 6] w (Parts w 6) := by
  go_enter Tryd.func31, Tryd.ntmps31
  go_wp2_with (first | (go_at_call 56; refine (make_56 _).mono ?_; rintro e w1 ⟨rfl, hb1⟩) | (go_at_call 59; refine (make_59 _).mono ?_; rintro e w2 ⟨rfl, hb2⟩) | (go_at_call 61; refine (make_61 _).mono ?_; rintro e w3 ⟨rfl, hb3⟩) | (go_at_call 63; refine (make_63 _).mono ?_; rintro e w4 ⟨rfl, hb4⟩))
  go_ret
  refine ⟨_, 0, [⟨⟨0, 5, false, .d⟩, 75, 76, #[], #[]⟩, ⟨⟨5, 5, false, .n⟩, 81, 82, #[], #[]⟩, ⟨⟨16, 5, false, .m⟩, 89, 90, #[], #[]⟩, ⟨⟨10, 5, false, .a⟩, 93, 94, #[], #[]⟩], rfl, ⟨.inr ⟨w4.heap.size, 4, rfl, Nat.le_trans (Nat.le_refl _) (bt2 hb1 (bt2 hb2 (bt2 hb3 (hb4)))).size, by simp, lay_new w4 _ _ rfl⟩, ?_⟩, rfl, (bt2 hb1 (bt2 hb2 (bt2 hb3 (bt2 hb4 (balloc w4 _))))), (fun h => absurd h (by decide)), ?_⟩
  all_goals
    intro p hp
    simp only [List.mem_cons, List.not_mem_nil, or_false] at hp
    rcases hp with rfl | rfl | rfl | rfl
  · exact ⟨rfl, rfl, rfl, rfl⟩
  · exact ⟨rfl, rfl, rfl, rfl⟩
  · exact ⟨rfl, rfl, rfl, rfl⟩
  · exact ⟨rfl, rfl, rfl, rfl⟩
  · exact new_none _ _ _ _ _ _
  · exact new_none _ _ _ _ _ _
  · exact new_none _ _ _ _ _ _
  · exact new_none _ _ _ _ _ _

set_option maxHeartbeats 1000000 in
theorem parts_7 (w : World) : Calls Tryd.prog 31 #[.int .i64 7] w (Parts w 7) := by
  go_enter Tryd.func31, Tryd.ntmps31
  go_wp2_with (first | (go_at_call 56; refine (make_56 _).mono ?_; rintro e w1 ⟨rfl, hb1⟩) | (go_at_call 59; refine (make_59 _).mono ?_; rintro e w2 ⟨rfl, hb2⟩) | (go_at_call 57; refine (make_57 _ _ _ _ _).mono ?_; rintro e w3 ⟨rfl, hb3, hc3, hz3⟩))
  go_ret
  refine ⟨_, 0, [⟨⟨0, 5, false, .d⟩, 75, 76, #[], #[]⟩, ⟨⟨5, 5, false, .n⟩, 81, 82, #[], #[]⟩, ⟨⟨10, 12, false, (.imm 8)⟩, 77, 78, #[ptr w2.heap.size], #[ptr w2.heap.size]⟩], rfl, ⟨.inr ⟨w3.heap.size, 3, rfl, Nat.le_trans (Nat.le_refl _) (bt2 hb1 (bt2 hb2 (hb3))).size, by simp, lay_new w3 _ _ rfl⟩, ?_⟩, rfl, (bt2 hb1 (bt2 hb2 (bt2 hb3 (balloc w3 _)))), (fun h => absurd h (by decide)), ?_⟩
  all_goals
    intro p hp
    simp only [List.mem_cons, List.not_mem_nil, or_false] at hp
    rcases hp with rfl | rfl | rfl
  · exact ⟨rfl, rfl, rfl, rfl⟩
  · exact ⟨rfl, rfl, rfl, rfl⟩
  · exact ⟨rfl, rfl, _, rfl, rfl, cell_later (balloc w3 _) hc3⟩
  · exact new_none _ _ _ _ _ _
  · exact new_none _ _ _ _ _ _
  · exact new_one _ _ _ _ _ _ _ ((bt2 hb1 (hb2)).size)

set_option maxHeartbeats 1000000 in
theorem parts_8 (w : World) : Calls Tryd.prog 31 #[.int .i64 8] w (Parts w 8) := by
  go_enter Tryd.func31, Tryd.ntmps31
  go_wp2_with (first | (go_at_call 56; refine (make_56 _).mono ?_; rintro e w1 ⟨rfl, hb1⟩) | (go_at_call 59; refine (make_59 _).mono ?_; rintro e w2 ⟨rfl, hb2⟩) | (go_at_call 57; refine (make_57 _ _ _ _ _).mono ?_; rintro e w3 ⟨rfl, hb3, hc3, hz3⟩))
  go_ret
  refine ⟨_, 0, [⟨⟨0, 5, false, .d⟩, 75, 76, #[], #[]⟩, ⟨⟨5, 5, false, .n⟩, 81, 82, #[], #[]⟩, ⟨⟨10, 12, false, (.imm 1)⟩, 77, 78, #[ptr w2.heap.size], #[ptr w2.heap.size]⟩], rfl, ⟨.inr ⟨w3.heap.size, 3, rfl, Nat.le_trans (Nat.le_refl _) (bt2 hb1 (bt2 hb2 (hb3))).size, by simp, lay_new w3 _ _ rfl⟩, ?_⟩, rfl, (bt2 hb1 (bt2 hb2 (bt2 hb3 (balloc w3 _)))), (fun h => absurd h (by decide)), ?_⟩
  all_goals
    intro p hp
    simp only [List.mem_cons, List.not_mem_nil, or_false] at hp
    rcases hp with rfl | rfl | rfl
  · exact ⟨rfl, rfl, rfl, rfl⟩
  · exact ⟨rfl, rfl, rfl, rfl⟩
  · exact ⟨rfl, rfl, _, rfl, rfl, cell_later (balloc w3 _) hc3⟩
  · exact new_none _ _ _ _ _ _
  · exact new_none _ _ _ _ _ _
  · exact new_one _ _ _ _ _ _ _ ((bt2 hb1 (hb2)).size)

set_option maxHeartbeats 1000000 in
theorem parts_9 (w : World) : Calls Tryd.prog 31 #[.int .i64 9] w (Parts w 9) := by
  go_enter Tryd.func31, Tryd.ntmps31
  go_wp2_with (first | (go_at_call 56; refine (make_56 _).mono ?_; rintro e w1 ⟨rfl, hb1⟩) | (go_at_call 57; refine (make_57 _ _ _ _ _).mono ?_; rintro e w2 ⟨rfl, hb2, hc2, hz2⟩))
  go_ret
  refine ⟨_, 0, [⟨⟨0, 5, false, .d⟩, 75, 76, #[], #[]⟩, ⟨⟨5, 19, true, (.imm 4)⟩, 77, 78, #[ptr w1.heap.size], #[ptr w1.heap.size]⟩], rfl, ⟨.inr ⟨w2.heap.size, 2, rfl, Nat.le_trans (Nat.le_refl _) (bt2 hb1 (hb2)).size, by simp, lay_new w2 _ _ rfl⟩, ?_⟩, rfl, (bt2 hb1 (bt2 hb2 (balloc w2 _))), (fun h => absurd h (by decide)), ?_⟩
  all_goals
    intro p hp
    simp only [List.mem_cons, List.not_mem_nil, or_false] at hp
    rcases hp with rfl | rfl
  · exact ⟨rfl, rfl, rfl, rfl⟩
  · exact ⟨rfl, rfl, _, rfl, rfl, cell_later (balloc w2 _) hc2⟩
  · exact new_none _ _ _ _ _ _
  · exact new_one _ _ _ _ _ _ _ ((hb1).size)

set_option maxHeartbeats 1000000 in
theorem parts_11 (w : World) : Calls Tryd.prog 31 #[.int .i64 11] w (Parts w 11) := by
  go_enter Tryd.func31, Tryd.ntmps31
  go_wp2_with (first | (go_at_call 57; refine (make_57 _ _ _ _ _).mono ?_; rintro e w1 ⟨rfl, hb1, hc1, hz1⟩))
  go_ret
  refine ⟨_, 0, [⟨⟨0, 26, true, (.imm 4)⟩, 77, 78, #[ptr w.heap.size], #[ptr w.heap.size]⟩], rfl, ⟨.inr ⟨w1.heap.size, 1, rfl, Nat.le_trans (Nat.le_refl _) (hb1).size, by simp, lay_new w1 _ _ rfl⟩, ?_⟩, rfl, (bt2 hb1 (balloc w1 _)), (fun h => absurd h (by decide)), ?_⟩
  all_goals
    intro p hp
    simp only [List.mem_cons, List.not_mem_nil, or_false] at hp
    subst hp
  · exact ⟨rfl, rfl, _, rfl, rfl, cell_later (balloc w1 _) hc1⟩
  · exact new_one _ _ _ _ _ _ _ (Nat.le_refl _)

set_option maxHeartbeats 1000000 in
theorem parts_12 (w : World) : Calls Tryd.prog 31 #[.int .i64 12] w (Parts w 12) := by
  go_enter Tryd.func31, Tryd.ntmps31
  go_wp2_with (first | (go_at_call 65; refine (make_65 _ _).mono ?_; rintro e w1 ⟨rfl, hb1⟩) | (go_at_call 57; refine (make_57 _ _ _ _ _).mono ?_; rintro e w2 ⟨rfl, hb2, hc2, hz2⟩))
  go_ret
  refine ⟨_, 0, [⟨⟨0, 4, false, .cond⟩, 99, 100, #[], #[]⟩, ⟨⟨5, 19, true, (.imm 4)⟩, 77, 78, #[ptr w1.heap.size], #[ptr w1.heap.size]⟩], rfl, ⟨.inr ⟨w2.heap.size, 2, rfl, Nat.le_trans (Nat.le_refl _) (bt2 hb1 (hb2)).size, by simp, lay_new w2 _ _ rfl⟩, ?_⟩, rfl, (bt2 hb1 (bt2 hb2 (balloc w2 _))), (fun h => absurd h (by decide)), ?_⟩
  all_goals
    intro p hp
    simp only [List.mem_cons, List.not_mem_nil, or_false] at hp
    rcases hp with rfl | rfl
  · exact ⟨rfl, rfl, rfl, rfl⟩
  · exact ⟨rfl, rfl, _, rfl, rfl, cell_later (balloc w2 _) hc2⟩
  · exact new_none _ _ _ _ _ _
  · exact new_one _ _ _ _ _ _ _ ((hb1).size)

set_option maxHeartbeats 1000000 in
theorem parts_13 (w : World) : Calls Tryd.prog 31 #[.int .i64 13] w (Parts w 13) := by
  go_enter Tryd.func31, Tryd.ntmps31
  go_wp2_with (first | (go_at_call 59; refine (make_59 _).mono ?_; rintro e w1 ⟨rfl, hb1⟩))
  go_ret
  refine ⟨_, 0, [⟨⟨5, 5, false, .n⟩, 81, 82, #[], #[]⟩], rfl, ⟨.inr ⟨w1.heap.size, 1, rfl, Nat.le_trans (Nat.le_refl _) (hb1).size, by simp, lay_new w1 _ _ rfl⟩, ?_⟩, rfl, (bt2 hb1 (balloc w1 _)), (fun h => absurd h (by decide)), ?_⟩
  all_goals
    intro p hp
    simp only [List.mem_cons, List.not_mem_nil, or_false] at hp
    subst hp
  · exact ⟨rfl, rfl, rfl, rfl⟩
  · exact new_none _ _ _ _ _ _

set_option maxHeartbeats 1000000 in
theorem parts_14 (w : World) : Calls Tryd.prog 31 #[.int .i64 14] w (Parts w 14) := by
  go_enter Tryd.func31, Tryd.ntmps31
  go_wp2_with (first | (go_at_call 57; refine (make_57 _ _ _ _ _).mono ?_; rintro e w1 ⟨rfl, hb1, hc1, hz1⟩))
  go_ret
  refine ⟨_, 0, [⟨⟨5, 16, false, (.imm 1)⟩, 77, 78, #[ptr w.heap.size], #[ptr w.heap.size]⟩], rfl, ⟨.inr ⟨w1.heap.size, 1, rfl, Nat.le_trans (Nat.le_refl _) (hb1).size, by simp, lay_new w1 _ _ rfl⟩, ?_⟩, rfl, (bt2 hb1 (balloc w1 _)), (fun h => absurd h (by decide)), ?_⟩
  all_goals
    intro p hp
    simp only [List.mem_cons, List.not_mem_nil, or_false] at hp
    subst hp
  · exact ⟨rfl, rfl, _, rfl, rfl, cell_later (balloc w1 _) hc1⟩
  · exact new_one _ _ _ _ _ _ _ (Nat.le_refl _)

set_option maxHeartbeats 1000000 in
theorem parts_16 (w : World) : Calls Tryd.prog 31 #[.int .i64 16] w (Parts w 16) := by
  go_enter Tryd.func31, Tryd.ntmps31
  go_wp2_with (first | (go_at_call 56; refine (make_56 _).mono ?_; rintro e w1 ⟨rfl, hb1⟩) | (go_at_call 59; refine (make_59 _).mono ?_; rintro e w2 ⟨rfl, hb2⟩) | (go_at_call 61; refine (make_61 _).mono ?_; rintro e w3 ⟨rfl, hb3⟩) | (go_at_call 65; refine (make_65 _ _).mono ?_; rintro e w4 ⟨rfl, hb4⟩))
  go_ret
  refine ⟨_, 0, [⟨⟨0, 5, false, .d⟩, 75, 76, #[], #[]⟩, ⟨⟨5, 5, false, .n⟩, 81, 82, #[], #[]⟩, ⟨⟨16, 5, false, .m⟩, 89, 90, #[], #[]⟩, ⟨⟨12, 4, false, .cond⟩, 99, 100, #[], #[]⟩], rfl, ⟨.inr ⟨w4.heap.size, 4, rfl, Nat.le_trans (Nat.le_refl _) (bt2 hb1 (bt2 hb2 (bt2 hb3 (hb4)))).size, by simp, lay_new w4 _ _ rfl⟩, ?_⟩, rfl, (bt2 hb1 (bt2 hb2 (bt2 hb3 (bt2 hb4 (balloc w4 _))))), (fun h => absurd h (by decide)), ?_⟩
  all_goals
    intro p hp
    simp only [List.mem_cons, List.not_mem_nil, or_false] at hp
    rcases hp with rfl | rfl | rfl | rfl
  · exact ⟨rfl, rfl, rfl, rfl⟩
  · exact ⟨rfl, rfl, rfl, rfl⟩
  · exact ⟨rfl, rfl, rfl, rfl⟩
  · exact ⟨rfl, rfl, rfl, rfl⟩
  · exact new_none _ _ _ _ _ _
  · exact new_none _ _ _ _ _ _
  · exact new_none _ _ _ _ _ _
  · exact new_none _ _ _ _ _ _
end Go.Proofs.YtdjdbgilimjagaaDoor
