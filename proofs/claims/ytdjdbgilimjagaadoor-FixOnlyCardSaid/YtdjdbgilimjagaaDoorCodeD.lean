/- Layer 5 of the program, walked: the parts of the two shapes that append, and of every shape. No condition. -/
import Derived.Test.YtdjdbgilimjagaaDoorCodeC
set_option linter.unusedVariables false
set_option linter.unusedSimpArgs false
namespace Go.Proofs.YtdjdbgilimjagaaDoor
open Go.RowKit
set_option maxRecDepth 100000

theorem Tryd.info64 : (Tryd.prog.info? 64).map (fun i => (i.zero, i.size, i.bytes)) = some (some (.agg #[.int .i64 0, .int .i64 0, .nilFunc, .nilFunc, .bool false]), 5, 40) := by kernel_rfl

theorem make_83 (k : Int) (w : World) : Calls Tryd.prog 83 #[.int .i64 k] w fun e w' => e = .returned (.func (Fn.func 84) #[] #[ptr w.heap.size]) ∧ Below w.heap.size w w' ∧ w'.cell? ⟨w.heap.size, 0, none⟩ = some (.int .i64 k) ∧ w.heap.size < w'.heap.size := by
  have hmf := mkf
  go_enter Tryd.func83, Tryd.ntmps83
  go_wp2
  go_ret
  exact ⟨rfl, balloc w _, by simp [go_sem], by simp⟩
theorem make_86 (k : Int) (bt : Nat) (w : World) : Calls Tryd.prog 86 #[.int .i64 k, .pointer (some ⟨bt, 0, none⟩)] w fun e w' => e = .returned (.func (Fn.func 87) #[] #[ptr bt, ptr w.heap.size]) ∧ Below w.heap.size w w' ∧ w'.cell? ⟨w.heap.size, 0, none⟩ = some (.int .i64 k) ∧ w.heap.size < w'.heap.size := by
  have hmf := mkf
  go_enter Tryd.func86, Tryd.ntmps86
  go_wp2
  go_ret
  exact ⟨rfl, balloc w _, by simp [go_sem], by simp⟩

def mkPD (bt k p1 p2 : Nat) (pos n : Int) : PD := ⟨⟨pos, n, false, .mk k⟩, 84, 87, #[ptr p1], #[ptr bt, ptr p2]⟩
def Masked (w : World) (e : Ending) (w' : World) : Prop :=
  ∃ b p0 q0 p1 q1 p2 q2, e = .returned (.slice (some ⟨b, 0, none⟩) 3 3) ∧ Below w.heap.size w w' ∧ w.heap.size < b ∧ (p0 < b ∧ q0 < b ∧ p1 < b ∧ q1 < b ∧ p2 < b ∧ q2 < b) ∧ (w.heap.size < q0 ∧ w.heap.size < q1 ∧ w.heap.size < q2) ∧
    w'.heap[w.heap.size]? = some (.cells #[.int .i64 0, .int .i64 0, .int .i64 0] 119) ∧
    w'.heap[b]? = some (.cells (([mkPD w.heap.size 0 p0 q0 22 1, mkPD w.heap.size 1 p1 q1 16 6, mkPD w.heap.size 2 p2 q2 10 6]).flatMap PD.cells).toArray 64) ∧
    ∀ p, p ∈ [mkPD w.heap.size 0 p0 q0 22 1, mkPD w.heap.size 1 p1 q1 16 6, mkPD w.heap.size 2 p2 q2 10 6] → p.ok w' w.heap.size
set_option maxHeartbeats 1000000 in
theorem make_60 (w : World) : Calls Tryd.prog 60 #[] w (Masked w) := by
  have hmf := mkf
  go_enter Tryd.func60, Tryd.ntmps60
  go_wp2_with fail
  refine (make_83 _ _).mono ?_
  rintro e w1 ⟨rfl, hb1, hc1, hz1⟩
  go_wp2_with fail
  refine (make_86 _ _ _).mono ?_
  rintro e w2 ⟨rfl, hb2, hc2, hz2⟩
  go_wp2_with fail
  refine (make_83 _ _).mono ?_
  rintro e w3 ⟨rfl, hb3, hc3, hz3⟩
  go_wp2_with fail
  refine (make_86 _ _ _).mono ?_
  rintro e w4 ⟨rfl, hb4, hc4, hz4⟩
  go_wp2_with fail
  refine (make_83 _ _).mono ?_
  rintro e w5 ⟨rfl, hb5, hc5, hz5⟩
  go_wp2_with fail
  refine (make_86 _ _ _).mono ?_
  rintro e w6 ⟨rfl, hb6, hc6, hz6⟩
  go_wp2_with fail
  go_ret
  have hcl := fun C => bt2 hb1 (bt2 hb2 (bt2 hb3 (bt2 hb4 (bt2 hb5 (bt2 hb6 (balloc w6 C))))))
  have hle : w.heap.size + 1 ≤ w1.heap.size ∧ w1.heap.size ≤ w2.heap.size ∧ w2.heap.size ≤ w3.heap.size ∧ w3.heap.size ≤ w4.heap.size ∧ w4.heap.size ≤ w5.heap.size := by
    have := hb1.size
    simp at this
    exact ⟨this, hb2.size, hb3.size, hb4.size, hb5.size⟩
  have hz1' : w.heap.size + 1 < w1.heap.size := by simpa using hz1
  refine ⟨w6.heap.size, w.heap.size + 1, w1.heap.size, w2.heap.size, w3.heap.size, w4.heap.size, w5.heap.size, rfl, bt2 (balloc w _) (hcl _), by omega, by omega, by omega, ?_, heap_at _ _ _ rfl, ?_⟩
  · rw [(hcl _).block w.heap.size (by simp)]
    exact heap_alloc_new w _
  · intro p hp
    simp only [List.mem_cons, List.not_mem_nil, or_false] at hp
    rcases hp with rfl | rfl | rfl
    · refine ⟨rfl, rfl, _, _, rfl, rfl, ?_, cell_later (bt2 hb3 (bt2 hb4 (bt2 hb5 (bt2 hb6 (balloc w6 _))))) hc2⟩
      have h := cell_later (bt2 hb2 (bt2 hb3 (bt2 hb4 (bt2 hb5 (bt2 hb6 (balloc w6 (.cells (([mkPD w.heap.size 0 (w.heap.size + 1) w1.heap.size 22 1, mkPD w.heap.size 1 w2.heap.size w3.heap.size 16 6, mkPD w.heap.size 2 w4.heap.size w5.heap.size 10 6]).flatMap PD.cells).toArray 64))))))) hc1
      rw [World.size_alloc] at h
      exact h
    · exact ⟨rfl, rfl, _, _, rfl, rfl, cell_later (bt2 hb4 (bt2 hb5 (bt2 hb6 (balloc w6 _)))) hc3, cell_later (bt2 hb5 (bt2 hb6 (balloc w6 _))) hc4⟩
    · exact ⟨rfl, rfl, _, _, rfl, rfl, cell_later (bt2 hb6 (balloc w6 _)) hc5, cell_later (balloc w6 _) hc6⟩

theorem parts_row {w : World} {base bt : Nat} {v : Value} {L : List PD} {n : Nat} (h : w.ownsRow base 64 5 v n (L.flatMap PD.cells)) (hn : n = L.length) (hne : n ≠ 0) (hok : ∀ p, p ∈ L → p.ok w bt) : PartsAt w base bt v L := by
  refine ⟨.inr ?_, hok⟩
  obtain ⟨hlen, h | ⟨g, cap, cur, rfl, hb, hg, hc1, hc2, hcs, ht⟩⟩ := h
  · exact absurd h.2 hne
  · refine ⟨g, cap, by rw [hn], hb, ?_, ?_⟩
    · by_cases hlt : g < w.heap.size
      · exact hlt
      · rw [Array.getElem?_eq_none (by omega)] at hg; cases hg
    · intro k u hk
      rw [cell_of_row _ _ k cur 64 (0, 0) hg]
      rw [← ht, List.getElem?_take] at hk
      split at hk
      · rw [← hk, Array.getElem?_toList]
      · cases hk
theorem SelOK.later {w w' : World} {bt g h : Nat} {cg ch : Array Value} {s : Sel} (hb : Below w.heap.size w w') (hs : SelOK w bt g h cg ch s) : SelOK w' bt g h cg ch s := by
  cases s with
  | imm v => obtain ⟨h1, h2, pb, h3, h4, h5⟩ := hs; exact ⟨h1, h2, pb, h3, h4, cell_later hb h5⟩
  | amt v => obtain ⟨h1, h2, pb, h3, h4, h5⟩ := hs; exact ⟨h1, h2, pb, h3, h4, cell_later hb h5⟩
  | mk v => obtain ⟨h1, h2, p1, p2, h3, h4, h5, h6⟩ := hs; exact ⟨h1, h2, p1, p2, h3, h4, cell_later hb h5, cell_later hb h6⟩
  | _ => exact hs
theorem PD.ok.later {w w' : World} {bt : Nat} {p : PD} (hb : Below w.heap.size w w') (hs : p.ok w bt) : p.ok w' bt := SelOK.later hb hs

set_option maxHeartbeats 1000000 in
theorem parts_10 (w : World) : Calls Tryd.prog 31 #[.int .i64 10] w (Parts w 10) := by
  obtain ⟨i0, hi, hz0, hz1, hz2⟩ := info_parts Tryd.info64
  go_enter Tryd.func31, Tryd.ntmps31
  go_wp2_with fail
  refine (make_64 _).mono ?_
  rintro e w1 ⟨b, rfl, hb1, hle1, hrow1⟩
  go_wp2_with fail
  refine (make_56 _).mono ?_
  rintro e w2 ⟨rfl, hb2⟩
  have hblk : w2.heap[b]? = w1.heap[b]? := hb2.block b (by
    by_cases hlt : b < w1.heap.size
    · exact hlt
    · rw [Array.getElem?_eq_none (by omega)] at hrow1; cases hrow1)
  have hown2 : w2.ownsRow w.heap.size 64 5 (.slice (some ⟨b, 0, none⟩) 2 2) 2 (partV 29 2 95 96 #[] #[] false ++ partV 5 19 97 98 #[] #[] true) :=
    ⟨rfl, .inr ⟨b, 2, _, rfl, hle1, hblk.trans hrow1, by decide, by unfold maxLen; decide, rfl, rfl⟩⟩
  have hsz2 : w.heap.size ≤ w2.heap.size := Nat.le_trans hb1.size hb2.size
  clear hblk hrow1
  go_wp2_with (at_builtin; refine wpList_append_own _ rfl _ _ 59 rfl w.heap.size 64 i0 _ 5 40 Tryd.underlying59 hi hz0 hz1 hz2 rfl (by decide) _ _ _ rfl (hown2.alloc _) ⟨w2.heap.size, 0, none⟩ 1 1 (partV 0 5 75 76 #[] #[] false) rfl rfl ?c1 ?c2 ?c3 ?c4 ?c5 ?_)
  case c1 =>
    intro j u hu
    have := cell_of_row (w2.alloc (.cells (partV 0 5 75 76 #[] #[] false).toArray 64)) w2.heap.size j _ 64 (0, 0) (heap_alloc_new _ _)
    rw [List.getElem?_toArray] at this
    have ha : (⟨w2.heap.size, 0, none⟩ : Addr).add j = ⟨w2.heap.size, j, none⟩ := by unfold Addr.add; split <;> simp_all
    rw [ha]
    exact this.trans hu
  case c2 =>
    intro u hu
    simp only [partV, List.mem_cons, List.not_mem_nil, or_false] at hu
    rcases hu with rfl | rfl | rfl | rfl | rfl <;> rfl
  case c3 => unfold maxLen; omega
  case c4 => omega
  case c5 => simp; omega
  intro v' w3 hown3 hgrow _
  go_wp2
  go_ret
  have hbg := (bt2 hb1 (bt2 hb2 (balloc w2 (.cells (partV 0 5 75 76 #[] #[] false).toArray 64)))).grown hgrow (by simp; omega) (fun k e => by cases e; exact hle1)
  refine ⟨_, 0, [⟨⟨29, 2, false, .low⟩, 95, 96, #[], #[]⟩, ⟨⟨5, 19, true, .high⟩, 97, 98, #[], #[]⟩, ⟨⟨0, 5, false, .d⟩, 75, 76, #[], #[]⟩], rfl, parts_row hown3 rfl (by decide) ?_, rfl, hbg, (fun h => absurd h (by decide)), ?_⟩
  all_goals
    intro p hp
    simp only [List.mem_cons, List.not_mem_nil, or_false] at hp
    rcases hp with rfl | rfl | rfl
  · exact ⟨rfl, rfl, rfl, rfl⟩
  · exact ⟨rfl, rfl, rfl, rfl⟩
  · exact ⟨rfl, rfl, rfl, rfl⟩
  · exact new_none _ _ _ _ _ _
  · exact new_none _ _ _ _ _ _
  · exact new_none _ _ _ _ _ _

theorem SelOK_grown {w w' : World} {bt g h b : Nat} {cg ch : Array Value} {k : Int} {p1 p2 : Nat} (hgr : w.grownBy w' (some b)) (h1 : p1 < w.heap.size) (h2 : p2 < w.heap.size) (n1 : p1 ≠ b) (n2 : p2 ≠ b)
    (hg : g = 84) (hh : h = 87) (hcg : cg = #[ptr p1]) (hch : ch = #[ptr bt, ptr p2]) (c1 : w.cell? ⟨p1, 0, none⟩ = some (.int .i64 k)) (c2 : w.cell? ⟨p2, 0, none⟩ = some (.int .i64 k)) : SelOK w' bt g h cg ch (.mk k) :=
  ⟨hg, hh, p1, p2, hcg, hch, (World.cell?_of_block (a := ⟨p1, 0, none⟩) (hgr.block p1 h1 (fun e => n1 (by cases e; rfl)))).trans c1, (World.cell?_of_block (a := ⟨p2, 0, none⟩) (hgr.block p2 h2 (fun e => n2 (by cases e; rfl)))).trans c2⟩

set_option maxHeartbeats 1000000 in
theorem parts_3 (w : World) : Calls Tryd.prog 31 #[.int .i64 3] w (Parts w 3) := by
  obtain ⟨i0, hi, hz0, hz1, hz2⟩ := info_parts Tryd.info64
  go_enter Tryd.func31, Tryd.ntmps31
  go_wp2_with fail
  refine (make_60 _).mono ?_
  rintro e w1 ⟨b, p0, q0, p1, q1, p2, q2, rfl, hb1, hle1, hlt, hqs, htold, hrow1, hok⟩
  have HQS := Lib.hid hqs
  have HLT := Lib.hid hlt
  have HTOLD := Lib.hid htold
  have HOK := Lib.hid hok
  clear hlt htold hok hqs
  go_wp2_with fail
  refine (make_56 _).mono ?_
  rintro e w2 ⟨rfl, hb2⟩
  go_wp2_with fail
  refine (make_59 _).mono ?_
  rintro e w3 ⟨rfl, hb3⟩
  have hblt : b < w1.heap.size := by
    by_cases hlt : b < w1.heap.size
    · exact hlt
    · rw [Array.getElem?_eq_none (by omega)] at hrow1; cases hrow1
  have hblk : w3.heap[b]? = w1.heap[b]? := (bt2 hb2 hb3).block b hblt
  have hown2 : w3.ownsRow w.heap.size 64 5 (.slice (some ⟨b, 0, none⟩) 3 3) 3 (([mkPD w.heap.size 0 p0 q0 22 1, mkPD w.heap.size 1 p1 q1 16 6, mkPD w.heap.size 2 p2 q2 10 6]).flatMap PD.cells) :=
    ⟨rfl, .inr ⟨b, 3, _, rfl, Nat.le_of_lt hle1, hblk.trans hrow1, by decide, by unfold maxLen; decide, rfl, rfl⟩⟩
  have hsz2 : w.heap.size ≤ w3.heap.size := Nat.le_trans hb1.size (Nat.le_trans hb2.size hb3.size)
  clear hblk hrow1
  go_wp2_with (at_builtin; refine wpList_append_own _ rfl _ _ 59 rfl w.heap.size 64 i0 _ 5 40 Tryd.underlying59 hi hz0 hz1 hz2 rfl (by decide) _ _ _ rfl (hown2.alloc _) ⟨w3.heap.size, 0, none⟩ 2 2 (partV 0 5 75 76 #[] #[] false ++ partV 5 5 81 82 #[] #[] false) rfl rfl ?c1 ?c2 ?c3 ?c4 ?c5 ?_)
  case c1 =>
    intro j u hu
    have := cell_of_row (w3.alloc (.cells (partV 0 5 75 76 #[] #[] false ++ partV 5 5 81 82 #[] #[] false).toArray 64)) w3.heap.size j _ 64 (0, 0) (heap_alloc_new _ _)
    rw [List.getElem?_toArray] at this
    have ha : (⟨w3.heap.size, 0, none⟩ : Addr).add j = ⟨w3.heap.size, j, none⟩ := by unfold Addr.add; split <;> simp_all
    rw [ha]
    exact this.trans hu
  case c2 =>
    intro u hu
    simp only [partV, List.mem_cons, List.mem_append, List.not_mem_nil, or_false] at hu
    rcases hu with (rfl | rfl | rfl | rfl | rfl) | (rfl | rfl | rfl | rfl | rfl) <;> rfl
  case c3 => unfold maxLen; omega
  case c4 => omega
  case c5 => simp; omega
  intro v' w4 hown3 hgrow _
  go_wp2
  go_ret
  have hb3' := bt2 hb2 (bt2 hb3 (balloc w3 (.cells (partV 0 5 75 76 #[] #[] false ++ partV 5 5 81 82 #[] #[] false).toArray 64)))
  have hbg := (bt2 hb1 hb3').grown hgrow (by simp; omega) (fun k e => by cases e; exact Nat.le_of_lt hle1)
  have hs4 : w1.heap.size ≤ w3.heap.size + 1 := by have := hb3'.size; rw [World.size_alloc] at this; exact this
  obtain ⟨l1, l2, l3, l4, l5, l6⟩ := HLT.out
  have htold2 := (hgrow.block w.heap.size (by rw [World.size_alloc]; omega) (fun e => Nat.ne_of_lt hle1 (Option.some.inj e))).trans ((hb3'.block w.heap.size (by omega)).trans HTOLD.out)
  refine ⟨_, w.heap.size, [mkPD w.heap.size 0 p0 q0 22 1, mkPD w.heap.size 1 p1 q1 16 6, mkPD w.heap.size 2 p2 q2 10 6, ⟨⟨0, 5, false, .d⟩, 75, 76, #[], #[]⟩, ⟨⟨5, 5, false, .n⟩, 81, 82, #[], #[]⟩], rfl, parts_row hown3 rfl (by decide) ?_, rfl, hbg, (fun _ => ⟨Nat.le_refl _, htold2⟩), ?_⟩
  rotate_left
  · intro p hp
    simp only [List.mem_cons, List.not_mem_nil, or_false] at hp
    obtain ⟨l1, l2, l3⟩ := HQS.out
    rcases hp with rfl | rfl | rfl | rfl | rfl
    · exact new_two _ _ _ _ _ _ _ (by omega) (by omega)
    · exact new_two _ _ _ _ _ _ _ (by omega) (by omega)
    · exact new_two _ _ _ _ _ _ _ (by omega) (by omega)
    · exact new_none _ _ _ _ _ _
    · exact new_none _ _ _ _ _ _
  intro p hp
  simp only [List.mem_cons, List.not_mem_nil, or_false] at hp
  have ok0 := HOK.out (mkPD w.heap.size 0 p0 q0 22 1) (by simp)
  have ok1 := HOK.out (mkPD w.heap.size 1 p1 q1 16 6) (by simp)
  have ok2 := HOK.out (mkPD w.heap.size 2 p2 q2 10 6) (by simp)
  rcases hp with rfl | rfl | rfl | rfl | rfl
  · obtain ⟨_, _, x1, x2, e1, e2, k1, k2⟩ := ok0
    cases e1; cases e2
    exact SelOK_grown (b := b) hgrow (by rw [World.size_alloc]; omega) (by rw [World.size_alloc]; omega) (by omega) (by omega) rfl rfl rfl rfl (cell_later hb3' k1) (cell_later hb3' k2)
  · obtain ⟨_, _, x1, x2, e1, e2, k1, k2⟩ := ok1
    cases e1; cases e2
    exact SelOK_grown (b := b) hgrow (by rw [World.size_alloc]; omega) (by rw [World.size_alloc]; omega) (by omega) (by omega) rfl rfl rfl rfl (cell_later hb3' k1) (cell_later hb3' k2)
  · obtain ⟨_, _, x1, x2, e1, e2, k1, k2⟩ := ok2
    cases e1; cases e2
    exact SelOK_grown (b := b) hgrow (by rw [World.size_alloc]; omega) (by rw [World.size_alloc]; omega) (by omega) (by omega) rfl rfl rfl rfl (cell_later hb3' k1) (cell_later hb3' k2)
  · exact ⟨rfl, rfl, rfl, rfl⟩
  · exact ⟨rfl, rfl, rfl, rfl⟩

theorem parts_any (s : Int) (w : World) (h0 : 0 ≤ s) (h1 : s ≤ 16) : Calls Tryd.prog 31 #[.int .i64 s] w (Parts w s) := by
  rcases (show s = 0 ∨ s = 1 ∨ s = 2 ∨ s = 3 ∨ s = 4 ∨ s = 5 ∨ s = 6 ∨ s = 7 ∨ s = 8 ∨ s = 9 ∨ s = 10 ∨ s = 11 ∨ s = 12 ∨ s = 13 ∨ s = 14 ∨ s = 15 ∨ s = 16 from by omega) with rfl | rfl | rfl | rfl | rfl | rfl | rfl | rfl | rfl | rfl | rfl | rfl | rfl | rfl | rfl | rfl | rfl
  · exact parts_nil 0 w (.inl rfl)
  · exact parts_1 w
  · exact parts_2 w
  · exact parts_3 w
  · exact parts_4 w
  · exact parts_5 w
  · exact parts_6 w
  · exact parts_7 w
  · exact parts_8 w
  · exact parts_9 w
  · exact parts_10 w
  · exact parts_11 w
  · exact parts_12 w
  · exact parts_13 w
  · exact parts_14 w
  · exact parts_nil 15 w (.inr rfl)
  · exact parts_16 w
end Go.Proofs.YtdjdbgilimjagaaDoor
