/- Layer 5 of the program, walked: an instruction, encoded. The library's table lies as it is laid. -/
import Derived.Test.YtdjdbgilimjagaaDoorCodeH
set_option linter.unusedVariables false
set_option linter.unusedSimpArgs false
namespace Go.Proofs.YtdjdbgilimjagaaDoor
open Go.RowKit
set_option maxRecDepth 100000

set_option maxHeartbeats 400000 in
theorem enc_no (op d n m a imm shift amount cond : Int) (mask : Nat) (w : World) (hm : mask < 18446744073709551616) (HT : Hid (Tab w)) (h : Hid (isI op d n m a imm mask shift amount cond = false)) :
    Calls Tryd.prog 12 #[.agg #[.int .i64 op, .int .i64 d, .int .i64 n, .int .i64 m, .int .i64 a, .int .i64 imm, .int .u64 (mask : Int), .int .i64 shift, .int .i64 amount, .int .i64 cond]] w fun e w' => e = .returned (.tuple #[.int .u32 0, .int .i64 1]) ∧ Below w.heap.size w w' := by
  go_enter Tryd.func12, Tryd.ntmps12
  go_wp2_with (go_at_call 13; refine (is_any op d n m a imm shift amount cond mask _ hm (HT.out.below ((Below.refl _ _).alloc (Nat.le_refl _) _))).mono ?_; rw [h.out]; rintro e w1 ⟨rfl, hb1⟩)
  go_ret2
  exact ⟨rfl, bel_of_res hb1⟩

theorem ownsRow_below {w w' : World} {base e size : Nat} {v : Value} {n : Nat} {xs : List Value} (h : w.ownsRow base e size v n xs) (hb : Below w.heap.size w w') : w'.ownsRow base e size v n xs := by
  obtain ⟨hlen, h | ⟨g, cap, cur, rfl, hb0, hg, hr⟩⟩ := h
  · exact ⟨hlen, .inl h⟩
  · refine ⟨hlen, .inr ⟨g, cap, cur, rfl, hb0, ?_, hr⟩⟩
    have hlt : g < w.heap.size := by
      by_cases hlt : g < w.heap.size
      · exact hlt
      · rw [Array.getElem?_eq_none (by omega)] at hg; cases hg
    exact (hb.block g hlt).trans hg
theorem ownsRow_base {w : World} {base e size : Nat} {v : Value} {n : Nat} {xs : List Value} (h : w.ownsRow base e size v n xs) : ∀ g, (match v with | .slice (some a) _ _ => some a.block | _ => none) = some g → base ≤ g := by
  intro g e
  obtain ⟨_, h | ⟨g', cap', cur', h, hge, _⟩⟩ := h
  · obtain ⟨h1, h2⟩ := h
    first
      | (rw [h1] at e; cases e)
      | (rw [h2] at e; cases e)
  · rw [h] at e; cases e; exact hge
theorem field_at (op d n m a imm shift amount cond : Int) (mask : Nat) (p : PD) (F : FD) (bt : Nat) (w : World) (hok : p.ok w bt) (hm : mask < 18446744073709551616) (hT : Tab w)
    (hask : p.ps.sel.asks p.ps.sign imm amount mask ∧ p.ps.fits (valOf d n m a imm mask shift amount cond p.ps.sel)) (hF : F = p.ps.fd (valOf d n m a imm mask shift amount cond p.ps.sel)) :
    Calls Tryd.prog 34 #[.agg #[.int .i64 p.ps.pos, .int .i64 p.ps.n, .func (Fn.func p.g) #[] p.cg, .func (Fn.func p.h) #[] p.ch, .bool p.ps.sign], .agg #[.int .i64 op, .int .i64 d, .int .i64 n, .int .i64 m, .int .i64 a, .int .i64 imm, .int .u64 (mask : Int), .int .i64 shift, .int .i64 amount, .int .i64 cond]] w fun e w' => e = .returned (.agg #[.int .i64 F.pos, .int .i64 F.n, .int .u32 F.val]) ∧ Below w.heap.size w w' := by
  subst hF
  exact field_any op d n m a imm shift amount cond mask p bt w hok hm hT hask.1 hask.2

set_option maxHeartbeats 2000000 in
theorem enc_yes (op d n m a imm shift amount cond : Int) (mask : Nat) (w : World) (hm : mask < 18446744073709551616) (HT : Hid (Tab w)) (h : Hid (isI op d n m a imm mask shift amount cond = true))
    (HFit : Hid (Fits op d n m a imm mask shift amount cond)) (hlen : (fieldsOf op d n m a imm mask shift amount cond).length ≤ 1000) (hr : Hid (∀ f, f ∈ fieldsOf op d n m a imm mask shift amount cond → f.right)) (hv : Hid (∀ f, f ∈ fieldsOf op d n m a imm mask shift amount cond → f.val < 2 ^ f.n)) (hd : Hid (disj 0 (fieldsOf op d n m a imm mask shift amount cond) = true))
    (ho0 : 0 ≤ op) (ho1 : op ≤ 39) (bs : Nat) (hbs : Hid (baseL.getD op.toNat 0 = (bs : Int))) (hbs1 : bs < 4294967296) :
    Calls Tryd.prog 12 #[.agg #[.int .i64 op, .int .i64 d, .int .i64 n, .int .i64 m, .int .i64 a, .int .i64 imm, .int .u64 (mask : Int), .int .i64 shift, .int .i64 amount, .int .i64 cond]] w fun e w' => e = .returned (.tuple #[.int .u32 ((bs ||| wordN (fieldsOf op d n m a imm mask shift amount cond) : Nat) : Int), .int .i64 0]) ∧ Below w.heap.size w w' := by
  obtain ⟨i0, hi, hz0, hz1, hz2⟩ := info_parts Tryd.info71
  obtain ⟨fs, hfs⟩ : ∃ fs, fs = fieldsOf op d n m a imm mask shift amount cond := ⟨_, rfl⟩
  have hsb := shapeI_bd op
  rw [← hfs] at hlen hr hv hd ⊢
  have HFS := Lib.hid hfs
  clear hfs
  go_enter Tryd.func12, Tryd.ntmps12
  go_wp2_with (first | (go_at_call 13; refine (is_any op d n m a imm shift amount cond mask _ hm (HT.out.below ((Below.refl _ _).alloc (Nat.le_refl _) _))).mono ?_; rw [h.out]; rintro e w1 ⟨rfl, hb1⟩; have c0 : w1.cell? ⟨w.heap.size, 0, none⟩ = some (.int .i64 op) := kept_cells hb1 0) | (go_at_call 18; refine (shape_any _ _).mono ?_; rintro e w2 ⟨rfl, hb2⟩))
  refine (parts_any _ _ (by omega) (by omega)).mono ?_
  rintro e w3 ⟨v, bt, L, rfl, hP, hL, hb3, hbt⟩
  have hb13 := bt2 hb1 (bt2 hb2 hb3)
  have hbw3 : Below w.heap.size w w3 := bel_of_res hb13
  have hI : ∀ j u, (#[.int .i64 op, .int .i64 d, .int .i64 n, .int .i64 m, .int .i64 a, .int .i64 imm, .int .u64 (mask : Int), .int .i64 shift, .int .i64 amount, .int .i64 cond] : Array Value)[j]? = some u → w3.cell? ⟨w.heap.size, j, none⟩ = some u := fun j u hu => (kept_cells hb13 j).trans hu
  have HI := Lib.hid hI
  have hI0 : w.heap.size < w3.heap.size := by have := hb13.size; rw [World.size_alloc] at this; omega
  have HP := Lib.hid hP
  have HL := Lib.hid hL
  clear hI hL hP hb13 hbt c0
  rcases HP.out.cells with ⟨rfl, rfl⟩ | ⟨b, cap, rfl, hb0, hbw, hcell⟩
  · have hf0 : Hid (fs = []) := Lib.hid (by rw [HFS.out]; unfold fieldsOf; rw [← HL.out]; rfl)
    have hix : ∀ w, (Instr.index 74 basesV (.int .i64 op)).run Tryd.prog w = .ok (.int .u32 (bs : Int)) w := by
      rw [← hbs.out]; exact bases_index op ho0 ho1
    have f0 := HI.out 0 (.int .i64 op) rfl
    go_wp2_with fail
    go_loopw [4, 15] (fun l i wr => l = .slice none 0 0 ∧ i = .int .i64 0 ∧ wr = w3) (fun _ _ _ => 0)
    case atStart => exact ⟨rfl, rfl, rfl⟩
    case round =>
      obtain ⟨rfl, rfl, rfl⟩ := hrel
      have hfb : ∀ w7, Hid (FieldsAt w7 (.slice none 0 0) fs) := fun w7 => Lib.hid (.inl ⟨hf0.out, rfl⟩)
      go_wp2_with fail
      go_region_with (first | (go_at_call 36; refine (bases_any _).mono ?_; rintro e w7 ⟨rfl, hb7⟩; have g0 := cell_later hb7 f0) | (go_at_call 35; refine (over_any bs _ fs _ hbs1 (hfb _) hr hv hd).mono ?_; rintro e w8 ⟨rfl, hb8⟩))
      all_goals go_wp2_with fail
      all_goals go_ret2
      all_goals exact ⟨rfl, hbw3.trans (((below_drewN (Below.refl wr.heap.size wr) 1).trans (bt2 hb7 hb8)).mono hbw3.size)⟩
  · have HC := Lib.hid hcell
    clear hcell
    have hLL : L.length = fs.length := by rw [HFS.out]; unfold fieldsOf; rw [← HL.out]; simp
    go_wp2_with fail
    go_loopw [4, 15] (fun l i wr => ∃ k : Nat, k ≤ L.length ∧ i = .int .i64 k ∧ wr.ownsRow w3.heap.size 71 3 l k ((fs.take k).flatMap FD.cells) ∧ Below w3.heap.size w3 wr) (fun _ i _ => L.length - (intOf i).toNat)
    case atStart => exact ⟨0, by omega, rfl, World.ownsRow_nil _ _ _ _, Below.refl _ _⟩
    case round =>
      obtain ⟨k, hk, rfl, hown, hb⟩ := hrel
      by_cases hlt : k < L.length
      · have hf : L[k]? = some L[k] := List.getElem?_eq_getElem hlt
        generalize L[k] = p at hf
        obtain ⟨c0, c1, c2, c3, c4⟩ := HC.out k p hf
        have d0 := (hb.cell (p := ⟨b, k * 5, none⟩) hbw).trans c0
        have d1 := (hb.cell (p := ⟨b, k * 5 + 1, none⟩) hbw).trans c1
        have d2 := (hb.cell (p := ⟨b, k * 5 + 2, none⟩) hbw).trans c2
        have d3 := (hb.cell (p := ⟨b, k * 5 + 3, none⟩) hbw).trans c3
        have d4 := (hb.cell (p := ⟨b, k * 5 + 4, none⟩) hbw).trans c4
        clear c0 c1 c2 c3 c4
        have e0 := (hb.cell (p := ⟨w.heap.size, 0, none⟩) hI0).trans (HI.out 0 (.int .i64 op) rfl)
        have e1 := (hb.cell (p := ⟨w.heap.size, 1, none⟩) hI0).trans (HI.out 1 (.int .i64 d) rfl)
        have e2 := (hb.cell (p := ⟨w.heap.size, 2, none⟩) hI0).trans (HI.out 2 (.int .i64 n) rfl)
        have e3 := (hb.cell (p := ⟨w.heap.size, 3, none⟩) hI0).trans (HI.out 3 (.int .i64 m) rfl)
        have e4 := (hb.cell (p := ⟨w.heap.size, 4, none⟩) hI0).trans (HI.out 4 (.int .i64 a) rfl)
        have e5 := (hb.cell (p := ⟨w.heap.size, 5, none⟩) hI0).trans (HI.out 5 (.int .i64 imm) rfl)
        have e6 := (hb.cell (p := ⟨w.heap.size, 6, none⟩) hI0).trans (HI.out 6 (.int .u64 (mask : Int)) rfl)
        have e7 := (hb.cell (p := ⟨w.heap.size, 7, none⟩) hI0).trans (HI.out 7 (.int .i64 shift) rfl)
        have e8 := (hb.cell (p := ⟨w.heap.size, 8, none⟩) hI0).trans (HI.out 8 (.int .i64 amount) rfl)
        have e9 := (hb.cell (p := ⟨w.heap.size, 9, none⟩) hI0).trans (HI.out 9 (.int .i64 cond) rfl)
        have hw3r := hb.size
        have hIr : w.heap.size < wr.heap.size := Nat.lt_of_lt_of_le hI0 hb.size
        have HOK := Lib.hid (PD.ok.later hb (HP.out.2 p (mem_at hf)))
        have HAK := Lib.hid (HFit.out p.ps (HL.out ▸ List.mem_map_of_mem (mem_at hf)))
        obtain ⟨F, hF⟩ : ∃ F, F = p.ps.fd (valOf d n m a imm mask shift amount cond p.ps.sel) := ⟨_, rfl⟩
        have hfk : fs[k]? = some F := by
          rw [HFS.out, hF]; unfold fieldsOf; rw [← HL.out, List.map_map, List.getElem?_map, hf]; rfl
        have HFK := Lib.hid hfk
        have HF := Lib.hid hF
        have HTr : Hid (Tab wr) := Lib.hid (HT.out.below (hbw3.trans (hb.mono hbw3.size)))
        clear hf hfk hF
        go_wp2_with (first | (go_at_call 34; refine (field_at op d n m a imm shift amount cond mask p F bt _ (HOK.out.later (balloc wr _)) hm (HTr.out.below (balloc wr _)) HAK.out HF.out).mono ?_; rintro e w5 ⟨rfl, hb5⟩; have hs5 : wr.heap.size + 1 ≤ w5.heap.size := (by have := hb5.size; rw [World.size_alloc] at this; exact this)) | (at_builtin; refine wpList_append_own _ rfl _ _ 69 rfl w3.heap.size 71 i0 _ 3 24 Tryd.underlying69 hi hz0 hz1 hz2 rfl (by decide) _ _ _ rfl ((ownsRow_below hown (bt2 (balloc wr _) hb5)).alloc _) ⟨w5.heap.size, 0, none⟩ 1 1 F.cells rfl rfl ?c1 ?c2 ?c3 ?c4 ?c5 ?_))
        case c1 =>
          intro j u hu
          have := cell_of_row (w5.alloc (.cells F.cells.toArray 71)) w5.heap.size j _ 71 (0, 0) (heap_alloc_new _ _)
          rw [List.getElem?_toArray] at this
          have ha : (⟨w5.heap.size, 0, none⟩ : Addr).add j = ⟨w5.heap.size, j, none⟩ := by unfold Addr.add; split <;> simp_all
          rw [ha]
          exact this.trans hu
        case c2 =>
          intro u hu
          simp only [FD.cells, List.mem_cons, List.not_mem_nil, or_false] at hu
          rcases hu with rfl | rfl | rfl <;> rfl
        case c3 => unfold maxLen; omega
        case c4 => omega
        case c5 => simp; omega
        intro v' w6 hown6 hgrow _
        go_wp2_with fail
        have hb6 : Below w3.heap.size w3 w6 := ((bt2 hb (bt2 (balloc wr _) (bt2 hb5 (balloc w5 _))))).grown hgrow (by simp; omega) (fun g e => ownsRow_base hown g e)
        refine ⟨⟨k + 1, by omega, by go_num, ?_, hb6⟩, by simp [intOf]; omega⟩
        rw [take_at fs k F HFK.out, List.flatMap_append, List.flatMap_singleton]
        exact hown6
      · have hkL : k = L.length := by omega
        have hfl : ∀ w7, Below wr.heap.size wr w7 → Hid (FieldsAt w7 u4 fs) := by
          have h := hown
          rw [hkL, hLL, List.take_length] at h
          exact fun w7 h7 => Lib.hid (fieldsAt_row (ownsRow_below h h7) rfl hlen)
        have f0 := (hb.cell (p := ⟨w.heap.size, 0, none⟩) hI0).trans (HI.out 0 (.int .i64 op) rfl)
        have hix : ∀ w, (Instr.index 74 basesV (.int .i64 op)).run Tryd.prog w = .ok (.int .u32 (bs : Int)) w := by
          rw [← hbs.out]; exact bases_index op ho0 ho1
        go_wp2_with fail
        go_region_with (first | (go_at_call 36; refine (bases_any _).mono ?_; rintro e w7 ⟨rfl, hb7⟩; have g0 := cell_later hb7 f0; have hfb := hfl _ ((below_drewN (Below.refl wr.heap.size wr) 1).trans hb7)) | (go_at_call 35; refine (over_any bs _ fs _ hbs1 hfb hr hv hd).mono ?_; rintro e w8 ⟨rfl, hb8⟩))
        all_goals go_wp2_with fail
        all_goals go_ret2
        all_goals exact ⟨rfl, hbw3.trans ((hb.trans ((below_drewN (Below.refl wr.heap.size wr) 1).trans (bt2 hb7 hb8) |>.mono hb.size)).mono hbw3.size)⟩
end Go.Proofs.YtdjdbgilimjagaaDoor
