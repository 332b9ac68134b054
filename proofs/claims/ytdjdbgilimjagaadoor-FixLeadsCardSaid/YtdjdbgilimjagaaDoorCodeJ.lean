/- Layer 5 of the program, walked: the operation that a word is of. No condition. -/
import Derived.Test.YtdjdbgilimjagaaDoorCodeI
set_option linter.unusedVariables false
set_option linter.unusedSimpArgs false
namespace Go.Proofs.YtdjdbgilimjagaaDoor
open Go.RowKit
set_option maxRecDepth 100000

theorem bits_andNot_u32 (a b : Nat) (ha : a < 4294967296) (hb : b < 4294967296) : bits .andNot .u32 (a : Int) (b : Int) = ((a &&& (4294967295 - b) : Nat) : Int) := by
  have hx : a &&& (4294967295 - b) < 2 ^ 32 := Nat.and_lt_two_pow _ (by omega)
  show IntKind.u32.wrap ((BitVec.ofInt 32 (a : Int) &&& ~~~ BitVec.ofInt 32 (b : Int)).toNat : Int) = _
  rw [BitVec.toNat_and, BitVec.toNat_not, ofInt_u32 a ha, ofInt_u32 b hb, IntKind.wrap_u32', show 2 ^ 32 - 1 - b = 4294967295 - b from rfl]
  omega
theorem over_zero (v : Value) (fs : List FD) (w : World) (hf : Hid (FieldsAt w v fs)) (hr : Hid (∀ f, f ∈ fs → f.right)) (hv : Hid (∀ f, f ∈ fs → f.val < 2 ^ f.n)) (hd : Hid (disj 0 fs = true)) :
    Calls Tryd.prog 35 #[.int .u32 0, v] w fun e w' => e = .returned (.int .u32 (wordN fs : Nat)) ∧ Below w.heap.size w w' := by
  have h := over_any 0 v fs w (by decide) hf hr hv hd
  rw [Nat.zero_or] at h
  exact h
theorem news_at {w : World} {b : Nat} {xs : List Value} (h : w.heap[b]? = some (.cells xs.toArray 71)) : ∀ j u, xs[j]? = some u → w.cell? ((⟨b, 0, none⟩ : Addr).add j) = some u := by
  intro j u hu
  have := cell_of_row w b j _ 71 (0, 0) h
  rw [List.getElem?_toArray] at this
  have ha : (⟨b, 0, none⟩ : Addr).add j = ⟨b, j, none⟩ := by unfold Addr.add; split <;> simp_all
  rw [ha]
  exact this.trans hu
theorem one_cells (f : FD) : ∀ u ∈ f.cells, u.oneCell' = true := by
  intro u hu
  simp only [FD.cells, List.mem_cons, List.not_mem_nil, or_false] at hu
  rcases hu with rfl | rfl | rfl <;> rfl

set_option maxHeartbeats 2000000 in
theorem opcode_any (x : Nat) (w : World) (hx : x < 4294967296) : Calls Tryd.prog 14 #[.int .u32 x] w fun e w' => e = .returned (.int .i64 (opOf x)) ∧ Below w.heap.size w w' := by
  obtain ⟨i0, hi, hz0, hz1, hz2⟩ := info_parts Tryd.info71
  go_enter Tryd.func14, Tryd.ntmps14
  go_wp2_with (go_at_call 36; refine (bases_any _).mono ?_; rintro e w1 ⟨rfl, hb1⟩)
  go_loopw [9] (fun i wr => ∃ k : Nat, k ≤ 40 ∧ i = .int .i64 k ∧ (Hid (∀ j : Nat, j < k → matchB (x : Int) (j : Int) = false)) ∧ Below w.heap.size w wr) (fun i _ => 40 - (intOf i).toNat)
  case atStart => exact ⟨0, by omega, rfl, Lib.hid (fun j hj => by omega), hb1⟩
  case round =>
    obtain ⟨k, hk, rfl, hno, hb⟩ := hrel
    by_cases hlt : k < 40
    · obtain ⟨bs, hbs, hbs1⟩ := base_ok k hlt
      have HBS := Lib.hid hbs
      have hix : ∀ w, (Instr.index 74 basesV (.int .i64 (k : Int))).run Tryd.prog w = .ok (.int .u32 (bs : Int)) w := by
        rw [← hbs]; exact bases_index k (by omega) (by omega)
      clear hbs
      have hsb := shapeI_bd (k : Int)
      go_wp2_with (first | (go_at_call 18; refine (shape_any _ _).mono ?_; rintro e w2 ⟨rfl, hb2⟩))
      refine (parts_any _ _ (by omega) (by omega)).mono ?_
      rintro e w3 ⟨v, bt, L, rfl, hP, hL, hb3, hbt⟩
      have hb23 := bt2 hb2 hb3
      have hbw3 : Below w.heap.size w w3 := hb.trans (hb23.mono hb.size)
      obtain ⟨fs, hfs⟩ : ∃ fs, fs = onesOf (shapeI (k : Int)) := ⟨_, rfl⟩
      have hLL : L.length = fs.length := by rw [hfs]; unfold onesOf; rw [← hL]; simp
      have HFS := Lib.hid hfs
      have HP := Lib.hid hP
      have HL := Lib.hid hL
      have hlen : fs.length ≤ 1000 := by rw [hfs]; exact ones_len _ hsb.1 hsb.2
      clear hL hP hbt hfs
      rcases HP.out.cells with ⟨rfl, rfl⟩ | ⟨b, cap, rfl, hb0, hbw, hcell⟩
      · have hf0 : Hid (fs = []) := Lib.hid (List.length_eq_zero_iff.1 hLL.symm)
        go_wp2_with fail
        go_loopw [5, 17] (fun l i wq => l = .slice none 0 0 ∧ i = .int .i64 0 ∧ wq = w3) (fun _ _ _ => 0)
        case atStart => exact ⟨rfl, rfl, rfl⟩
        case round =>
            obtain ⟨rfl, rfl, rfl⟩ := hrel
            have hfa : Hid (FieldsAt wr (.slice none 0 0) fs) := Lib.hid (.inl ⟨hf0.out, rfl⟩)
            have hbq0 : Below w.heap.size w wr := hbw3
            by_cases hk0 : k = 0
            · subst hk0
              go_wp2_with fail
              exact ⟨⟨0 + 1, by omega, by go_num, Lib.hid (fun j' hj' => by have e0 : j' = 0 := by omega
                                                                            subst e0; simp [matchB]), hbq0⟩, by simp [intOf]⟩
            · have hr := Lib.hid (HFS.out ▸ ones_right (shapeI (k : Int)) hsb.1 hsb.2 : ∀ f, f ∈ fs → f.right)
              have hv := Lib.hid (HFS.out ▸ ones_val (shapeI (k : Int)) : ∀ f, f ∈ fs → f.val < 2 ^ f.n)
              have hd := Lib.hid (HFS.out ▸ ones_disj (shapeI (k : Int)) hsb.1 hsb.2 : disj 0 fs = true)
              have hwl := word_lt fs (fun f h => ⟨hr.out f h, hv.out f h⟩)
              have e2 := bits_andNot_u32 x (wordN fs) hx hwl
              have hmb : Hid (matchB (x : Int) (k : Int) = ((((x &&& (4294967295 - wordN fs) : Nat) : Int)) == (bs : Int))) := Lib.hid (by
                unfold matchB
                rw [← HFS.out, Int.toNat_natCast, Int.toNat_natCast, HBS.out]
                simp; omega)
              by_cases hm : matchB (x : Int) (k : Int) = true
              · have e3 := hm
                rw [hmb.out] at e3
                have HM := Lib.hid hm
                clear hm
                go_wp2_with (go_at_call 35; refine (over_zero _ fs _ hfa hr hv hd).mono ?_; rintro e w8 ⟨rfl, hb8⟩)
                go_ret
                exact ⟨ret_int (opOf_at x k hlt HM.out hno.out).symm, hbq0.trans (hb8.mono hbq0.size)⟩
              · have e3 := Bool.eq_false_iff.2 hm
                have HM := Lib.hid e3
                rw [hmb.out] at e3
                clear hm
                go_wp2_with (go_at_call 35; refine (over_zero _ fs _ hfa hr hv hd).mono ?_; rintro e w8 ⟨rfl, hb8⟩)
                exact ⟨⟨k + 1, by omega, by go_num, Lib.hid (fun j' hj' => by
                  by_cases hjk : j' < k
                  · exact hno.out j' hjk
                  · have e0 : j' = k := by omega
                    subst e0; exact HM.out), hbq0.trans (hb8.mono hbq0.size)⟩, by simp [intOf]; omega⟩
      · have HC := Lib.hid hcell
        clear hcell
        go_wp2_with fail
        go_loopw [5, 17] (fun l i wq => ∃ j : Nat, j ≤ L.length ∧ i = .int .i64 j ∧ wq.ownsRow w3.heap.size 71 3 l j ((fs.take j).flatMap FD.cells) ∧ Below w3.heap.size w3 wq) (fun _ i _ => L.length - (intOf i).toNat)
        case atStart => exact ⟨0, by omega, rfl, World.ownsRow_nil _ _ _ _, Below.refl _ _⟩
        case round =>
          obtain ⟨j, hj, rfl, hown, hbq⟩ := hrel
          by_cases hjl : j < L.length
          · have hf : L[j]? = some L[j] := List.getElem?_eq_getElem hjl
            generalize L[j] = p at hf
            obtain ⟨c0, c1, c2, c3, c4⟩ := HC.out j p hf
            have d0 := (hbq.cell (p := ⟨b, j * 5, none⟩) hbw).trans c0
            have d1 := (hbq.cell (p := ⟨b, j * 5 + 1, none⟩) hbw).trans c1
            have d2 := (hbq.cell (p := ⟨b, j * 5 + 2, none⟩) hbw).trans c2
            have d3 := (hbq.cell (p := ⟨b, j * 5 + 3, none⟩) hbw).trans c3
            have d4 := (hbq.cell (p := ⟨b, j * 5 + 4, none⟩) hbw).trans c4
            clear c0 c1 c2 c3 c4
            have hp := part_ok hsb.1 hsb.2 (HL.out ▸ List.mem_map_of_mem (mem_at hf))
            obtain ⟨P, hP⟩ : ∃ P : Nat, p.ps.pos = (P : Int) := ⟨p.ps.pos.toNat, by omega⟩
            obtain ⟨N, hN⟩ : ∃ N : Nat, p.ps.n = (N : Int) := ⟨p.ps.n.toNat, by omega⟩
            have hfk : Hid (fs[j]? = some ⟨P, N, 2 ^ N - 1⟩) := Lib.hid (by
              rw [HFS.out]; unfold onesOf; rw [← HL.out, List.map_map, List.getElem?_map, hf]
              simp [PS.ones, hP, hN])
            rw [hP, hN] at hp
            rw [hP] at d0
            rw [hN] at d1
            have hN26 : N ≤ 26 := by omega
            obtain ⟨z, hz⟩ : ∃ z : Nat, z = 2 ^ N - 1 := ⟨_, rfl⟩
            rw [← hz] at hfk
            have e1 : IntKind.u32.wrap (IntKind.u32.wrap (2 ^ N) - 1) = (z : Int) := by
              have h1 : (2 : Nat) ^ N ≤ 2 ^ 26 := Nat.pow_le_pow_right (by decide) hN26
              have h2 := pow_pos2 N
              rw [← cast_pow, IntKind.wrap_u32, IntKind.wrap_u32, hz]
              omega
            have hsq := hbq.size
            clear hf hp hP hN hz
            go_wp2_with fail
            have g0 := cell_of_row (wr.alloc (.cells #[.int .i64 P, .int .i64 N, .func (Fn.func p.g) #[] p.cg, .func (Fn.func p.h) #[] p.ch, .bool p.ps.sign] 64)) wr.heap.size 0 _ 64 (0, 0) (heap_alloc_new wr _)
            have g1 := cell_of_row (wr.alloc (.cells #[.int .i64 P, .int .i64 N, .func (Fn.func p.g) #[] p.cg, .func (Fn.func p.h) #[] p.ch, .bool p.ps.sign] 64)) wr.heap.size 1 _ 64 (0, 0) (heap_alloc_new wr _)
            have g0 : (wr.alloc (.cells #[.int .i64 P, .int .i64 N, .func (Fn.func p.g) #[] p.cg, .func (Fn.func p.h) #[] p.ch, .bool p.ps.sign] 64)).cell? ⟨wr.heap.size, 0, none⟩ = some (.int .i64 P) := g0
            have g1 : (wr.alloc (.cells #[.int .i64 P, .int .i64 N, .func (Fn.func p.g) #[] p.cg, .func (Fn.func p.h) #[] p.ch, .bool p.ps.sign] 64)).cell? ⟨wr.heap.size, 1, none⟩ = some (.int .i64 N) := g1
            have gown := ownsRow_below hown (balloc wr (.cells #[.int .i64 P, .int .i64 N, .func (Fn.func p.g) #[] p.cg, .func (Fn.func p.h) #[] p.ch, .bool p.ps.sign] 64))
            have gb := hbq.trans ((balloc wr (.cells #[.int .i64 P, .int .i64 N, .func (Fn.func p.g) #[] p.cg, .func (Fn.func p.h) #[] p.ch, .bool p.ps.sign] 64)).mono hsq)
            generalize wr.alloc (.cells #[.int .i64 P, .int .i64 N, .func (Fn.func p.g) #[] p.cg, .func (Fn.func p.h) #[] p.ch, .bool p.ps.sign] 64) = W at *
            have hW3 : w3.heap.size ≤ W.heap.size := gb.size
            have hA := World.ownsRow.alloc (w := W) gown (.cells (FD.cells ⟨P, N, z⟩).toArray 71)
            have hNW := heap_alloc_new W (.cells (FD.cells ⟨P, N, z⟩).toArray 71)
            have hWs : w3.heap.size ≤ (W.alloc (.cells #[.int .i64 P, .int .i64 N, .int .u32 z] 71)).drew.heap.size := by
              show w3.heap.size ≤ (W.alloc (.cells #[.int .i64 P, .int .i64 N, .int .u32 z] 71)).heap.size
              rw [World.size_alloc]; exact Nat.le_succ_of_le hW3
            go_region_law (refine step_append_own rfl (.tmp 21) (.tmp 31) 69 rfl w3.heap.size 71 i0 _ 3 24 Tryd.underlying69 hi hz0 hz1 hz2 rfl (by decide) _ _ _ rfl hA ⟨W.heap.size, 0, none⟩ 1 1 (FD.cells ⟨P, N, z⟩) rfl rfl (news_at hNW) (one_cells _) (by unfold maxLen; omega) (by omega) hWs ?_; intro v' w6 hown6 hgrow)
            all_goals go_wp2_with fail
            all_goals refine ⟨⟨j + 1, by omega, by go_num, ?_, ((gb.trans ((balloc W (.cells #[.int .i64 P, .int .i64 N, .int .u32 z] 71)).mono hW3)).drew).grown hgrow hWs (fun g e => ownsRow_base hown g e)⟩, by simp [intOf]; omega⟩
            all_goals (rw [take_at fs j _ hfk.out, List.flatMap_append, List.flatMap_singleton]; exact hown6)
          · have hjL : j = L.length := by omega
            have hfa : Hid (FieldsAt wr u5 fs) := by
              have h := hown
              rw [hjL, hLL, List.take_length] at h
              exact Lib.hid (fieldsAt_row h rfl hlen)
            have hbq0 : Below w.heap.size w wr := hbw3.trans (hbq.mono hbw3.size)
            by_cases hk0 : k = 0
            · subst hk0
              go_wp2_with fail
              exact ⟨⟨0 + 1, by omega, by go_num, Lib.hid (fun j' hj' => by have e0 : j' = 0 := by omega
                                                                            subst e0; simp [matchB]), hbq0⟩, by simp [intOf]⟩
            · have hr := Lib.hid (HFS.out ▸ ones_right (shapeI (k : Int)) hsb.1 hsb.2 : ∀ f, f ∈ fs → f.right)
              have hv := Lib.hid (HFS.out ▸ ones_val (shapeI (k : Int)) : ∀ f, f ∈ fs → f.val < 2 ^ f.n)
              have hd := Lib.hid (HFS.out ▸ ones_disj (shapeI (k : Int)) hsb.1 hsb.2 : disj 0 fs = true)
              have hwl := word_lt fs (fun f h => ⟨hr.out f h, hv.out f h⟩)
              have e2 := bits_andNot_u32 x (wordN fs) hx hwl
              have hmb : Hid (matchB (x : Int) (k : Int) = ((((x &&& (4294967295 - wordN fs) : Nat) : Int)) == (bs : Int))) := Lib.hid (by
                unfold matchB
                rw [← HFS.out, Int.toNat_natCast, Int.toNat_natCast, HBS.out]
                simp; omega)
              by_cases hm : matchB (x : Int) (k : Int) = true
              · have e3 := hm
                rw [hmb.out] at e3
                have HM := Lib.hid hm
                clear hm
                go_wp2_with (go_at_call 35; refine (over_zero _ fs _ hfa hr hv hd).mono ?_; rintro e w8 ⟨rfl, hb8⟩)
                go_ret
                exact ⟨ret_int (opOf_at x k hlt HM.out hno.out).symm, hbq0.trans (hb8.mono hbq0.size)⟩
              · have e3 := Bool.eq_false_iff.2 hm
                have HM := Lib.hid e3
                rw [hmb.out] at e3
                clear hm
                go_wp2_with (go_at_call 35; refine (over_zero _ fs _ hfa hr hv hd).mono ?_; rintro e w8 ⟨rfl, hb8⟩)
                exact ⟨⟨k + 1, by omega, by go_num, Lib.hid (fun j' hj' => by
                  by_cases hjk : j' < k
                  · exact hno.out j' hjk
                  · have e0 : j' = k := by omega
                    subst e0; exact HM.out), hbq0.trans (hb8.mono hbq0.size)⟩, by simp [intOf]; omega⟩
    · go_wp2_with fail
      go_ret
      refine ⟨ret_int (opOf_none x fun j hj => hno.out j (by omega)).symm, hb⟩
end Go.Proofs.YtdjdbgilimjagaaDoor
