/- Layer 5 of the program, walked: the operation that a word is of. The library's table lies as it is laid. -/
import Derived.Test.YtdjdbgilimjagaaDoorCodeD
import Derived.Test.YtdjdbgilimjagaaDoorWord
import Derived.Deep.RegionLaw
set_option linter.unusedVariables false
set_option linter.unusedSimpArgs false
namespace Go.Proofs.YtdjdbgilimjagaaDoor
open Go.RowKit
set_option maxRecDepth 100000

theorem step_append_own {P : Program} {w : World} {ops : Array Oper} {o : Oper} {a : Act} {K : Act → World → Prop} {Q : Exit → Act → World → Prop} {E : Prop} (hgd : o.guard = none) (s x : Operand) (t : TypeId)
    (ho : o.op = .call { callee := .builtin .append, args := #[s, x], argTypes := #[t, t] })
    (base : Nat) (e : TypeId) (i : TypeInfo) (z : Value) (size bytes : Nat) (ht : P.underlying t = some (.slice e)) (hi : P.info? e = some i) (hz : i.zero = some z)
    (hsize : i.size = size) (hby : i.bytes = bytes) (hzs : z.cells.size = size) (hsz : 0 < size)
    (v : Value) (n : Nat) (xs : List Value) (hs : a.eval s = v) (hown : w.ownsRow base e size v n xs)
    (ad : Addr) (m c : Nat) (news : List Value) (hx : a.eval x = .slice (some ad) m c) (hl : news.length = m * size) (hnews : ∀ j u, news[j]? = some u → w.cell? (ad.add j) = some u) (h1 : ∀ u ∈ news, u.oneCell' = true)
    (h63 : n + m ≤ maxLen) (hbytes : (n + m) * bytes ≤ 140737488355328) (hbase : base ≤ w.heap.size)
    (h : ∀ v' w', w'.ownsRow base e size v' (n + m) (xs ++ news) → w.grownBy w' v.ownBlock → K (a.put o.dst v') w') :
    if Region.wanted o (yielded ops a.tmps) = true then Oper.wp P o a w K Q else E := by
  have hw : Region.wanted o (yielded ops a.tmps) = true := by simp [Region.wanted, hgd]
  rw [if_pos hw]
  exact wp_append_own w s x t ho base e i z size bytes ht hi hz hsize hby hzs hsz v n xs hs hown ad m c news hx hl hnews h1 h63 hbytes hbase fun v' w' h2 h3 _ => h v' w' h2 h3

theorem Tryd.info71 : (Tryd.prog.info? 71).map (fun i => (i.zero, i.size, i.bytes)) = some (some (.agg #[.int .i64 0, .int .i64 0, .int .u32 0]), 3, 24) := by kernel_rfl

theorem cells_mul (L : List PD) (j : Nat) (p : PD) (hj : L[j]? = some p) (i : Nat) (hi : i < 5) : (L.flatMap PD.cells)[j * 5 + i]? = p.cells[i]? := by
  induction L generalizing j with
  | nil => simp at hj
  | cons q l ih =>
    rw [List.flatMap_cons]
    have hq : q.cells.length = 5 := rfl
    cases j with
    | zero =>
      simp at hj; subst hj
      rw [List.getElem?_append_left (by omega), Nat.zero_mul, Nat.zero_add]
    | succ j =>
      rw [List.getElem?_append_right (by omega), hq, show (j + 1) * 5 + i - 5 = j * 5 + i from by omega]
      exact ih j (by simpa using hj)

/-- A part's five cells, in the walk's spelling. -/
theorem PartsAt.cells {w : World} {n0 bt : Nat} {v : Value} {L : List PD} (h : PartsAt w n0 bt v L) : (L = [] ∧ v = .slice none 0 0) ∨ ∃ b cap, v = .slice (some ⟨b, 0, none⟩) L.length cap ∧ n0 ≤ b ∧ b < w.heap.size ∧
    ∀ j p, L[j]? = some p → w.cell? ⟨b, j * 5, none⟩ = some (.int .i64 p.ps.pos) ∧ w.cell? ⟨b, j * 5 + 1, none⟩ = some (.int .i64 p.ps.n) ∧ w.cell? ⟨b, j * 5 + 2, none⟩ = some (.func (Fn.func p.g) #[] p.cg) ∧
      w.cell? ⟨b, j * 5 + 3, none⟩ = some (.func (Fn.func p.h) #[] p.ch) ∧ w.cell? ⟨b, j * 5 + 4, none⟩ = some (.bool p.ps.sign) := by
  rcases h.1 with h | ⟨b, cap, rfl, h0, h1, h2⟩
  · exact .inl h
  · refine .inr ⟨b, cap, rfl, h0, h1, fun j p hj => ?_⟩
    exact ⟨h2 _ _ (cells_mul L j p hj 0 (by omega)), h2 _ _ (cells_mul L j p hj 1 (by omega)), h2 _ _ (cells_mul L j p hj 2 (by omega)), h2 _ _ (cells_mul L j p hj 3 (by omega)), h2 _ _ (cells_mul L j p hj 4 (by omega))⟩

theorem fieldsAt_row {w : World} {base : Nat} {v : Value} {fs : List FD} {n : Nat} (h : w.ownsRow base 71 3 v n (fs.flatMap FD.cells)) (hn : n = fs.length) (hl : fs.length ≤ 1000) : FieldsAt w v fs := by
  obtain ⟨hlen, h | ⟨g, cap, cur, rfl, hb, hg, hc1, hc2, hcs, ht⟩⟩ := h
  · left
    obtain ⟨rfl, rfl⟩ := h
    exact ⟨List.length_eq_zero_iff.1 hn.symm, rfl⟩
  · right
    refine ⟨g, cap, by rw [hn], ?_, hl, ?_⟩
    · by_cases hlt : g < w.heap.size
      · exact hlt
      · rw [Array.getElem?_eq_none (by omega)] at hg; cases hg
    · have hc : ∀ k u, (fs.flatMap FD.cells)[k]? = some u → w.cell? ⟨g, k, none⟩ = some u := by
        intro k u hk
        rw [cell_of_row _ _ k cur 71 (0, 0) hg]
        rw [← ht, List.getElem?_take] at hk
        split at hk
        · rw [← hk, Array.getElem?_toList]
        · cases hk
      have hm : ∀ (l : List FD) (j : Nat) (f : FD) (i : Nat), l[j]? = some f → i < 3 → (l.flatMap FD.cells)[j * 3 + i]? = f.cells[i]? := by
        intro l
        induction l with
        | nil => intro j f i hj _; simp at hj
        | cons q l ih =>
          intro j f i hj hi
          rw [List.flatMap_cons]
          have hq : q.cells.length = 3 := rfl
          cases j with
          | zero =>
            simp at hj; subst hj
            rw [List.getElem?_append_left (by omega), Nat.zero_mul, Nat.zero_add]
          | succ j =>
            rw [List.getElem?_append_right (by omega), hq, show (j + 1) * 3 + i - 3 = j * 3 + i from by omega]
            exact ih j f i (by simpa using hj) hi
      intro k f hk
      exact ⟨hc _ _ (hm fs k f 0 hk (by omega)), hc _ _ (hm fs k f 1 hk (by omega)), hc _ _ (hm fs k f 2 hk (by omega))⟩
end Go.Proofs.YtdjdbgilimjagaaDoor
