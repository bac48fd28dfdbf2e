/- Contracts and laws that the claim leans on, part 5. -/
import Derived.Test.YtoabcmhiaknjiaaDoorS39P2
import Derived.Test.YtoabcmhiaknjiaaDoorS39P4
import Derived.Test.YtoabcmhiaknjiaaDoorProg
import Derived.Test.YtoabcmhiaknjiaaDoorS39P1
import Derived.Test.YtoabcmhiaknjiaaDoorS39P3
import Derived.Handed
import Derived.Carry
import Derived.ChangeShapes
import Derived.LaidLaws
import Derived.ProofKit
import Derived.Stop.Joined
import Derived.Lay
import Derived.SliceStrings
import Derived.ChangeMaps5
import Derived.Test.YtoabcmhiaknjiaaDoorRows
import Derived.Test.YtoabcmhiaknjiaaDoorCards
import Derived.Test.YtoabcmhiaknjiaaDoorTie
import Derived.Shelf.Vars
import Derived.MakeChecks
import Derived.SevenTiedAt
import Derived.JoinedOf
/- Contracts of jobtext: call. -/
set_option maxRecDepth 100000
set_option linter.unusedSimpArgs false
set_option linter.unusedVariables false
namespace Go.Proofs.YtoabcmhiaknjiaaDoor
open Go.Hw

theorem inlineT_n (k : Nat) : ∀ (r : List Row) (acc l : List (List UInt8)), inlineT k r acc = .ok l → l.length + 1 ≤ acc.length + r.length
  | [], acc, l, h => by simp [inlineT] at h
  | (m, t) :: r, acc, l, h => by
    unfold inlineT at h
    split at h
    · cases h; simp
    · split at h
      · cases h
      · have := inlineT_n k r _ _ h
        simp only [List.length_append, List.length_cons, List.length_nil] at this ⊢
        omega
theorem stmF_step {out : List Stm} {call : List UInt8} {k : Nat} {rest : List Row} {words : List (List UInt8)} (h : out.length ≤ 400) : (stmF out call k rest words).1.length ≤ 400 ∧ (stmF out call k rest words).2.n ≤ rest.length := by
  unfold stmF
  split
  · exact ⟨h, Nat.zero_le _⟩
  · split
    · split
      · exact ⟨h, Nat.zero_le _⟩
      · rename_i l hl
        have := inlineT_n _ _ _ _ hl
        simp only [List.length_nil, Nat.zero_add] at this
        exact ⟨by simp; omega, this⟩
    · exact ⟨by simp; omega, Nat.zero_le _⟩
theorem LFi_step {call : List UInt8} {s : RS} {x : Row} {rest : List Row} (h : s.out.length ≤ 400) : (LFi call s x rest).1.out.length ≤ 400 ∧ (LFi call s x rest).2.n ≤ rest.length := by
  unfold LFi lineR
  split
  · exact ⟨h, Nat.zero_le _⟩
  · exact ⟨h, Nat.zero_le _⟩
  · rename_i w ws _
    split
    · rw [hfF_words]
      split
      · unfold setF; split <;> exact ⟨h, Nat.zero_le _⟩
      · split
        · unfold procF; split <;> exact ⟨h, Nat.zero_le _⟩
        · split
          · exact ⟨h, Nat.zero_le _⟩
          · split
            · unfold callF; split <;> exact ⟨h, Nat.zero_le _⟩
            · exact stmF_step h
    · exact ⟨h, Nat.zero_le _⟩

def rowsOk (rows : List Row) : Prop := rows.length ≤ 1000000 ∧ ∀ x ∈ rows, x.2.length ≤ 1000000
theorem rowsOk.drop {rows : List Row} (h : rowsOk rows) (n : Nat) : rowsOk (rows.drop n) := ⟨by have := h.1; simp; omega, fun x hx => h.2 x (List.mem_of_mem_drop hx)⟩
theorem rowsOk.tail {x : Row} {rows : List Row} (h : rowsOk (x :: rows)) : rowsOk rows := ⟨by have := h.1; simp at this; omega, fun y hy => h.2 y (List.mem_cons_of_mem _ hy)⟩

/-- Another map of symbols is put into the reader. -/
theorem Rdr.turn {B0 R ms mp d : Nat} {H H' : Hp} {s : RS} {sy : Sym} (h : Rdr B0 R ms mp H s) (k : Keep (· = R) H H') (hR : ∀ c, H[R]? = some (.cells c 77 (0, 0)) → H'[R]? = some (.cells (c.setIfInBounds 0 (.map (some d))) 77 (0, 0))) (hs : SymsV H' d sy) (hd : B0 ≤ d) (hdm : d ≠ mp) (hpr : ProcsV B0 R d mp H' s.procs) : Rdr B0 R d mp H' { s with syms := sy } := by
  obtain ⟨⟨h0, ov, cells, h1, h2, h3⟩, hsy, _, b1, b2, b3⟩ := h
  have hc : ∀ (b : Nat) (c : Array Value) (e : TypeId) (f : Nat × Nat), e ≠ 77 → H[b]? = some (.cells c e f) → H'[b]? = some (.cells c e f) := fun b c e f hne hb => k.get hb (by intro h; subst h; rw [h1] at hb; cases hb; exact hne rfl)
  refine ⟨⟨h0, ov, cells, hR _ h1, ?_, stmC.mono (fun v ws hv => SlE.mono hv fun b c f hb => hc _ _ _ _ (by decide) hb) _ _ h3⟩, hs, hpr, hd, b2, hdm⟩
  rcases h2 with h | ⟨b, cap, c, f, o1, o2, o3, o4⟩
  · exact .inl h
  · exact .inr ⟨b, cap, c, f, o1, o2, hc _ _ _ _ (by decide) o3, o4⟩
/-- A store into the reader leaves maps and what is no reader. -/
theorem keepR_map {R m : Nat} {H H' : Hp} {c : Array Value} {f : Nat × Nat} {l : List (List UInt8 × Value)} (hR : H[R]? = some (.cells c 77 f)) (k : Keep (· = R) H H') (h : MapC H m l) : MapC H' m l := by
  obtain ⟨es, clk, q, _⟩ := id h
  exact MapC.keep h k (by intro e; subst e; rw [hR] at q; cases q)
theorem keepR_cells {R b : Nat} {H H' : Hp} {c c' : Array Value} {f f' : Nat × Nat} {e : TypeId} (hR : H[R]? = some (.cells c 77 f)) (k : Keep (· = R) H H') (hb : H[b]? = some (.cells c' e f')) (hne : e ≠ 77) : H'[b]? = some (.cells c' e f') :=
  k.get hb (by intro h; subst h; rw [hR] at hb; cases hb; exact hne rfl)

theorem ent_mem {es : Array MapEntry} {l : Sym} (hes : es.toList.map (fun e => (e.key, e.val)) = ((symV l).map fun p => ((.string (B p.1) : Value), p.2))) {p : List UInt8 × List UInt8} (hp : p ∈ l) : ∃ e ∈ es, e.key = .string (B p.1) ∧ e.val = .string (B p.2) := by
  have : ((.string (B p.1), .string (B p.2)) : Value × Value) ∈ es.toList.map (fun e => (e.key, e.val)) := by
    rw [hes]
    exact List.mem_map.2 ⟨(p.1, .string (B p.2)), List.mem_map.2 ⟨p, hp, rfl⟩, rfl⟩
  obtain ⟨e, he, heq⟩ := List.mem_map.1 this
  simp only [Prod.mk.injEq] at heq
  exact ⟨e, Array.mem_toList_iff.1 he, heq.1, heq.2⟩
theorem lookup_some_mem {α : Type} {k : List UInt8} {y : α} : ∀ {l : List (List UInt8 × α)}, l.lookup k = some y → (k, y) ∈ l
  | q :: r, h => by
    rw [List.lookup_cons] at h
    cases hq : k == q.1 with
    | true => rw [hq] at h; cases h; rw [eq_of_beq hq]; exact List.mem_cons_self ..
    | false => rw [hq] at h; exact List.mem_cons_of_mem _ (lookup_some_mem h)

set_option maxHeartbeats 4000000 in
theorem call_c {B0 R ms mp : Nat} {rv wv : Value} {call : List UInt8} {k : Nat} {t : List UInt8} {rest : List Row} {words : List (List UInt8)} {s : RS} {H : Hp} {K : Ending → Hp → Prop}
    (hR : Rdr B0 R ms mp H s) (hB0 : 0 < B0) (hmsR : ms < R) (hB : B0 ≤ H.size) (g : G0 H) (hr : RowsV H rv ((k, t) :: rest)) (hw : SlV H wv words) (hwl : words.length ≤ 1000000) (hwb : ∀ w ∈ words, w.length ≤ 1000) (hout : s.out.length ≤ 400) (hpr : ∀ p ∈ s.procs, rowsOk p.2.2)
    (h : ∀ G, FrJ B0 (MM ms mp) H G → Rdr B0 R ms mp G (callF LFi false s k words).1 → K (.returned (.tuple #[.int .i64 (callF LFi false s k words).2.n, .agg #[.int .i64 (callF LFi false s k words).2.line, .int .i64 (callF LFi false s k words).2.code]])) G) :
    HCall Tryd.prog 89 #[.pointer (some ⟨R, 0, none⟩), .agg #[rv, .string (B call), .bool false], wv] H K := by
  refine hcall mixed B89 (args := [.pointer (some ⟨R, 0, none⟩), .agg #[rv, .string (B call), .bool false], wv]) (by simp) ?_
  obtain ⟨wa, wc, rfl⟩ := SlE.form hw
  simp only [go_sem, reduceCtorEq, Nat.reduceEqDiff, Nat.reduceAdd, withc_some, withcs_some, cells_0, cells_s, Option.bind_some, Option.map_some, List.getElem?_toArray, List.getElem?_cons_zero, List.getElem?_cons_succ, Nat.add_zero, Nat.zero_add, Value.cells, splice, List.setIfInBounds_toArray, List.set_cons_zero, List.set_cons_succ, bfill_nil, bfill_cons, bstep_some, withO_some, List.take_zero, List.take_succ_cons, List.drop_zero, List.drop_succ_cons, List.cons_append, List.nil_append, List.append_nil, List.length_cons, List.length_nil, Nat.reduceLeDiff, Nat.le_refl, and_true, true_and, and_self, decide_true, decide_false, Bool.not_true, Bool.not_false, c89, r89_0, opA_alloc 79 ty79]
  refine box_kA fun b4 G1 e4 s1 h4 E1 => ?_
  simp only [go_sem, reduceCtorEq, Nat.reduceEqDiff, Nat.reduceAdd, withc_some, withcs_some, cells_0, cells_s, Option.bind_some, Option.map_some, List.getElem?_toArray, List.getElem?_cons_zero, List.getElem?_cons_succ, Nat.add_zero, Nat.zero_add, Value.cells, splice, List.setIfInBounds_toArray, List.set_cons_zero, List.set_cons_succ, bfill_nil, bfill_cons, bstep_some, withO_some, List.take_zero, List.take_succ_cons, List.drop_zero, List.drop_succ_cons, List.cons_append, List.nil_append, List.append_nil, List.length_cons, List.length_nil, Nat.reduceLeDiff, Nat.le_refl, and_true, true_and, and_self, decide_true, decide_false, Bool.not_true, Bool.not_false, opA_alloc 79 ty79]
  refine box_kA fun b7 G2 e7 s2 h7 E2 => ?_
  have E12 := E1.trans E2
  have h42 := E2.get h4
  simp only [go_sem, reduceCtorEq, Nat.reduceEqDiff, Nat.reduceAdd, withc_some, withcs_some, cells_0, cells_s, Option.bind_some, Option.map_some, List.getElem?_toArray, List.getElem?_cons_zero, List.getElem?_cons_succ, Nat.add_zero, Nat.zero_add, Value.cells, splice, List.setIfInBounds_toArray, List.set_cons_zero, List.set_cons_succ, bfill_nil, bfill_cons, bstep_some, withO_some, List.take_zero, List.take_succ_cons, List.drop_zero, List.drop_succ_cons, List.cons_append, List.nil_append, List.append_nil, List.length_cons, List.length_nil, Nat.reduceLeDiff, Nat.le_refl, and_true, true_and, and_self, decide_true, decide_false, Bool.not_true, Bool.not_false, c89_32, r89_1, cell_of_blk h42, c89_1, c89_31, r89_3, callA_fn0 pl30, fa82_2, ld4, ld9, len_slice Tryd.underlying24, opA_alloc 79 ty79]
  have fin : ∀ (G G' : Hp) (e : Int), callF LFi false s k words = (s, ⟨0, k, e⟩) → Ext G2 G → Keep (· = b7) G G' → K (.returned (.tuple #[.int .i64 0, .agg #[.int .i64 k, .int .i64 e]])) G' := by
    intro G G' e hs hE k4
    rw [hs] at h
    have E4 : Ext H G' := k4.two (E12.trans hE) (by omega)
    exact h G' E4.ko (hR.ext E4)
  have err3 : ∀ (G : Hp) (Q : E → Fr → Hp → Prop) (F0 : Fr), callF LFi false s k words = (s, ⟨0, k, 3⟩) → Ext G2 G → (∀ F G, Q .ret F G = retK Tryd.prog [.tmp 6, .cell 7 79] K .ret F G) → aw Tryd.prog 114 c89_2 Q ((0, .pointer (some ⟨R, 0, none⟩)) :: (2, .slice wa words.length wc) :: (4, .pointer (some ⟨b4, 0, none⟩)) :: (7, .pointer (some ⟨b7, 0, none⟩)) :: F0) G := by
    intro G Q F0 hs hE hQ
    simp only [go_sem, reduceCtorEq, Nat.reduceEqDiff, Nat.reduceAdd, withc_some, withcs_some, cells_0, cells_s, Option.bind_some, Option.map_some, List.getElem?_toArray, List.getElem?_cons_zero, List.getElem?_cons_succ, Nat.add_zero, Nat.zero_add, Value.cells, splice, List.setIfInBounds_toArray, List.set_cons_zero, List.set_cons_succ, bfill_nil, bfill_cons, bstep_some, withO_some, List.take_zero, List.take_succ_cons, List.drop_zero, List.drop_succ_cons, List.cons_append, List.nil_append, List.append_nil, List.length_cons, List.length_nil, Nat.reduceLeDiff, Nat.le_refl, and_true, true_and, and_self, decide_true, decide_false, Bool.not_true, Bool.not_false, c89_2, r89_4, cell_of_blk (hE.get h42), callA_fn0 pl30, callA_fn0 pl91, fa82_2, ld4, ld82, ld9, len_slice Tryd.underlying24, opA_alloc 79 ty79]
    refine at_c (hr.ext (E12.trans hE)) fun G3 E3 => ?_
    simp only [go_sem, reduceCtorEq, Nat.reduceEqDiff, Nat.reduceAdd, withc_some, withcs_some, cells_0, cells_s, Option.bind_some, Option.map_some, List.getElem?_toArray, List.getElem?_cons_zero, List.getElem?_cons_succ, Nat.add_zero, Nat.zero_add, Value.cells, splice, List.setIfInBounds_toArray, List.set_cons_zero, List.set_cons_succ, bfill_nil, bfill_cons, bstep_some, withO_some, List.take_zero, List.take_succ_cons, List.drop_zero, List.drop_succ_cons, List.cons_append, List.nil_append, List.append_nil, List.length_cons, List.length_nil, Nat.reduceLeDiff, Nat.le_refl, and_true, true_and, and_self, decide_true, decide_false, Bool.not_true, Bool.not_false, callA_fn0 pl30, callA_fn0 pl91, fa82_2, ld4, ld82, ld9, len_slice Tryd.underlying24, opA_alloc 79 ty79]
    refine store_kA ((hE.trans E3).get h7) ty79 (k := fun G4 h8 k4 s4 => ?_)
    simp only [go_sem, reduceCtorEq, Nat.reduceEqDiff, Nat.reduceAdd, withc_some, withcs_some, cells_0, cells_s, Option.bind_some, Option.map_some, List.getElem?_toArray, List.getElem?_cons_zero, List.getElem?_cons_succ, Nat.add_zero, Nat.zero_add, Value.cells, splice, List.setIfInBounds_toArray, List.set_cons_zero, List.set_cons_succ, bfill_nil, bfill_cons, bstep_some, withO_some, List.take_zero, List.take_succ_cons, List.drop_zero, List.drop_succ_cons, List.cons_append, List.nil_append, List.append_nil, List.length_cons, List.length_nil, Nat.reduceLeDiff, Nat.le_refl, and_true, true_and, and_self, decide_true, decide_false, Bool.not_true, Bool.not_false, hQ, resW_cell, callA_fn0 pl30, callA_fn0 pl91, fa82_2, ld4, ld82, ld9, len_slice Tryd.underlying24, opA_alloc 79 ty79]
    rw [rc79 (l := [.int .i64 k, .int .i64 3]) (by simp only [go_sem, reduceCtorEq, Nat.reduceEqDiff, Nat.reduceAdd, withc_some, withcs_some, cells_0, cells_s, Option.bind_some, Option.map_some, List.getElem?_toArray, List.getElem?_cons_zero, List.getElem?_cons_succ, Nat.add_zero, Nat.zero_add, Value.cells, splice, List.setIfInBounds_toArray, List.set_cons_zero, List.set_cons_succ, bfill_nil, bfill_cons, bstep_some, withO_some, List.take_zero, List.take_succ_cons, List.drop_zero, List.drop_succ_cons, List.cons_append, List.nil_append, List.append_nil, List.length_cons, List.length_nil, Nat.reduceLeDiff, Nat.le_refl, and_true, true_and, and_self, decide_true, decide_false, Bool.not_true, Bool.not_false, cell_of_blk h8, callA_fn0 pl30, callA_fn0 pl91, fa82_2, ld4, ld82, ld9, len_slice Tryd.underlying24, opA_alloc 79 ty79])]
    exact fin G3 G4 3 hs (hE.trans E3) k4
  by_cases h2 : words.length < 3
  · have e1 : decide ((words.length : Int) < 3) = true := by rw [decide_eq_true_eq]; omega
    simp only [go_sem, reduceCtorEq, Nat.reduceEqDiff, Nat.reduceAdd, withc_some, withcs_some, cells_0, cells_s, Option.bind_some, Option.map_some, List.getElem?_toArray, List.getElem?_cons_zero, List.getElem?_cons_succ, Nat.add_zero, Nat.zero_add, Value.cells, splice, List.setIfInBounds_toArray, List.set_cons_zero, List.set_cons_succ, bfill_nil, bfill_cons, bstep_some, withO_some, List.take_zero, List.take_succ_cons, List.drop_zero, List.drop_succ_cons, List.cons_append, List.nil_append, List.append_nil, List.length_cons, List.length_nil, Nat.reduceLeDiff, Nat.le_refl, and_true, true_and, and_self, decide_true, decide_false, Bool.not_true, Bool.not_false, e1, c89_3, callA_fn0 pl30, callA_fn0 pl91, fa82_2, ld4, ld82, ld9, len_slice Tryd.underlying24, opA_alloc 79 ty79]
    refine err3 G2 _ _ ?_ (Ext.refl _) (fun F G => by simp only [seqQ_ret])
    match words, h2 with
    | [], _ => rfl
    | [_], _ => rfl
    | [_, _], _ => rfl
  have e1 : decide ((words.length : Int) < 3) = false := by rw [decide_eq_false_iff_not]; omega
  obtain ⟨w0, a, b, ws, rfl⟩ : ∃ w0 a b ws, words = w0 :: a :: b :: ws := by
    match words, h2 with
    | w0 :: a :: b :: ws, _ => exact ⟨_, _, _, _, rfl⟩
    | [], h => exact absurd (by simp) h
    | [_], h => exact absurd (by simp) h
    | [_, _], h => exact absurd (by simp) h
  obtain ⟨wb, woff, wc', ew, wv1⟩ := (hw.ext E12).at (i := 1) (w := a) rfl
  cases ew
  obtain ⟨_, _, _, ew, wv2⟩ := (hw.ext E12).at (i := 2) (w := b) rfl
  cases ew
  have hab := hwb a (by simp)
  have hbb := hwb b (by simp)
  simp only [List.length_cons] at e1 hwl
  simp only [go_sem, reduceCtorEq, Nat.reduceEqDiff, Nat.reduceAdd, withc_some, withcs_some, cells_0, cells_s, Option.bind_some, Option.map_some, List.getElem?_toArray, List.getElem?_cons_zero, List.getElem?_cons_succ, Nat.add_zero, Nat.zero_add, Value.cells, splice, List.setIfInBounds_toArray, List.set_cons_zero, List.set_cons_succ, bfill_nil, bfill_cons, bstep_some, withO_some, List.take_zero, List.take_succ_cons, List.drop_zero, List.drop_succ_cons, List.cons_append, List.nil_append, List.append_nil, List.length_cons, List.length_nil, Nat.reduceLeDiff, Nat.le_refl, and_true, true_and, and_self, decide_true, decide_false, Bool.not_true, Bool.not_false, e1, callA_fn0 pl30, callA_fn0 pl91, fa82_2, ld4, ld82, ld9, len_slice Tryd.underlying24, opA_alloc 79 ty79]
  rw [iadA_slice uStrs ty9 (by omega) (by simp; omega)]
  simp only [go_sem, reduceCtorEq, Nat.reduceEqDiff, Nat.reduceAdd, withc_some, withcs_some, cells_0, cells_s, Option.bind_some, Option.map_some, List.getElem?_toArray, List.getElem?_cons_zero, List.getElem?_cons_succ, Nat.add_zero, Nat.zero_add, Value.cells, splice, List.setIfInBounds_toArray, List.set_cons_zero, List.set_cons_succ, bfill_nil, bfill_cons, bstep_some, withO_some, List.take_zero, List.take_succ_cons, List.drop_zero, List.drop_succ_cons, List.cons_append, List.nil_append, List.append_nil, List.length_cons, List.length_nil, Nat.reduceLeDiff, Nat.le_refl, and_true, true_and, and_self, decide_true, decide_false, Bool.not_true, Bool.not_false, add_none, show Int.toNat 1 = 1 from rfl, Nat.mul_one, wv1, callA_fn0 pl30, callA_fn0 pl91, fa82_2, ld4, ld82, ld9, len_slice Tryd.underlying24, opA_alloc 79 ty79]
  refine symbol_c a (by omega) (g.ext E12) fun G3 E3 => ?_
  cases hsy : symF a with
  | false =>
    simp only [go_sem, reduceCtorEq, Nat.reduceEqDiff, Nat.reduceAdd, withc_some, withcs_some, cells_0, cells_s, Option.bind_some, Option.map_some, List.getElem?_toArray, List.getElem?_cons_zero, List.getElem?_cons_succ, Nat.add_zero, Nat.zero_add, Value.cells, splice, List.setIfInBounds_toArray, List.set_cons_zero, List.set_cons_succ, bfill_nil, bfill_cons, bstep_some, withO_some, List.take_zero, List.take_succ_cons, List.drop_zero, List.drop_succ_cons, List.cons_append, List.nil_append, List.append_nil, List.length_cons, List.length_nil, Nat.reduceLeDiff, Nat.le_refl, and_true, true_and, and_self, decide_true, decide_false, Bool.not_true, Bool.not_false, c89_3, callA_fn0 pl30, callA_fn0 pl91, fa82_2, ld4, ld82, ld9, len_slice Tryd.underlying24, opA_alloc 79 ty79]
    exact err3 G3 _ _ (by unfold callF; simp [hsy]) E3 (fun F G => by simp only [seqQ_ret])
  | true =>
    simp only [go_sem, reduceCtorEq, Nat.reduceEqDiff, Nat.reduceAdd, withc_some, withcs_some, cells_0, cells_s, Option.bind_some, Option.map_some, List.getElem?_toArray, List.getElem?_cons_zero, List.getElem?_cons_succ, Nat.add_zero, Nat.zero_add, Value.cells, splice, List.setIfInBounds_toArray, List.set_cons_zero, List.set_cons_succ, bfill_nil, bfill_cons, bstep_some, withO_some, List.take_zero, List.take_succ_cons, List.drop_zero, List.drop_succ_cons, List.cons_append, List.nil_append, List.append_nil, List.length_cons, List.length_nil, Nat.reduceLeDiff, Nat.le_refl, and_true, true_and, and_self, decide_true, decide_false, Bool.not_true, Bool.not_false, callA_fn0 pl30, callA_fn0 pl91, fa82_2, ld4, ld82, ld9, len_slice Tryd.underlying24, opA_alloc 79 ty79]
    rw [iadA_slice uStrs ty9 (by omega) (by simp; omega)]
    simp only [go_sem, reduceCtorEq, Nat.reduceEqDiff, Nat.reduceAdd, withc_some, withcs_some, cells_0, cells_s, Option.bind_some, Option.map_some, List.getElem?_toArray, List.getElem?_cons_zero, List.getElem?_cons_succ, Nat.add_zero, Nat.zero_add, Value.cells, splice, List.setIfInBounds_toArray, List.set_cons_zero, List.set_cons_succ, bfill_nil, bfill_cons, bstep_some, withO_some, List.take_zero, List.take_succ_cons, List.drop_zero, List.drop_succ_cons, List.cons_append, List.nil_append, List.append_nil, List.length_cons, List.length_nil, Nat.reduceLeDiff, Nat.le_refl, and_true, true_and, and_self, decide_true, decide_false, Bool.not_true, Bool.not_false, add_none, show Int.toNat 2 = 2 from rfl, Nat.mul_one, cell_ext E3 wv2, callA_fn0 pl30, callA_fn0 pl91, fa82_2, ld4, ld82, ld9, len_slice Tryd.underlying24, opA_alloc 79 ty79]
    have E13' := E12.trans E3
    refine symbol_c b (by omega) (g.ext E13') fun G4 E4 => ?_
    have E34 := E3.trans E4
    cases hsy2 : symF b with
    | false =>
      simp only [go_sem, reduceCtorEq, Nat.reduceEqDiff, Nat.reduceAdd, withc_some, withcs_some, cells_0, cells_s, Option.bind_some, Option.map_some, List.getElem?_toArray, List.getElem?_cons_zero, List.getElem?_cons_succ, Nat.add_zero, Nat.zero_add, Value.cells, splice, List.setIfInBounds_toArray, List.set_cons_zero, List.set_cons_succ, bfill_nil, bfill_cons, bstep_some, withO_some, List.take_zero, List.take_succ_cons, List.drop_zero, List.drop_succ_cons, List.cons_append, List.nil_append, List.append_nil, List.length_cons, List.length_nil, Nat.reduceLeDiff, Nat.le_refl, and_true, true_and, and_self, decide_true, decide_false, Bool.not_true, Bool.not_false, c89_3, callA_fn0 pl30, callA_fn0 pl91, fa82_2, ld4, ld82, ld9, len_slice Tryd.underlying24, opA_alloc 79 ty79]
      exact err3 G4 _ _ (by unfold callF; simp [hsy, hsy2]) E34 (fun F G => by simp only [seqQ_ret])
    | true =>
      have E14 := E12.trans E34
      have hcap : ws.length + 1 + 1 + 1 ≤ wc := by
        rcases SlE.part (lo := 0) (hi := 0) hw (Nat.le_refl _) (Nat.zero_le _) with h1 | h1
        · simpa using h1
        · simp at h1
      have hws : SlV G4 (.slice (subAddr (some ⟨wb, woff, none⟩) 1 3 wc) (ws.length + 1 + 1 + 1 - 3) (wc - 3)) ws := by
        have h1 := SlE.drop (lo := 3) (SlE.ext hw E14) (by simp)
        have e : (strs (w0 :: a :: b :: ws)).drop (3 * 1) = strs ws := by simp [strs]
        rw [e] at h1
        show SlE 9 1 G4 (.slice (subAddr (some ⟨wb, woff, none⟩) 1 3 wc) ws.length (wc - 3)) ws.length (strs ws)
        simpa using h1
      simp only [go_sem, reduceCtorEq, Nat.reduceEqDiff, Nat.reduceAdd, withc_some, withcs_some, cells_0, cells_s, Option.bind_some, Option.map_some, List.getElem?_toArray, List.getElem?_cons_zero, List.getElem?_cons_succ, Nat.add_zero, Nat.zero_add, Value.cells, splice, List.setIfInBounds_toArray, List.set_cons_zero, List.set_cons_succ, bfill_nil, bfill_cons, bstep_some, withO_some, List.take_zero, List.take_succ_cons, List.drop_zero, List.drop_succ_cons, List.cons_append, List.nil_append, List.append_nil, List.length_cons, List.length_nil, Nat.reduceLeDiff, Nat.le_refl, and_true, true_and, and_self, decide_true, decide_false, Bool.not_true, Bool.not_false, c89_3, c89_30, r89_5, callA_fn0 pl30, callA_fn0 pl91, callA_fn0 pl98, fa82_2, ld4, ld82, ld9, len_slice Tryd.underlying24, opA_alloc 79 ty79]
      rw [sliA_slice uStrs ty9 (lit_bound 3 3) (.no _) (by omega) hcap]
      simp only [go_sem, reduceCtorEq, Nat.reduceEqDiff, Nat.reduceAdd, withc_some, withcs_some, cells_0, cells_s, Option.bind_some, Option.map_some, List.getElem?_toArray, List.getElem?_cons_zero, List.getElem?_cons_succ, Nat.add_zero, Nat.zero_add, Value.cells, splice, List.setIfInBounds_toArray, List.set_cons_zero, List.set_cons_succ, bfill_nil, bfill_cons, bstep_some, withO_some, List.take_zero, List.take_succ_cons, List.drop_zero, List.drop_succ_cons, List.cons_append, List.nil_append, List.append_nil, List.length_cons, List.length_nil, Nat.reduceLeDiff, Nat.le_refl, and_true, true_and, and_self, decide_true, decide_false, Bool.not_true, Bool.not_false, callA_fn0 pl30, callA_fn0 pl91, callA_fn0 pl98, fa82_2, ld4, ld82, ld9, len_slice Tryd.underlying24, opA_alloc 79 ty79]
      refine values_c (g.ext E14) hws (fun w hw' => hwb w (by simp [hw'])) (by omega) ?_ ?_
      · intro hv G5 E5
        have E25 := E34.trans E5
        simp only [go_sem, reduceCtorEq, Nat.reduceEqDiff, Nat.reduceAdd, withc_some, withcs_some, cells_0, cells_s, Option.bind_some, Option.map_some, List.getElem?_toArray, List.getElem?_cons_zero, List.getElem?_cons_succ, Nat.add_zero, Nat.zero_add, Value.cells, splice, List.setIfInBounds_toArray, List.set_cons_zero, List.set_cons_succ, bfill_nil, bfill_cons, bstep_some, withO_some, List.take_zero, List.take_succ_cons, List.drop_zero, List.drop_succ_cons, List.cons_append, List.nil_append, List.append_nil, List.length_cons, List.length_nil, Nat.reduceLeDiff, Nat.le_refl, and_true, true_and, and_self, decide_true, decide_false, Bool.not_true, Bool.not_false, c89_29, r89_6, c89_5, c89_4, r89_7, cell_of_blk (E25.get h42), callA_fn0 pl30, callA_fn0 pl91, callA_fn0 pl98, fa82_2, ld4, ld82, ld9, len_slice Tryd.underlying24, opA_alloc 79 ty79]
        refine at_c (hr.ext (E12.trans E25)) fun G6 E6 => ?_
        simp only [go_sem, reduceCtorEq, Nat.reduceEqDiff, Nat.reduceAdd, withc_some, withcs_some, cells_0, cells_s, Option.bind_some, Option.map_some, List.getElem?_toArray, List.getElem?_cons_zero, List.getElem?_cons_succ, Nat.add_zero, Nat.zero_add, Value.cells, splice, List.setIfInBounds_toArray, List.set_cons_zero, List.set_cons_succ, bfill_nil, bfill_cons, bstep_some, withO_some, List.take_zero, List.take_succ_cons, List.drop_zero, List.drop_succ_cons, List.cons_append, List.nil_append, List.append_nil, List.length_cons, List.length_nil, Nat.reduceLeDiff, Nat.le_refl, and_true, true_and, and_self, decide_true, decide_false, Bool.not_true, Bool.not_false, callA_fn0 pl30, callA_fn0 pl91, callA_fn0 pl98, fa82_2, ld4, ld82, ld9, len_slice Tryd.underlying24, opA_alloc 79 ty79]
        refine store_kA ((E25.trans E6).get h7) ty79 (k := fun G7 h8 k4 s4 => ?_)
        simp only [go_sem, reduceCtorEq, Nat.reduceEqDiff, Nat.reduceAdd, withc_some, withcs_some, cells_0, cells_s, Option.bind_some, Option.map_some, List.getElem?_toArray, List.getElem?_cons_zero, List.getElem?_cons_succ, Nat.add_zero, Nat.zero_add, Value.cells, splice, List.setIfInBounds_toArray, List.set_cons_zero, List.set_cons_succ, bfill_nil, bfill_cons, bstep_some, withO_some, List.take_zero, List.take_succ_cons, List.drop_zero, List.drop_succ_cons, List.cons_append, List.nil_append, List.append_nil, List.length_cons, List.length_nil, Nat.reduceLeDiff, Nat.le_refl, and_true, true_and, and_self, decide_true, decide_false, Bool.not_true, Bool.not_false, resW_cell, callA_fn0 pl30, callA_fn0 pl91, callA_fn0 pl98, fa82_2, ld4, ld82, ld9, len_slice Tryd.underlying24, opA_alloc 79 ty79]
        rw [rc79 (l := [.int .i64 k, .int .i64 3]) (by simp only [go_sem, reduceCtorEq, Nat.reduceEqDiff, Nat.reduceAdd, withc_some, withcs_some, cells_0, cells_s, Option.bind_some, Option.map_some, List.getElem?_toArray, List.getElem?_cons_zero, List.getElem?_cons_succ, Nat.add_zero, Nat.zero_add, Value.cells, splice, List.setIfInBounds_toArray, List.set_cons_zero, List.set_cons_succ, bfill_nil, bfill_cons, bstep_some, withO_some, List.take_zero, List.take_succ_cons, List.drop_zero, List.drop_succ_cons, List.cons_append, List.nil_append, List.append_nil, List.length_cons, List.length_nil, Nat.reduceLeDiff, Nat.le_refl, and_true, true_and, and_self, decide_true, decide_false, Bool.not_true, Bool.not_false, cell_of_blk h8, callA_fn0 pl30, callA_fn0 pl91, callA_fn0 pl98, fa82_2, ld4, ld82, ld9, len_slice Tryd.underlying24, opA_alloc 79 ty79])]
        exact fin G6 G7 3 (by unfold callF; simp [hsy, hsy2, hv]) (E25.trans E6) k4
      · intro v hv G5 r hrH E5 hm
        have E25 := E34.trans E5
        have E15 := E12.trans E25
        have hR5 := hR.ext E15
        obtain ⟨⟨hR0, ov, cells, hRb, hown, hst⟩, ⟨lsy, hsy1, hsy2', hsy3⟩, ⟨pl, hpl, hall⟩, hbms, hbmp, hne⟩ := id hR5
        simp only [go_sem, reduceCtorEq, Nat.reduceEqDiff, Nat.reduceAdd, withc_some, withcs_some, cells_0, cells_s, Option.bind_some, Option.map_some, List.getElem?_toArray, List.getElem?_cons_zero, List.getElem?_cons_succ, Nat.add_zero, Nat.zero_add, Value.cells, splice, List.setIfInBounds_toArray, List.set_cons_zero, List.set_cons_succ, bfill_nil, bfill_cons, bstep_some, withO_some, List.take_zero, List.take_succ_cons, List.drop_zero, List.drop_succ_cons, List.cons_append, List.nil_append, List.append_nil, List.length_cons, List.length_nil, Nat.reduceLeDiff, Nat.le_refl, and_true, true_and, and_self, decide_true, decide_false, Bool.not_true, Bool.not_false, c89_29, r89_6, c89_5, c89_28, r89_8, cell_of_blk hRb, callA_fn0 pl30, callA_fn0 pl91, callA_fn0 pl98, fa77_1, fa82_2, fq77_1, ld4, ld75, ld82, ld9, len_slice Tryd.underlying24, lq75, lq9, opA_alloc 137 ty137, opA_alloc 79 ty79]
        rw [iadQ_slice uStrs ty9 (by omega) (by simp; omega)]
        simp only [go_sem, reduceCtorEq, Nat.reduceEqDiff, Nat.reduceAdd, withc_some, withcs_some, cells_0, cells_s, Option.bind_some, Option.map_some, List.getElem?_toArray, List.getElem?_cons_zero, List.getElem?_cons_succ, Nat.add_zero, Nat.zero_add, Value.cells, splice, List.setIfInBounds_toArray, List.set_cons_zero, List.set_cons_succ, bfill_nil, bfill_cons, bstep_some, withO_some, List.take_zero, List.take_succ_cons, List.drop_zero, List.drop_succ_cons, List.cons_append, List.nil_append, List.append_nil, List.length_cons, List.length_nil, Nat.reduceLeDiff, Nat.le_refl, and_true, true_and, and_self, decide_true, decide_false, Bool.not_true, Bool.not_false, add_none, show Int.toNat 2 = 2 from rfl, Nat.mul_one, cell_ext E25 wv2, qA_lookup, callA_fn0 pl30, callA_fn0 pl91, callA_fn0 pl98, fa77_1, fa82_2, fq77_1, ld4, ld75, ld82, ld9, len_slice Tryd.underlying24, lq75, lq9, opA_alloc 137 ty137, opA_alloc 79 ty79]
        rw [lkpQ_ok uMP uStr ty137 hpl.o]
        simp only [go_sem, reduceCtorEq, Nat.reduceEqDiff, Nat.reduceAdd, withc_some, withcs_some, cells_0, cells_s, Option.bind_some, Option.map_some, List.getElem?_toArray, List.getElem?_cons_zero, List.getElem?_cons_succ, Nat.add_zero, Nat.zero_add, Value.cells, splice, List.setIfInBounds_toArray, List.set_cons_zero, List.set_cons_succ, bfill_nil, bfill_cons, bstep_some, withO_some, List.take_zero, List.take_succ_cons, List.drop_zero, List.drop_succ_cons, List.cons_append, List.nil_append, List.append_nil, List.length_cons, List.length_nil, Nat.reduceLeDiff, Nat.le_refl, and_true, true_and, and_self, decide_true, decide_false, Bool.not_true, Bool.not_false, callA_fn0 pl30, callA_fn0 pl91, callA_fn0 pl98, fa77_1, fa82_2, fq77_1, ld4, ld75, ld82, ld9, len_slice Tryd.underlying24, lq75, lq9, opA_alloc 137 ty137, opA_alloc 79 ty79]
        rcases procs_lookup b hall with ⟨p1, p2⟩ | ⟨pv, prows, mv, prv, p1, p2, p3, p4, p5, p6, p7, p8, p9⟩
        · rw [p2]
          simp only [go_sem, reduceCtorEq, Nat.reduceEqDiff, Nat.reduceAdd, withc_some, withcs_some, cells_0, cells_s, Option.bind_some, Option.map_some, List.getElem?_toArray, List.getElem?_cons_zero, List.getElem?_cons_succ, Nat.add_zero, Nat.zero_add, Value.cells, splice, List.setIfInBounds_toArray, List.set_cons_zero, List.set_cons_succ, bfill_nil, bfill_cons, bstep_some, withO_some, List.take_zero, List.take_succ_cons, List.drop_zero, List.drop_succ_cons, List.cons_append, List.nil_append, List.append_nil, List.length_cons, List.length_nil, Nat.reduceLeDiff, Nat.le_refl, and_true, true_and, and_self, decide_true, decide_false, Bool.not_true, Bool.not_false, Option.getD_none, Option.isSome_none, callA_fn0 pl30, callA_fn0 pl91, callA_fn0 pl98, fa77_1, fa82_2, fq77_1, ld4, ld75, ld82, ld9, len_slice Tryd.underlying24, lq75, lq9, opA_alloc 137 ty137, opA_alloc 79 ty79]
          refine box_kA fun b10 G6 e10 s10 h10 E6 => ?_
          simp only [go_sem, reduceCtorEq, Nat.reduceEqDiff, Nat.reduceAdd, withc_some, withcs_some, cells_0, cells_s, Option.bind_some, Option.map_some, List.getElem?_toArray, List.getElem?_cons_zero, List.getElem?_cons_succ, Nat.add_zero, Nat.zero_add, Value.cells, splice, List.setIfInBounds_toArray, List.set_cons_zero, List.set_cons_succ, bfill_nil, bfill_cons, bstep_some, withO_some, List.take_zero, List.take_succ_cons, List.drop_zero, List.drop_succ_cons, List.cons_append, List.nil_append, List.append_nil, List.length_cons, List.length_nil, Nat.reduceLeDiff, Nat.le_refl, and_true, true_and, and_self, decide_true, decide_false, Bool.not_true, Bool.not_false, callA_fn0 pl30, callA_fn0 pl91, callA_fn0 pl98, fa77_1, fa82_2, fq77_1, ld4, ld75, ld82, ld9, len_slice Tryd.underlying24, lq75, lq9, opA_alloc 137 ty137, opA_alloc 79 ty79]
          refine ⟨E6, ?_⟩
          refine store_kA h10 ty137 (k := fun G7 h11 k7 s7 => ?_)
          have E7 : Ext G5 G7 := k7.two E6 (by omega)
          have E27 := E25.trans E7
          simp only [go_sem, reduceCtorEq, Nat.reduceEqDiff, Nat.reduceAdd, withc_some, withcs_some, cells_0, cells_s, Option.bind_some, Option.map_some, List.getElem?_toArray, List.getElem?_cons_zero, List.getElem?_cons_succ, Nat.add_zero, Nat.zero_add, Value.cells, splice, List.setIfInBounds_toArray, List.set_cons_zero, List.set_cons_succ, bfill_nil, bfill_cons, bstep_some, withO_some, List.take_zero, List.take_succ_cons, List.drop_zero, List.drop_succ_cons, List.cons_append, List.nil_append, List.append_nil, List.length_cons, List.length_nil, Nat.reduceLeDiff, Nat.le_refl, and_true, true_and, and_self, decide_true, decide_false, Bool.not_true, Bool.not_false, c89_27, r89_9, c89_7, c89_6, r89_10, cell_of_blk (E27.get h42), callA_fn0 pl30, callA_fn0 pl91, callA_fn0 pl98, fa77_1, fa82_2, fq77_1, ld4, ld75, ld82, ld9, len_slice Tryd.underlying24, lq75, lq9, opA_alloc 137 ty137, opA_alloc 79 ty79]
          refine at_c (hr.ext (E12.trans E27)) fun G8 E8 => ?_
          simp only [go_sem, reduceCtorEq, Nat.reduceEqDiff, Nat.reduceAdd, withc_some, withcs_some, cells_0, cells_s, Option.bind_some, Option.map_some, List.getElem?_toArray, List.getElem?_cons_zero, List.getElem?_cons_succ, Nat.add_zero, Nat.zero_add, Value.cells, splice, List.setIfInBounds_toArray, List.set_cons_zero, List.set_cons_succ, bfill_nil, bfill_cons, bstep_some, withO_some, List.take_zero, List.take_succ_cons, List.drop_zero, List.drop_succ_cons, List.cons_append, List.nil_append, List.append_nil, List.length_cons, List.length_nil, Nat.reduceLeDiff, Nat.le_refl, and_true, true_and, and_self, decide_true, decide_false, Bool.not_true, Bool.not_false, callA_fn0 pl30, callA_fn0 pl91, callA_fn0 pl98, fa77_1, fa82_2, fq77_1, ld4, ld75, ld82, ld9, len_slice Tryd.underlying24, lq75, lq9, opA_alloc 137 ty137, opA_alloc 79 ty79]
          refine store_kA ((E27.trans E8).get h7) ty79 (k := fun G9 h8 k9 s9 => ?_)
          simp only [go_sem, reduceCtorEq, Nat.reduceEqDiff, Nat.reduceAdd, withc_some, withcs_some, cells_0, cells_s, Option.bind_some, Option.map_some, List.getElem?_toArray, List.getElem?_cons_zero, List.getElem?_cons_succ, Nat.add_zero, Nat.zero_add, Value.cells, splice, List.setIfInBounds_toArray, List.set_cons_zero, List.set_cons_succ, bfill_nil, bfill_cons, bstep_some, withO_some, List.take_zero, List.take_succ_cons, List.drop_zero, List.drop_succ_cons, List.cons_append, List.nil_append, List.append_nil, List.length_cons, List.length_nil, Nat.reduceLeDiff, Nat.le_refl, and_true, true_and, and_self, decide_true, decide_false, Bool.not_true, Bool.not_false, resW_cell, callA_fn0 pl30, callA_fn0 pl91, callA_fn0 pl98, fa77_1, fa82_2, fq77_1, ld4, ld75, ld82, ld9, len_slice Tryd.underlying24, lq75, lq9, opA_alloc 137 ty137, opA_alloc 79 ty79]
          rw [rc79 (l := [.int .i64 k, .int .i64 4]) (by simp only [go_sem, reduceCtorEq, Nat.reduceEqDiff, Nat.reduceAdd, withc_some, withcs_some, cells_0, cells_s, Option.bind_some, Option.map_some, List.getElem?_toArray, List.getElem?_cons_zero, List.getElem?_cons_succ, Nat.add_zero, Nat.zero_add, Value.cells, splice, List.setIfInBounds_toArray, List.set_cons_zero, List.set_cons_succ, bfill_nil, bfill_cons, bstep_some, withO_some, List.take_zero, List.take_succ_cons, List.drop_zero, List.drop_succ_cons, List.cons_append, List.nil_append, List.append_nil, List.length_cons, List.length_nil, Nat.reduceLeDiff, Nat.le_refl, and_true, true_and, and_self, decide_true, decide_false, Bool.not_true, Bool.not_false, cell_of_blk h8, callA_fn0 pl30, callA_fn0 pl91, callA_fn0 pl98, fa77_1, fa82_2, fq77_1, ld4, ld75, ld82, ld9, len_slice Tryd.underlying24, lq75, lq9, opA_alloc 137 ty137, opA_alloc 79 ty79])]
          exact fin G8 G9 4 (by unfold callF; simp [hsy, hsy2, hv, p1]) (E27.trans E8) k9
        · obtain ⟨pa, pc, rfl⟩ := SlE.form p8
          rw [p2]
          simp only [go_sem, reduceCtorEq, Nat.reduceEqDiff, Nat.reduceAdd, withc_some, withcs_some, cells_0, cells_s, Option.bind_some, Option.map_some, List.getElem?_toArray, List.getElem?_cons_zero, List.getElem?_cons_succ, Nat.add_zero, Nat.zero_add, Value.cells, splice, List.setIfInBounds_toArray, List.set_cons_zero, List.set_cons_succ, bfill_nil, bfill_cons, bstep_some, withO_some, List.take_zero, List.take_succ_cons, List.drop_zero, List.drop_succ_cons, List.cons_append, List.nil_append, List.append_nil, List.length_cons, List.length_nil, Nat.reduceLeDiff, Nat.le_refl, and_true, true_and, and_self, decide_true, decide_false, Bool.not_true, Bool.not_false, Option.getD_some, Option.isSome_some, callA_fn0 pl30, callA_fn0 pl91, callA_fn0 pl98, fa77_1, fa82_2, fq77_1, ld4, ld75, ld82, ld9, len_slice Tryd.underlying24, lq75, lq9, opA_alloc 137 ty137, opA_alloc 79 ty79]
          refine box_kA fun b10 G6 e10 s10 h10 E6 => ?_
          simp only [go_sem, reduceCtorEq, Nat.reduceEqDiff, Nat.reduceAdd, withc_some, withcs_some, cells_0, cells_s, Option.bind_some, Option.map_some, List.getElem?_toArray, List.getElem?_cons_zero, List.getElem?_cons_succ, Nat.add_zero, Nat.zero_add, Value.cells, splice, List.setIfInBounds_toArray, List.set_cons_zero, List.set_cons_succ, bfill_nil, bfill_cons, bstep_some, withO_some, List.take_zero, List.take_succ_cons, List.drop_zero, List.drop_succ_cons, List.cons_append, List.nil_append, List.append_nil, List.length_cons, List.length_nil, Nat.reduceLeDiff, Nat.le_refl, and_true, true_and, and_self, decide_true, decide_false, Bool.not_true, Bool.not_false, callA_fn0 pl30, callA_fn0 pl91, callA_fn0 pl98, fa77_1, fa82_2, fq77_1, ld4, ld75, ld82, ld9, len_slice Tryd.underlying24, lq75, lq9, opA_alloc 137 ty137, opA_alloc 79 ty79]
          refine ⟨E6, ?_⟩
          refine store_kA h10 ty137 (k := fun G7 h11 k7 s7 => ?_)
          have h11' : G7[b10]? = some (.cells #[.map (some mv), .slice pa prows.length pc] 137 (0, 0)) := h11
          have E7 : Ext G5 G7 := k7.two E6 (by omega)
          simp only [go_sem, reduceCtorEq, Nat.reduceEqDiff, Nat.reduceAdd, withc_some, withcs_some, cells_0, cells_s, Option.bind_some, Option.map_some, List.getElem?_toArray, List.getElem?_cons_zero, List.getElem?_cons_succ, Nat.add_zero, Nat.zero_add, Value.cells, splice, List.setIfInBounds_toArray, List.set_cons_zero, List.set_cons_succ, bfill_nil, bfill_cons, bstep_some, withO_some, List.take_zero, List.take_succ_cons, List.drop_zero, List.drop_succ_cons, List.cons_append, List.nil_append, List.append_nil, List.length_cons, List.length_nil, Nat.reduceLeDiff, Nat.le_refl, and_true, true_and, and_self, decide_true, decide_false, Bool.not_true, Bool.not_false, c89_27, r89_9, c89_7, c89_26, r89_11, cell_of_blk (E7.get hRb), c89_25, r89_12, callA_fn0 pl30, callA_fn0 pl91, callA_fn0 pl98, callA_fn0 pl99, fa77_0, fa77_1, fa82_2, fq77_1, ld22, ld4, ld75, ld82, ld9, len_slice Tryd.underlying24, lq75, lq9, opA_alloc 137 ty137, opA_alloc 79 ty79]
          have E27 := E25.trans E7
          have E17 := E12.trans E27
          refine clone_c (MapC.ext hsy1 E7) fun G8 d hd E8 m8 => ?_
          simp only [go_sem, reduceCtorEq, Nat.reduceEqDiff, Nat.reduceAdd, withc_some, withcs_some, cells_0, cells_s, Option.bind_some, Option.map_some, List.getElem?_toArray, List.getElem?_cons_zero, List.getElem?_cons_succ, Nat.add_zero, Nat.zero_add, Value.cells, splice, List.setIfInBounds_toArray, List.set_cons_zero, List.set_cons_succ, bfill_nil, bfill_cons, bstep_some, withO_some, List.take_zero, List.take_succ_cons, List.drop_zero, List.drop_succ_cons, List.cons_append, List.nil_append, List.append_nil, List.length_cons, List.length_nil, Nat.reduceLeDiff, Nat.le_refl, and_true, true_and, and_self, decide_true, decide_false, Bool.not_true, Bool.not_false, c89_24, r89_13, cell_of_blk (E8.get h11'), callA_fn0 pl100, callA_fn0 pl30, callA_fn0 pl91, callA_fn0 pl98, callA_fn0 pl99, fa137_0, fa77_0, fa77_1, fa82_2, fq77_1, ld22, ld4, ld75, ld82, ld9, len_slice Tryd.underlying24, lq75, lq9, opA_alloc 137 ty137, opA_alloc 79 ty79]
          have p38 := MapC.ext p3 (E7.trans E8)
          have hmvlt := MapC.lt p3
          have hs7 := E7.size
          refine copy_c m8 p38 (by omega) p4.1 fun G9 l9 k9 m9 lk9 mem9 => ?_
          have E79 : Ext G7 G9 := k9.two E8 hd
          have hrlt := MapC.lt hm
          obtain ⟨es, clk, hr7, hes, hborn, hbn⟩ := MapC.ext hm E7
          have hr9 := E79.get hr7
          have hvg := valuesF_good _ _ _ ⟨by simp, by simp⟩ (fun w hw' => hwb w (by simp [hw'])) hv
          have b9 : ∀ p ∈ l9, p.2.length ≤ 1000 := fun p hp => (mem9 p hp).elim (fun h => hsy3 p h) (fun h => p4.2 p h)
          simp only [go_sem, reduceCtorEq, Nat.reduceEqDiff, Nat.reduceAdd, withc_some, withcs_some, cells_0, cells_s, Option.bind_some, Option.map_some, List.getElem?_toArray, List.getElem?_cons_zero, List.getElem?_cons_succ, Nat.add_zero, Nat.zero_add, Value.cells, splice, List.setIfInBounds_toArray, List.set_cons_zero, List.set_cons_succ, bfill_nil, bfill_cons, bstep_some, withO_some, List.take_zero, List.take_succ_cons, List.drop_zero, List.drop_succ_cons, List.cons_append, List.nil_append, List.append_nil, List.length_cons, List.length_nil, Nat.reduceLeDiff, Nat.le_refl, and_true, true_and, and_self, decide_true, decide_false, Bool.not_true, Bool.not_false, c89_23, r89_14, callA_fn0 pl100, callA_fn0 pl30, callA_fn0 pl91, callA_fn0 pl98, callA_fn0 pl99, fa137_0, fa77_0, fa77_1, fa82_2, fq77_1, ld22, ld4, ld75, ld82, ld9, len_slice Tryd.underlying24, lq75, lq9, opA_alloc 137 ty137, opA_alloc 79 ty79]
          rw [rngA_map uMS hr9]
          simp only [go_sem, reduceCtorEq, Nat.reduceEqDiff, Nat.reduceAdd, withc_some, withcs_some, cells_0, cells_s, Option.bind_some, Option.map_some, List.getElem?_toArray, List.getElem?_cons_zero, List.getElem?_cons_succ, Nat.add_zero, Nat.zero_add, Value.cells, splice, List.setIfInBounds_toArray, List.set_cons_zero, List.set_cons_succ, bfill_nil, bfill_cons, bstep_some, withO_some, List.take_zero, List.take_succ_cons, List.drop_zero, List.drop_succ_cons, List.cons_append, List.nil_append, List.append_nil, List.length_cons, List.length_nil, Nat.reduceLeDiff, Nat.le_refl, and_true, true_and, and_self, decide_true, decide_false, Bool.not_true, Bool.not_false, c89_18, callA_fn0 pl100, callA_fn0 pl30, callA_fn0 pl91, callA_fn0 pl98, callA_fn0 pl99, fa137_0, fa77_0, fa77_1, fa82_2, fq77_1, ld22, ld4, ld75, ld82, ld9, len_slice Tryd.underlying24, lq75, lq9, opA_alloc 137 ty137, opA_alloc 79 ty79]
          have hit0 : (G9.push (.mapIter (some r) clk #[] clk))[G9.size]? = some (.mapIter (some r) clk #[] clk) := by simp
          have e10 : Ext G7 (G9.push (.mapIter (some r) clk #[] clk)) := E79.trans (Ext.push _ _)
          have m10 := MapC.ext m9 (Ext.push G9 (.mapIter (some r) clk #[] clk))
          have hs79 := E79.size
          have hdlt := MapC.lt m9
          generalize (G9.push (.mapIter (some r) clk #[] clk)) = G10 at *
          obtain ⟨it, hitd⟩ : ∃ it, G9.size = it := ⟨_, rfl⟩
          rw [hitd] at hit0 ⊢
          have hent : ∀ e ∈ es, ∃ p ∈ v, e.key = .string (B p.1) ∧ e.val = .string (B p.2) := by
            intro e he
            have : (e.key, e.val) ∈ es.toList.map (fun e => (e.key, e.val)) := List.mem_map.2 ⟨e, Array.mem_toList_iff.2 he, rfl⟩
            rw [hes] at this
            obtain ⟨q, hq, heq⟩ := List.mem_map.1 this
            obtain ⟨p, hp, rfl⟩ := List.mem_map.1 hq
            simp only [Prod.mk.injEq] at heq
            exact ⟨p, hp, heq.1.symm, heq.2.symm⟩
          refine aw_while (L := c89_17) rfl (fun n F G => ∃ (seen : Array Nat) (l : Sym), n = (es.toList.filter fun e => !seen.contains e.born).length ∧ F = [(0, .pointer (some ⟨R, 0, none⟩)), (2, .slice (some ⟨wb, woff, none⟩) (ws.length + 1 + 1 + 1) wc), (4, .pointer (some ⟨b4, 0, none⟩)), (7, .pointer (some ⟨b7, 0, none⟩)), (10, .pointer (some ⟨b10, 0, none⟩)), (11, .map (some ms)), (12, .map (some d)), (77, .pointer (some ⟨it, 0, none⟩))] ∧
              G[it]? = some (.mapIter (some r) clk seen clk) ∧ Ext G7 G ∧ MapC G d (symV l) ∧ (∀ k, (∃ e ∈ es, e.born ∈ seen ∧ e.key = .string (B k)) → l.lookup k = v.lookup k) ∧ (∀ k, (¬ ∃ e ∈ es, e.born ∈ seen ∧ e.key = .string (B k)) → l.lookup k = l9.lookup k) ∧ (∀ p ∈ l, p.2.length ≤ 1000) ∧
              (∀ e ∈ es, e.born ∈ seen → ∀ q : List UInt8, e.key = .string (B q) → (pv.lookup q).isSome = true)) (m := (es.toList.filter fun e => !(#[] : Array Nat).contains e.born).length)
            ⟨#[], l9, rfl, rfl, hit0, e10, m10, (by rintro k ⟨e, _, h, _⟩; simp at h), fun k _ => rfl, b9, by simp⟩ ?_
          rintro n F G ih ⟨seen, l, rfl, rfl, hit, hE, hl, hl1, hl2, hl3, hl4⟩
          have hrG := hE.get hr7
          have hdit : d ≠ it := by omega
          simp only [go_sem, reduceCtorEq, Nat.reduceEqDiff, Nat.reduceAdd, withc_some, withcs_some, cells_0, cells_s, Option.bind_some, Option.map_some, List.getElem?_toArray, List.getElem?_cons_zero, List.getElem?_cons_succ, Nat.add_zero, Nat.zero_add, Value.cells, splice, List.setIfInBounds_toArray, List.set_cons_zero, List.set_cons_succ, bfill_nil, bfill_cons, bstep_some, withO_some, List.take_zero, List.take_succ_cons, List.drop_zero, List.drop_succ_cons, List.cons_append, List.nil_append, List.append_nil, List.length_cons, List.length_nil, Nat.reduceLeDiff, Nat.le_refl, and_true, true_and, and_self, decide_true, decide_false, Bool.not_true, Bool.not_false, c89_16, c89_15, r89_15, callA_fn0 pl100, callA_fn0 pl30, callA_fn0 pl91, callA_fn0 pl98, callA_fn0 pl99, fa137_0, fa77_0, fa77_1, fa82_2, fq77_1, ld22, ld4, ld75, ld82, ld9, len_slice Tryd.underlying24, lq75, lq9, opA_alloc 137 ty137, opA_alloc 79 ty79]
          refine nxtA_map hit hrG hborn ?_ ?_
          · intro e he hns
            have hit2 := get_set (o := .mapIter (some r) clk (seen.push e.born) clk) hit
            have hE2 : Ext G7 (G.setIfInBounds it (.mapIter (some r) clk (seen.push e.born) clk)) := hE.set (by omega)
            have hl' : MapC (G.setIfInBounds it (.mapIter (some r) clk (seen.push e.born) clk)) d (symV l) := by
              obtain ⟨es', clk', q1, q2⟩ := hl
              exact ⟨es', clk', by rw [Array.getElem?_setIfInBounds_ne (fun e => hdit e.symm)]; exact q1, q2⟩
            generalize (G.setIfInBounds it (.mapIter (some r) clk (seen.push e.born) clk)) = G11 at *
            simp only [go_sem, reduceCtorEq, Nat.reduceEqDiff, Nat.reduceAdd, withc_some, withcs_some, cells_0, cells_s, Option.bind_some, Option.map_some, List.getElem?_toArray, List.getElem?_cons_zero, List.getElem?_cons_succ, Nat.add_zero, Nat.zero_add, Value.cells, splice, List.setIfInBounds_toArray, List.set_cons_zero, List.set_cons_succ, bfill_nil, bfill_cons, bstep_some, withO_some, List.take_zero, List.take_succ_cons, List.drop_zero, List.drop_succ_cons, List.cons_append, List.nil_append, List.append_nil, List.length_cons, List.length_nil, Nat.reduceLeDiff, Nat.le_refl, and_true, true_and, and_self, decide_true, decide_false, Bool.not_true, Bool.not_false, c89_14, c89_13, c89_12, r89_16, callA_fn0 pl100, callA_fn0 pl30, callA_fn0 pl91, callA_fn0 pl98, callA_fn0 pl99, fa137_0, fa77_0, fa77_1, fa82_2, fq77_1, ld22, ld4, ld75, ld82, ld9, len_slice Tryd.underlying24, lq75, lq9, opA_alloc 137 ty137, opA_alloc 79 ty79]
            refine entA_map hit2 (by simp) (hE2.get hr7) ⟨e, he, rfl⟩ fun e' he' hb' => ?_
            have hee : e' = e := born_inj hbn he' he hb'
            subst hee
            obtain ⟨p, hp, hkey, hval⟩ := hent e' he
            have hpvl : SymV G11 (.map (some mv)) pv := .inr ⟨mv, rfl, (MapC.ext p3 (E7.trans hE2)).o⟩
            simp only [go_sem, reduceCtorEq, Nat.reduceEqDiff, Nat.reduceAdd, withc_some, withcs_some, cells_0, cells_s, Option.bind_some, Option.map_some, List.getElem?_toArray, List.getElem?_cons_zero, List.getElem?_cons_succ, Nat.add_zero, Nat.zero_add, Value.cells, splice, List.setIfInBounds_toArray, List.set_cons_zero, List.set_cons_succ, bfill_nil, bfill_cons, bstep_some, withO_some, List.take_zero, List.take_succ_cons, List.drop_zero, List.drop_succ_cons, List.cons_append, List.nil_append, List.append_nil, List.length_cons, List.length_nil, Nat.reduceLeDiff, Nat.le_refl, and_true, true_and, and_self, decide_true, decide_false, Bool.not_true, Bool.not_false, hkey, hval, c89_11, r89_17, cell_of_blk (hE2.get h11'), opA_lookup, callA_fn0 pl100, callA_fn0 pl30, callA_fn0 pl91, callA_fn0 pl98, callA_fn0 pl99, fa137_0, fa77_0, fa77_1, fa82_2, fq77_1, ld22, ld4, ld75, ld82, ld9, len_slice Tryd.underlying24, lq75, lq9, opA_alloc 137 ty137, opA_alloc 79 ty79]
            rw [lkp_sym hpvl]
            simp only [go_sem, reduceCtorEq, Nat.reduceEqDiff, Nat.reduceAdd, withc_some, withcs_some, cells_0, cells_s, Option.bind_some, Option.map_some, List.getElem?_toArray, List.getElem?_cons_zero, List.getElem?_cons_succ, Nat.add_zero, Nat.zero_add, Value.cells, splice, List.setIfInBounds_toArray, List.set_cons_zero, List.set_cons_succ, bfill_nil, bfill_cons, bstep_some, withO_some, List.take_zero, List.take_succ_cons, List.drop_zero, List.drop_succ_cons, List.cons_append, List.nil_append, List.append_nil, List.length_cons, List.length_nil, Nat.reduceLeDiff, Nat.le_refl, and_true, true_and, and_self, decide_true, decide_false, Bool.not_true, Bool.not_false, c89_10, r89_18, callA_fn0 pl100, callA_fn0 pl30, callA_fn0 pl91, callA_fn0 pl98, callA_fn0 pl99, fa137_0, fa77_0, fa77_1, fa82_2, fq77_1, ld22, ld4, ld75, ld82, ld9, len_slice Tryd.underlying24, lq75, lq9, opA_alloc 137 ty137, opA_alloc 79 ty79]
            have E2G := E27.trans hE2
            cases hok : (pv.lookup p.1).isSome with
            | false =>
              have hvall : (v.all fun q => (pv.lookup q.1).isSome) = false := by
                rw [Bool.eq_false_iff]
                intro ha
                rw [List.all_eq_true] at ha
                have := ha p hp
                rw [hok] at this
                cases this
              simp only [go_sem, reduceCtorEq, Nat.reduceEqDiff, Nat.reduceAdd, withc_some, withcs_some, cells_0, cells_s, Option.bind_some, Option.map_some, List.getElem?_toArray, List.getElem?_cons_zero, List.getElem?_cons_succ, Nat.add_zero, Nat.zero_add, Value.cells, splice, List.setIfInBounds_toArray, List.set_cons_zero, List.set_cons_succ, bfill_nil, bfill_cons, bstep_some, withO_some, List.take_zero, List.take_succ_cons, List.drop_zero, List.drop_succ_cons, List.cons_append, List.nil_append, List.append_nil, List.length_cons, List.length_nil, Nat.reduceLeDiff, Nat.le_refl, and_true, true_and, and_self, decide_true, decide_false, Bool.not_true, Bool.not_false, c89_9, c89_8, r89_19, cell_of_blk (E2G.get h42), callA_fn0 pl100, callA_fn0 pl30, callA_fn0 pl91, callA_fn0 pl98, callA_fn0 pl99, fa137_0, fa77_0, fa77_1, fa82_2, fq77_1, ld22, ld4, ld75, ld82, ld9, len_slice Tryd.underlying24, lq75, lq9, opA_alloc 137 ty137, opA_alloc 79 ty79]
              refine at_c (hr.ext (E12.trans E2G)) fun G12 E12' => ?_
              simp only [go_sem, reduceCtorEq, Nat.reduceEqDiff, Nat.reduceAdd, withc_some, withcs_some, cells_0, cells_s, Option.bind_some, Option.map_some, List.getElem?_toArray, List.getElem?_cons_zero, List.getElem?_cons_succ, Nat.add_zero, Nat.zero_add, Value.cells, splice, List.setIfInBounds_toArray, List.set_cons_zero, List.set_cons_succ, bfill_nil, bfill_cons, bstep_some, withO_some, List.take_zero, List.take_succ_cons, List.drop_zero, List.drop_succ_cons, List.cons_append, List.nil_append, List.append_nil, List.length_cons, List.length_nil, Nat.reduceLeDiff, Nat.le_refl, and_true, true_and, and_self, decide_true, decide_false, Bool.not_true, Bool.not_false, callA_fn0 pl100, callA_fn0 pl30, callA_fn0 pl91, callA_fn0 pl98, callA_fn0 pl99, fa137_0, fa77_0, fa77_1, fa82_2, fq77_1, ld22, ld4, ld75, ld82, ld9, len_slice Tryd.underlying24, lq75, lq9, opA_alloc 137 ty137, opA_alloc 79 ty79]
              refine store_kA ((E2G.trans E12').get h7) ty79 (k := fun G13 h8 k13 s13 => ?_)
              simp only [go_sem, reduceCtorEq, Nat.reduceEqDiff, Nat.reduceAdd, withc_some, withcs_some, cells_0, cells_s, Option.bind_some, Option.map_some, List.getElem?_toArray, List.getElem?_cons_zero, List.getElem?_cons_succ, Nat.add_zero, Nat.zero_add, Value.cells, splice, List.setIfInBounds_toArray, List.set_cons_zero, List.set_cons_succ, bfill_nil, bfill_cons, bstep_some, withO_some, List.take_zero, List.take_succ_cons, List.drop_zero, List.drop_succ_cons, List.cons_append, List.nil_append, List.append_nil, List.length_cons, List.length_nil, Nat.reduceLeDiff, Nat.le_refl, and_true, true_and, and_self, decide_true, decide_false, Bool.not_true, Bool.not_false, resW_cell, callA_fn0 pl100, callA_fn0 pl30, callA_fn0 pl91, callA_fn0 pl98, callA_fn0 pl99, fa137_0, fa77_0, fa77_1, fa82_2, fq77_1, ld22, ld4, ld75, ld82, ld9, len_slice Tryd.underlying24, lq75, lq9, opA_alloc 137 ty137, opA_alloc 79 ty79]
              rw [rc79 (l := [.int .i64 k, .int .i64 4]) (by simp only [go_sem, reduceCtorEq, Nat.reduceEqDiff, Nat.reduceAdd, withc_some, withcs_some, cells_0, cells_s, Option.bind_some, Option.map_some, List.getElem?_toArray, List.getElem?_cons_zero, List.getElem?_cons_succ, Nat.add_zero, Nat.zero_add, Value.cells, splice, List.setIfInBounds_toArray, List.set_cons_zero, List.set_cons_succ, bfill_nil, bfill_cons, bstep_some, withO_some, List.take_zero, List.take_succ_cons, List.drop_zero, List.drop_succ_cons, List.cons_append, List.nil_append, List.append_nil, List.length_cons, List.length_nil, Nat.reduceLeDiff, Nat.le_refl, and_true, true_and, and_self, decide_true, decide_false, Bool.not_true, Bool.not_false, cell_of_blk h8, callA_fn0 pl100, callA_fn0 pl30, callA_fn0 pl91, callA_fn0 pl98, callA_fn0 pl99, fa137_0, fa77_0, fa77_1, fa82_2, fq77_1, ld22, ld4, ld75, ld82, ld9, len_slice Tryd.underlying24, lq75, lq9, opA_alloc 137 ty137, opA_alloc 79 ty79])]
              exact fin G12 G13 4 (by unfold callF; simp [hsy, hsy2, hv, p1, hvall]) (E2G.trans E12') k13
            | true =>
              simp only [go_sem, reduceCtorEq, Nat.reduceEqDiff, Nat.reduceAdd, withc_some, withcs_some, cells_0, cells_s, Option.bind_some, Option.map_some, List.getElem?_toArray, List.getElem?_cons_zero, List.getElem?_cons_succ, Nat.add_zero, Nat.zero_add, Value.cells, splice, List.setIfInBounds_toArray, List.set_cons_zero, List.set_cons_succ, bfill_nil, bfill_cons, bstep_some, withO_some, List.take_zero, List.take_succ_cons, List.drop_zero, List.drop_succ_cons, List.cons_append, List.nil_append, List.append_nil, List.length_cons, List.length_nil, Nat.reduceLeDiff, Nat.le_refl, and_true, true_and, and_self, decide_true, decide_false, Bool.not_true, Bool.not_false, c89_9, r89_20, opA_mapUpdate, callA_fn0 pl100, callA_fn0 pl30, callA_fn0 pl91, callA_fn0 pl98, callA_fn0 pl99, fa137_0, fa77_0, fa77_1, fa82_2, fq77_1, ld22, ld4, ld75, ld82, ld9, len_slice Tryd.underlying24, lq75, lq9, opA_alloc 137 ty137, opA_alloc 79 ty79]
              refine mupA_ok uMS uStr hl' fun G12 m12 k12 => ?_
              rw [← symV_putS] at m12
              have hit12 := k12.get hit2 (fun e => hdit e.symm)
              have hsp := lookup_nodup hvg.1 (show (p.1, p.2) ∈ v from hp)
              have hE12 : Ext G7 G12 := k12.two hE2 hd
              simp only [go_sem, reduceCtorEq, Nat.reduceEqDiff, Nat.reduceAdd, withc_some, withcs_some, cells_0, cells_s, Option.bind_some, Option.map_some, List.getElem?_toArray, List.getElem?_cons_zero, List.getElem?_cons_succ, Nat.add_zero, Nat.zero_add, Value.cells, splice, List.setIfInBounds_toArray, List.set_cons_zero, List.set_cons_succ, bfill_nil, bfill_cons, bstep_some, withO_some, List.take_zero, List.take_succ_cons, List.drop_zero, List.drop_succ_cons, List.cons_append, List.nil_append, List.append_nil, List.length_cons, List.length_nil, Nat.reduceLeDiff, Nat.le_refl, and_true, true_and, and_self, decide_true, decide_false, Bool.not_true, Bool.not_false, callA_fn0 pl100, callA_fn0 pl30, callA_fn0 pl91, callA_fn0 pl98, callA_fn0 pl99, fa137_0, fa77_0, fa77_1, fa82_2, fq77_1, ld22, ld4, ld75, ld82, ld9, len_slice Tryd.underlying24, lq75, lq9, opA_alloc 137 ty137, opA_alloc 79 ty79]
              refine ih _ _ _ ?_ ⟨seen.push e'.born, putS p.1 p.2 l, rfl, rfl, hit12, hE12, m12, ?_, ?_, ?_, ?_⟩
              · refine filter_lt (a := e') ?_ (Array.mem_toList_iff.2 he) (by simpa using hns) (by simp)
                intro x hx
                simp at hx ⊢
                exact hx.1
              · rintro k ⟨e2, he2, hb2, hk2'⟩
                rw [lookup_putS]
                by_cases hkp : k = p.1
                · rw [if_pos hkp, hkp, hsp]
                · rw [if_neg hkp]
                  refine hl1 k ⟨e2, he2, ?_, hk2'⟩
                  rcases Array.mem_push.1 hb2 with h3 | h3
                  · exact h3
                  · have := born_inj hbn he2 he h3
                    subst this
                    rw [hkey] at hk2'
                    simp only [Value.string.injEq, B_inj] at hk2'
                    exact absurd hk2'.symm hkp
              · intro k hno
                have hkp : k ≠ p.1 := fun e => hno ⟨e', he, Array.mem_push_self, by rw [hkey, e]⟩
                rw [lookup_putS, if_neg hkp]
                exact hl2 k fun ⟨e2, he2, hb2, hk2'⟩ => hno ⟨e2, he2, Array.mem_push_of_mem _ hb2, hk2'⟩
              · intro q hq
                rcases putS_mem hq with rfl | hq
                · exact hvg.2 p hp
                · exact hl3 q hq
              · intro e2 he2 hb2 q hkq
                rcases Array.mem_push.1 hb2 with h3 | h3
                · exact hl4 e2 he2 h3 q hkq
                · have := born_inj hbn he2 he h3
                  subst this
                  rw [hkey] at hkq
                  simp only [Value.string.injEq, B_inj] at hkq
                  rw [← hkq]; exact hok
          · intro hseen
            have hvall : (v.all fun q => (pv.lookup q.1).isSome) = true := by
              rw [List.all_eq_true]
              intro q hq
              obtain ⟨e, he, hk1, _⟩ := ent_mem hes hq
              exact hl4 e he (hseen e he) q.1 hk1
            have hlk : ∀ x, l.lookup x = (v ++ (pv ++ s.syms)).lookup x := by
              intro x
              rw [lookup_append', lookup_append']
              cases hx : v.lookup x with
              | some y =>
                obtain ⟨e, he, hk1, _⟩ := ent_mem hes (lookup_some_mem hx)
                rw [hl1 x ⟨e, he, hseen e he, hk1⟩, hx]; rfl
              | none =>
                rw [hl2 x ?_, lk9, hsy2']
                · rfl
                · rintro ⟨e, he, _, hk1⟩
                  obtain ⟨p, hp, hkey, _⟩ := hent e he
                  rw [hkey] at hk1
                  simp only [Value.string.injEq, B_inj] at hk1
                  have := lookup_nodup hvg.1 (show (p.1, p.2) ∈ v from hp)
                  rw [hk1, hx] at this
                  cases this
            have hcall : callF LFi false s k (w0 :: a :: b :: ws) = ({ (readT (LFi a) prows.length { s with syms := v ++ (pv ++ s.syms) } prows).1 with syms := s.syms }, ⟨0, (readT (LFi a) prows.length { s with syms := v ++ (pv ++ s.syms) } prows).2.1, (readT (LFi a) prows.length { s with syms := v ++ (pv ++ s.syms) } prows).2.2⟩) := by
              unfold callF
              simp only [hsy, hsy2, hv, p1, hvall, Bool.false_eq_true, if_false, Bool.true_eq_false, or_self, if_true]
            have E2G := E27.trans hE
            have EHG := E12.trans E2G
            have E5G := E7.trans hE
            have hRG := hR5.ext E5G
            have hsymG : SymsV G d (v ++ (pv ++ s.syms)) := ⟨l, hl, hlk, hl3⟩
            simp only [go_sem, reduceCtorEq, Nat.reduceEqDiff, Nat.reduceAdd, withc_some, withcs_some, cells_0, cells_s, Option.bind_some, Option.map_some, List.getElem?_toArray, List.getElem?_cons_zero, List.getElem?_cons_succ, Nat.add_zero, Nat.zero_add, Value.cells, splice, List.setIfInBounds_toArray, List.set_cons_zero, List.set_cons_succ, bfill_nil, bfill_cons, bstep_some, withO_some, List.take_zero, List.take_succ_cons, List.drop_zero, List.drop_succ_cons, List.cons_append, List.nil_append, List.append_nil, List.length_cons, List.length_nil, Nat.reduceLeDiff, Nat.le_refl, and_true, true_and, and_self, decide_true, decide_false, Bool.not_true, Bool.not_false, c89_14, c89_22, r89_21, callA_fn0 pl100, callA_fn0 pl30, callA_fn0 pl91, callA_fn0 pl98, callA_fn0 pl99, fa137_0, fa77_0, fa77_1, fa82_2, fq77_1, ld22, ld4, ld75, ld82, ld9, len_slice Tryd.underlying24, lq75, lq9, opA_alloc 137 ty137, opA_alloc 79 ty79]
            have hRbG := E5G.get hRb
            refine store_k1 hRbG ty22 (k := fun Ga ha ka sa => ?_)
            have hfa : KeepO (mutJ B0 (fun x => x = ms ∨ x = mp ∨ x = d)) H Ga := KeepO.trans (EHG.ko) (ka.ko fun x o hx ho => by subst hx; rw [hRbG] at ho; cases ho; exact ⟨hR0, .inl ⟨_, _, .inl rfl⟩⟩)
            have hga : G0 Ga := G0.frJ g hfa hB0
            have h10a := keepR_cells hRbG ka (hE.get h11') (by decide)
            have hrowsa : RowsV Ga (.slice pa prows.length pc) prows := SlE.mono (p8.ext E5G) fun b c f hb => keepR_cells hRbG ka hb (by decide)
            have hwa : SlV Ga (.slice (some ⟨wb, woff, none⟩) (ws.length + 1 + 1 + 1) wc) (w0 :: a :: b :: ws) := SlE.mono (SlE.ext hw EHG) fun b c f hb => keepR_cells hRbG ka hb (by decide)
            obtain ⟨_, _, _, ee, wva⟩ := hwa.at (i := 1) (w := a) rfl
            cases ee
            have hmpG := MapC.ext hpl E5G
            have hs17 := E17.size
            have hs15 := E15.size
            have hmp5 := MapC.lt hpl
            have hms5 : ms < G5.size := MapC.lt hsy1
            have hpra : ProcsV B0 R d mp Ga s.procs := ⟨pl, keepR_map hRbG ka hmpG, hall.imp fun p x ⟨e, mv, rv, q1, q2, q3, q4, q5, q6, q7⟩ => ⟨e, mv, rv, q1, keepR_map hRbG ka (MapC.ext q2 E5G), q3, by have := MapC.lt q2; omega, q5, q6, SlE.mono (q7.ext E5G) fun b c f hb => keepR_cells hRbG ka hb (by decide)⟩⟩
            have hrda : Rdr B0 R d mp Ga { s with syms := v ++ (pv ++ s.syms) } := hRG.turn ka (fun c hc => by rw [hRbG] at hc; cases hc; exact ha) (hsymG.turn fun _ h => keepR_map hRbG ka h) (by omega) (by omega) hpra
            simp only [go_sem, reduceCtorEq, Nat.reduceEqDiff, Nat.reduceAdd, withc_some, withcs_some, cells_0, cells_s, Option.bind_some, Option.map_some, List.getElem?_toArray, List.getElem?_cons_zero, List.getElem?_cons_succ, Nat.add_zero, Nat.zero_add, Value.cells, splice, List.setIfInBounds_toArray, List.set_cons_zero, List.set_cons_succ, bfill_nil, bfill_cons, bstep_some, withO_some, List.take_zero, List.take_succ_cons, List.drop_zero, List.drop_succ_cons, List.cons_append, List.nil_append, List.append_nil, List.length_cons, List.length_nil, Nat.reduceLeDiff, Nat.le_refl, and_true, true_and, and_self, decide_true, decide_false, Bool.not_true, Bool.not_false, c89_21, r89_22, cell_of_blk h10a, bl82, bq82, callA_fn0 pl100, callA_fn0 pl30, callA_fn0 pl91, callA_fn0 pl98, callA_fn0 pl99, fa137_0, fa137_1, fa77_0, fa77_1, fa82_2, fq137_1, fq77_1, ld22, ld4, ld68, ld75, ld82, ld9, len_slice Tryd.underlying24, lq68, lq75, lq9, opA_alloc 137 ty137, opA_alloc 79 ty79]
            rw [iadQ_slice uStrs ty9 (by omega) (by simp; omega)]
            simp only [go_sem, reduceCtorEq, Nat.reduceEqDiff, Nat.reduceAdd, withc_some, withcs_some, cells_0, cells_s, Option.bind_some, Option.map_some, List.getElem?_toArray, List.getElem?_cons_zero, List.getElem?_cons_succ, Nat.add_zero, Nat.zero_add, Value.cells, splice, List.setIfInBounds_toArray, List.set_cons_zero, List.set_cons_succ, bfill_nil, bfill_cons, bstep_some, withO_some, List.take_zero, List.take_succ_cons, List.drop_zero, List.drop_succ_cons, List.cons_append, List.nil_append, List.append_nil, List.length_cons, List.length_nil, Nat.reduceLeDiff, Nat.le_refl, and_true, true_and, and_self, decide_true, decide_false, Bool.not_true, Bool.not_false, add_none, show Int.toNat 1 = 1 from rfl, Nat.mul_one, wva, bl82, bq82, callA_fn0 pl100, callA_fn0 pl30, callA_fn0 pl91, callA_fn0 pl98, callA_fn0 pl99, fa137_0, fa137_1, fa77_0, fa77_1, fa82_2, fq137_1, fq77_1, ld22, ld4, ld68, ld75, ld82, ld9, len_slice Tryd.underlying24, lq68, lq75, lq9, opA_alloc 137 ty137, opA_alloc 79 ty79]
            have hBa : B0 ≤ Ga.size := Nat.le_trans hB hfa.size
            -- the call of read, at whatever heap that holds the same
            have hread : ∀ (Gx : Hp) (KK : Ending → Hp → Prop), Ext Ga Gx → (∀ Gb, KeepO (mutJ B0 (MM d mp)) Gx Gb → Rdr B0 R d mp Gb (readT (LFi a) prows.length { s with syms := v ++ (pv ++ s.syms) } prows).1 → KK (.returned (.agg #[.int .i64 (readT (LFi a) prows.length { s with syms := v ++ (pv ++ s.syms) } prows).2.1, .int .i64 (readT (LFi a) prows.length { s with syms := v ++ (pv ++ s.syms) } prows).2.2])) Gb) →
                HCall Tryd.prog 39 #[.pointer (some ⟨R, 0, none⟩), .agg #[.slice pa prows.length pc, .string (B a), .bool true]] Gx KK := by
              intro Gx KK Ex hk
              refine read_c (LFi a) (fun s => s.out.length ≤ 400) rowsOk (hrda.ext Ex) hB0 (by have := Ex.size; omega) (hga.ext Ex) (hrowsa.ext Ex) hout (hpr _ p9) (hpr _ p9).1 (fun s x rest h1 h2 _ => ⟨(LFi_step h1).1, (LFi_step h1).2, h2.tail.drop _⟩) ?_ hk
              intro s' G' rv' k' t' rest' kn' K2 hiv hrw hBG hg' hrd' hmk' hrv' hrl' hk'
              refine line_any (fun _ s _ _ => (s, ⟨0, 0, 0⟩)) hrd' hB0 hBG hg' hmk' hrv' (hrw.2 (k', t') (List.mem_cons_self ..)) hrw.tail.2 hrl' hiv ?_ hk'
              intro G'' wv' words' K3 E'' hw'' hl'' hb'' hh'' hk3
              have e9 : callF (fun _ s _ _ => (s, ⟨0, 0, 0⟩)) true s' k' words' = (s', ⟨0, k', 9⟩) := by
                unfold callF
                split <;> rfl
              rw [e9] at hk3
              exact callin_c (hrd'.ext E'') (hrv'.ext E'') (by obtain ⟨x, y, z⟩ := SlE.form hw''; exact ⟨_, _, _, z⟩) hk3
            generalize hres : readT (LFi a) prows.length { s with syms := v ++ (pv ++ s.syms) } prows = res at *
            -- behind the region
            have rest_ : ∀ (Gd : Hp) (b17 : Nat), H.size ≤ b17 → KeepO (mutJ B0 (MM d mp)) Ga Gd → Rdr B0 R d mp Gd res.1 → Gd[b17]? = some (.cells #[.int .i64 res.2.1, .int .i64 res.2.2] 79 (0, 0)) →
                (aw Tryd.prog 114 c89_20 (retK Tryd.prog [.tmp 6, .cell 7 79] K) [(0, .pointer (some ⟨R, 0, none⟩)), (7, .pointer (some ⟨b7, 0, none⟩)), (11, .map (some ms)), (17, .pointer (some ⟨b17, 0, none⟩))] Gd) := by
              intro Gd b17 hb17 hfad hrdd h17
              obtain ⟨⟨hRo0, ovd, cellsd, hRbd, hownd, hstd⟩, hsymsd, ⟨pld, hpld, halld⟩, _⟩ := id hrdd
              have h7a := keepR_cells hRbG ka (E2G.get h7) (by decide)
              have h7d := cells_frJ hfad h7a (by decide) (by decide)
              have hmsd : SymsV Gd ms s.syms := ⟨lsy, MapC.ko (keepR_map hRbG ka (MapC.ext hsy1 E5G)) hfad (fun es kk hh => by
                rcases hh.2 with ⟨c, f, h3 | h3⟩ | ⟨h3, _⟩
                · cases h3
                · cases h3
                · rcases h3 with h3 | h3 <;> omega), hsy2', hsy3⟩
              simp only [go_sem, reduceCtorEq, Nat.reduceEqDiff, Nat.reduceAdd, withc_some, withcs_some, cells_0, cells_s, Option.bind_some, Option.map_some, List.getElem?_toArray, List.getElem?_cons_zero, List.getElem?_cons_succ, Nat.add_zero, Nat.zero_add, Value.cells, splice, List.setIfInBounds_toArray, List.set_cons_zero, List.set_cons_succ, bfill_nil, bfill_cons, bstep_some, withO_some, List.take_zero, List.take_succ_cons, List.drop_zero, List.drop_succ_cons, List.cons_append, List.nil_append, List.append_nil, List.length_cons, List.length_nil, Nat.reduceLeDiff, Nat.le_refl, and_true, true_and, and_self, decide_true, decide_false, Bool.not_true, Bool.not_false, c89_20, r89_23, bl82, bq82, callA_fn0 pl100, callA_fn0 pl30, callA_fn0 pl91, callA_fn0 pl98, callA_fn0 pl99, fa137_0, fa137_1, fa77_0, fa77_1, fa82_2, fq137_1, fq77_1, ld22, ld4, ld68, ld75, ld82, ld9, len_slice Tryd.underlying24, lq68, lq75, lq9, opA_alloc 137 ty137, opA_alloc 79 ty79]
              refine store_k1 hRbd ty22 (k := fun Ge he ke se => ?_)
              have h17e := keepR_cells hRbd ke h17 (by decide)
              have h7e := keepR_cells hRbd ke h7d (by decide)
              have hpre : ProcsV B0 R ms mp Ge res.1.procs := ⟨pld, keepR_map hRbd ke hpld, halld.imp fun p x ⟨e, mv, rv, q1, q2, q3, q4, q5, q6, q7⟩ => ⟨e, mv, rv, q1, keepR_map hRbd ke q2, q3, by omega, q5, q6, SlE.mono q7 fun b c f hb => keepR_cells hRbd ke hb (by decide)⟩⟩
              have hrde : Rdr B0 R ms mp Ge { res.1 with syms := s.syms } := hrdd.turn ke (fun c hc => by rw [hRbd] at hc; cases hc; exact he) (hmsd.turn fun _ h => keepR_map hRbd ke h) hbms hne hpre
              have hfe : KeepO (mutJ B0 (fun x => x = ms ∨ x = mp ∨ x = d)) H Ge := KeepO.trans (KeepO.trans hfa (hfad.mono fun x o ⟨q1, q2⟩ => ⟨q1, q2.imp_right fun ⟨c, e⟩ => ⟨c.elim (fun c => .inr (.inr c)) (fun c => .inr (.inl c)), e⟩⟩)) (ke.ko fun x o hx ho => by subst hx; rw [hRbd] at ho; cases ho; exact ⟨hR0, .inl ⟨_, _, .inl rfl⟩⟩)
              simp only [go_sem, reduceCtorEq, Nat.reduceEqDiff, Nat.reduceAdd, withc_some, withcs_some, cells_0, cells_s, Option.bind_some, Option.map_some, List.getElem?_toArray, List.getElem?_cons_zero, List.getElem?_cons_succ, Nat.add_zero, Nat.zero_add, Value.cells, splice, List.setIfInBounds_toArray, List.set_cons_zero, List.set_cons_succ, bfill_nil, bfill_cons, bstep_some, withO_some, List.take_zero, List.take_succ_cons, List.drop_zero, List.drop_succ_cons, List.cons_append, List.nil_append, List.append_nil, List.length_cons, List.length_nil, Nat.reduceLeDiff, Nat.le_refl, and_true, true_and, and_self, decide_true, decide_false, Bool.not_true, Bool.not_false, c89_19, r89_24, bl82, bq82, callA_fn0 pl100, callA_fn0 pl30, callA_fn0 pl91, callA_fn0 pl98, callA_fn0 pl99, fa137_0, fa137_1, fa77_0, fa77_1, fa82_2, fq137_1, fq77_1, ld22, ld4, ld68, ld75, ld79, ld82, ld9, len_slice Tryd.underlying24, lq68, lq75, lq9, opA_alloc 137 ty137, opA_alloc 79 ty79]
              rw [loadQ_agg Tryd.underlying79 rfl ty79 (show cellsH Ge ⟨b17, 0, none⟩ 0 2 = some [.int .i64 res.2.1, .int .i64 res.2.2] by rw [cellsH_of_blk h17e 2 0 (by simp)]; rfl)]
              simp only [go_sem, reduceCtorEq, Nat.reduceEqDiff, Nat.reduceAdd, withc_some, withcs_some, cells_0, cells_s, Option.bind_some, Option.map_some, List.getElem?_toArray, List.getElem?_cons_zero, List.getElem?_cons_succ, Nat.add_zero, Nat.zero_add, Value.cells, splice, List.setIfInBounds_toArray, List.set_cons_zero, List.set_cons_succ, bfill_nil, bfill_cons, bstep_some, withO_some, List.take_zero, List.take_succ_cons, List.drop_zero, List.drop_succ_cons, List.cons_append, List.nil_append, List.append_nil, List.length_cons, List.length_nil, Nat.reduceLeDiff, Nat.le_refl, and_true, true_and, and_self, decide_true, decide_false, Bool.not_true, Bool.not_false, bl82, bq82, callA_fn0 pl100, callA_fn0 pl30, callA_fn0 pl91, callA_fn0 pl98, callA_fn0 pl99, fa137_0, fa137_1, fa77_0, fa77_1, fa82_2, fq137_1, fq77_1, ld22, ld4, ld68, ld75, ld79, ld82, ld9, len_slice Tryd.underlying24, lq68, lq75, lq9, opA_alloc 137 ty137, opA_alloc 79 ty79]
              refine store_kA h7e ty79 (k := fun Gf h8 kf sf => ?_)
              simp only [go_sem, reduceCtorEq, Nat.reduceEqDiff, Nat.reduceAdd, withc_some, withcs_some, cells_0, cells_s, Option.bind_some, Option.map_some, List.getElem?_toArray, List.getElem?_cons_zero, List.getElem?_cons_succ, Nat.add_zero, Nat.zero_add, Value.cells, splice, List.setIfInBounds_toArray, List.set_cons_zero, List.set_cons_succ, bfill_nil, bfill_cons, bstep_some, withO_some, List.take_zero, List.take_succ_cons, List.drop_zero, List.drop_succ_cons, List.cons_append, List.nil_append, List.append_nil, List.length_cons, List.length_nil, Nat.reduceLeDiff, Nat.le_refl, and_true, true_and, and_self, decide_true, decide_false, Bool.not_true, Bool.not_false, resW_cell, bl82, bq82, callA_fn0 pl100, callA_fn0 pl30, callA_fn0 pl91, callA_fn0 pl98, callA_fn0 pl99, fa137_0, fa137_1, fa77_0, fa77_1, fa82_2, fq137_1, fq77_1, ld22, ld4, ld68, ld75, ld79, ld82, ld9, len_slice Tryd.underlying24, lq68, lq75, lq9, opA_alloc 137 ty137, opA_alloc 79 ty79]
              rw [rc79 (l := [.int .i64 res.2.1, .int .i64 res.2.2]) (by simp only [go_sem, reduceCtorEq, Nat.reduceEqDiff, Nat.reduceAdd, withc_some, withcs_some, cells_0, cells_s, Option.bind_some, Option.map_some, List.getElem?_toArray, List.getElem?_cons_zero, List.getElem?_cons_succ, Nat.add_zero, Nat.zero_add, Value.cells, splice, List.setIfInBounds_toArray, List.set_cons_zero, List.set_cons_succ, bfill_nil, bfill_cons, bstep_some, withO_some, List.take_zero, List.take_succ_cons, List.drop_zero, List.drop_succ_cons, List.cons_append, List.nil_append, List.append_nil, List.length_cons, List.length_nil, Nat.reduceLeDiff, Nat.le_refl, and_true, true_and, and_self, decide_true, decide_false, Bool.not_true, Bool.not_false, cell_of_blk h8, bl82, bq82, callA_fn0 pl100, callA_fn0 pl30, callA_fn0 pl91, callA_fn0 pl98, callA_fn0 pl99, fa137_0, fa137_1, fa77_0, fa77_1, fa82_2, fq137_1, fq77_1, ld22, ld4, ld68, ld75, ld79, ld82, ld9, len_slice Tryd.underlying24, lq68, lq75, lq9, opA_alloc 137 ty137, opA_alloc 79 ty79])]
              rw [hcall] at h
              refine h Gf ⟨?_, fun x o hx hm => ?_⟩ (hrde.kk (keepK_of h7e kf))
              · have := hfe.size; omega
              · have hxl := get_lt hx
                refine kf.get (hfe.blk x o hx fun hh => hm ⟨hh.1, hh.2.imp_right fun ⟨c, e⟩ => ⟨?_, e⟩⟩) (by have := E1.size; omega)
                rcases c with c | c | c
                · exact .inl c
                · exact .inr c
                · omega
            constructor
            · simp only [go_sem, reduceCtorEq, Nat.reduceEqDiff, Nat.reduceAdd, withc_some, withcs_some, cells_0, cells_s, Option.bind_some, Option.map_some, List.getElem?_toArray, List.getElem?_cons_zero, List.getElem?_cons_succ, Nat.add_zero, Nat.zero_add, Value.cells, splice, List.setIfInBounds_toArray, List.set_cons_zero, List.set_cons_succ, bfill_nil, bfill_cons, bstep_some, withO_some, List.take_zero, List.take_succ_cons, List.drop_zero, List.drop_succ_cons, List.cons_append, List.nil_append, List.append_nil, List.length_cons, List.length_nil, Nat.reduceLeDiff, Nat.le_refl, and_true, true_and, and_self, decide_true, decide_false, Bool.not_true, Bool.not_false, r89_22a, bl82, bq82, callA_fn0 pl100, callA_fn0 pl30, callA_fn0 pl39, callA_fn0 pl91, callA_fn0 pl98, callA_fn0 pl99, callQ_fn0 pl39, fa137_0, fa137_1, fa77_0, fa77_1, fa82_2, fq137_1, fq77_1, ld22, ld4, ld68, ld75, ld79, ld82, ld9, len_slice Tryd.underlying24, lq68, lq75, lq9, opA_alloc 137 ty137, opA_alloc 79 ty79]
              refine hread Ga _ (Ext.refl _) fun Gb hfb hrdb => ?_
              simp only [go_sem, reduceCtorEq, Nat.reduceEqDiff, Nat.reduceAdd, withc_some, withcs_some, cells_0, cells_s, Option.bind_some, Option.map_some, List.getElem?_toArray, List.getElem?_cons_zero, List.getElem?_cons_succ, Nat.add_zero, Nat.zero_add, Value.cells, splice, List.setIfInBounds_toArray, List.set_cons_zero, List.set_cons_succ, bfill_nil, bfill_cons, bstep_some, withO_some, List.take_zero, List.take_succ_cons, List.drop_zero, List.drop_succ_cons, List.cons_append, List.nil_append, List.append_nil, List.length_cons, List.length_nil, Nat.reduceLeDiff, Nat.le_refl, and_true, true_and, and_self, decide_true, decide_false, Bool.not_true, Bool.not_false, bl82, bq82, callA_fn0 pl100, callA_fn0 pl30, callA_fn0 pl39, callA_fn0 pl91, callA_fn0 pl98, callA_fn0 pl99, callQ_fn0 pl39, fa137_0, fa137_1, fa77_0, fa77_1, fa82_2, fq137_1, fq77_1, ld22, ld4, ld68, ld75, ld79, ld82, ld9, len_slice Tryd.underlying24, lq68, lq75, lq9, opA_alloc 137 ty137, opA_alloc 79 ty79]
              refine box_kA fun b17 Gc e17 s17 h17 Ec => ?_
              simp only [go_sem, reduceCtorEq, Nat.reduceEqDiff, Nat.reduceAdd, withc_some, withcs_some, cells_0, cells_s, Option.bind_some, Option.map_some, List.getElem?_toArray, List.getElem?_cons_zero, List.getElem?_cons_succ, Nat.add_zero, Nat.zero_add, Value.cells, splice, List.setIfInBounds_toArray, List.set_cons_zero, List.set_cons_succ, bfill_nil, bfill_cons, bstep_some, withO_some, List.take_zero, List.take_succ_cons, List.drop_zero, List.drop_succ_cons, List.cons_append, List.nil_append, List.append_nil, List.length_cons, List.length_nil, Nat.reduceLeDiff, Nat.le_refl, and_true, true_and, and_self, decide_true, decide_false, Bool.not_true, Bool.not_false, bl82, bq82, callA_fn0 pl100, callA_fn0 pl30, callA_fn0 pl39, callA_fn0 pl91, callA_fn0 pl98, callA_fn0 pl99, callQ_fn0 pl39, fa137_0, fa137_1, fa77_0, fa77_1, fa82_2, fq137_1, fq77_1, ld22, ld4, ld68, ld75, ld79, ld82, ld9, len_slice Tryd.underlying24, lq68, lq75, lq9, opA_alloc 137 ty137, opA_alloc 79 ty79]
              refine ⟨Ec, ?_⟩
              refine store_kA h17 ty79 (k := fun Gd h17d kd sd => ?_)
              have Ed : Ext Gb Gd := kd.two Ec (by omega)
              simp only [go_sem, reduceCtorEq, Nat.reduceEqDiff, Nat.reduceAdd, withc_some, withcs_some, cells_0, cells_s, Option.bind_some, Option.map_some, List.getElem?_toArray, List.getElem?_cons_zero, List.getElem?_cons_succ, Nat.add_zero, Nat.zero_add, Value.cells, splice, List.setIfInBounds_toArray, List.set_cons_zero, List.set_cons_succ, bfill_nil, bfill_cons, bstep_some, withO_some, List.take_zero, List.take_succ_cons, List.drop_zero, List.drop_succ_cons, List.cons_append, List.nil_append, List.append_nil, List.length_cons, List.length_nil, Nat.reduceLeDiff, Nat.le_refl, and_true, true_and, and_self, decide_true, decide_false, Bool.not_true, Bool.not_false, bl82, bq82, callA_fn0 pl100, callA_fn0 pl30, callA_fn0 pl39, callA_fn0 pl91, callA_fn0 pl98, callA_fn0 pl99, callQ_fn0 pl39, fa137_0, fa137_1, fa77_0, fa77_1, fa82_2, fq137_1, fq77_1, ld22, ld4, ld68, ld75, ld79, ld82, ld9, len_slice Tryd.underlying24, lq68, lq75, lq9, opA_alloc 137 ty137, opA_alloc 79 ty79]
              have hsb := hfb.size
              have hsa := hfa.size
              exact rest_ Gd b17 (by omega) (hfb.trans Ed.ko) (hrdb.ext Ed) h17d
            · simp only [go_sem, reduceCtorEq, Nat.reduceEqDiff, Nat.reduceAdd, withc_some, withcs_some, cells_0, cells_s, Option.bind_some, Option.map_some, List.getElem?_toArray, List.getElem?_cons_zero, List.getElem?_cons_succ, Nat.add_zero, Nat.zero_add, Value.cells, splice, List.setIfInBounds_toArray, List.set_cons_zero, List.set_cons_succ, bfill_nil, bfill_cons, bstep_some, withO_some, List.take_zero, List.take_succ_cons, List.drop_zero, List.drop_succ_cons, List.cons_append, List.nil_append, List.append_nil, List.length_cons, List.length_nil, Nat.reduceLeDiff, Nat.le_refl, and_true, true_and, and_self, decide_true, decide_false, Bool.not_true, Bool.not_false, r89_22b, bl82, bq82, callA_fn0 pl100, callA_fn0 pl30, callA_fn0 pl39, callA_fn0 pl91, callA_fn0 pl98, callA_fn0 pl99, callQ_fn0 pl39, fa137_0, fa137_1, fa77_0, fa77_1, fa82_2, fq137_1, fq77_1, ld22, ld4, ld68, ld75, ld79, ld82, ld9, len_slice Tryd.underlying24, lq68, lq75, lq9, opA_alloc 137 ty137, opA_alloc 79 ty79]
              refine box_kA fun b17 Gc e17 s17 h17 Ec => ?_
              simp only [go_sem, reduceCtorEq, Nat.reduceEqDiff, Nat.reduceAdd, withc_some, withcs_some, cells_0, cells_s, Option.bind_some, Option.map_some, List.getElem?_toArray, List.getElem?_cons_zero, List.getElem?_cons_succ, Nat.add_zero, Nat.zero_add, Value.cells, splice, List.setIfInBounds_toArray, List.set_cons_zero, List.set_cons_succ, bfill_nil, bfill_cons, bstep_some, withO_some, List.take_zero, List.take_succ_cons, List.drop_zero, List.drop_succ_cons, List.cons_append, List.nil_append, List.append_nil, List.length_cons, List.length_nil, Nat.reduceLeDiff, Nat.le_refl, and_true, true_and, and_self, decide_true, decide_false, Bool.not_true, Bool.not_false, bl82, bq82, callA_fn0 pl100, callA_fn0 pl30, callA_fn0 pl39, callA_fn0 pl91, callA_fn0 pl98, callA_fn0 pl99, callQ_fn0 pl39, fa137_0, fa137_1, fa77_0, fa77_1, fa82_2, fq137_1, fq77_1, ld22, ld4, ld68, ld75, ld79, ld82, ld9, len_slice Tryd.underlying24, lq68, lq75, lq9, opA_alloc 137 ty137, opA_alloc 79 ty79]
              refine ⟨Ec, ?_⟩
              refine hread Gc _ Ec fun Gb hfb hrdb => ?_
              have h17b := cells_frJ hfb h17 (by decide) (by decide)
              simp only [go_sem, reduceCtorEq, Nat.reduceEqDiff, Nat.reduceAdd, withc_some, withcs_some, cells_0, cells_s, Option.bind_some, Option.map_some, List.getElem?_toArray, List.getElem?_cons_zero, List.getElem?_cons_succ, Nat.add_zero, Nat.zero_add, Value.cells, splice, List.setIfInBounds_toArray, List.set_cons_zero, List.set_cons_succ, bfill_nil, bfill_cons, bstep_some, withO_some, List.take_zero, List.take_succ_cons, List.drop_zero, List.drop_succ_cons, List.cons_append, List.nil_append, List.append_nil, List.length_cons, List.length_nil, Nat.reduceLeDiff, Nat.le_refl, and_true, true_and, and_self, decide_true, decide_false, Bool.not_true, Bool.not_false, bl82, bq82, callA_fn0 pl100, callA_fn0 pl30, callA_fn0 pl39, callA_fn0 pl91, callA_fn0 pl98, callA_fn0 pl99, callQ_fn0 pl39, fa137_0, fa137_1, fa77_0, fa77_1, fa82_2, fq137_1, fq77_1, ld22, ld4, ld68, ld75, ld79, ld82, ld9, len_slice Tryd.underlying24, lq68, lq75, lq9, opA_alloc 137 ty137, opA_alloc 79 ty79]
              refine store_kA h17b ty79 (k := fun Gd h17d kd sd => ?_)
              simp only [go_sem, reduceCtorEq, Nat.reduceEqDiff, Nat.reduceAdd, withc_some, withcs_some, cells_0, cells_s, Option.bind_some, Option.map_some, List.getElem?_toArray, List.getElem?_cons_zero, List.getElem?_cons_succ, Nat.add_zero, Nat.zero_add, Value.cells, splice, List.setIfInBounds_toArray, List.set_cons_zero, List.set_cons_succ, bfill_nil, bfill_cons, bstep_some, withO_some, List.take_zero, List.take_succ_cons, List.drop_zero, List.drop_succ_cons, List.cons_append, List.nil_append, List.append_nil, List.length_cons, List.length_nil, Nat.reduceLeDiff, Nat.le_refl, and_true, true_and, and_self, decide_true, decide_false, Bool.not_true, Bool.not_false, bl82, bq82, callA_fn0 pl100, callA_fn0 pl30, callA_fn0 pl39, callA_fn0 pl91, callA_fn0 pl98, callA_fn0 pl99, callQ_fn0 pl39, fa137_0, fa137_1, fa77_0, fa77_1, fa82_2, fq137_1, fq77_1, ld22, ld4, ld68, ld75, ld79, ld82, ld9, len_slice Tryd.underlying24, lq68, lq75, lq9, opA_alloc 137 ty137, opA_alloc 79 ty79]
              have hsa := hfa.size
              refine rest_ Gd b17 (by omega) ?_ (hrdb.kk (keepK_of h17b kd)) h17d
              exact FrJ.new (B0 := B0) (M := MM d mp) (Ec.ko.trans hfb) kd (by omega)
end Go.Proofs.YtoabcmhiaknjiaaDoor

/- Contracts of jobtext: Expand at any text. -/
set_option maxRecDepth 100000
set_option linter.unusedSimpArgs false
set_option linter.unusedVariables false
namespace Go.Proofs.YtoabcmhiaknjiaaDoor
open Go.Hw

theorem LFi_procs {call : List UInt8} {s : RS} {x : Row} {rest : List Row} : (LFi call s x rest).1.procs = s.procs := by
  unfold LFi lineR
  split
  · rfl
  · rfl
  · split
    · rw [hfF_words]
      split
      · unfold setF; split <;> rfl
      · split
        · unfold procF; split <;> rfl
        · split
          · rfl
          · split
            · unfold callF; split <;> rfl
            · rfl
    · rfl
theorem readI_step (call : List UInt8) : ∀ (n : Nat) (s : RS) (rows : List Row), s.out.length ≤ 400 → (readT (LFi call) n s rows).1.out.length ≤ 400 ∧ (readT (LFi call) n s rows).1.procs = s.procs
  | 0, s, _, h => ⟨h, rfl⟩
  | _ + 1, s, [], h => ⟨h, rfl⟩
  | n + 1, s, x :: rest, h => by
    unfold readT
    have h1 := (LFi_step (call := call) (s := s) (x := x) (rest := rest) h).1
    split
    · have := readI_step call n (LFi call s x rest).1 (rest.drop (LFi call s x rest).2.n) h1
      exact ⟨this.1, this.2.trans LFi_procs⟩
    · exact ⟨h1, LFi_procs⟩
def Iv (s : RS) : Prop := s.out.length ≤ 400 ∧ ∀ p ∈ s.procs, rowsOk p.2.2
theorem rowsOk.take {rows : List Row} (h : rowsOk rows) (n : Nat) : rowsOk (rows.take n) := ⟨by have := h.1; simp; omega, fun x hx => h.2 x (List.mem_of_mem_take hx)⟩
theorem LFo_step {s : RS} {x : Row} {rest : List Row} (hs : Iv s) (hr : rowsOk (x :: rest)) : Iv (LFo s x rest).1 ∧ (LFo s x rest).2.n ≤ rest.length := by
  unfold LFo lineR
  split
  · exact ⟨hs, Nat.zero_le _⟩
  · exact ⟨hs, Nat.zero_le _⟩
  · split
    · rw [hfF_words]
      split
      · unfold setF
        split
        · split
          · exact ⟨hs, Nat.zero_le _⟩
          · split <;> exact ⟨hs, Nat.zero_le _⟩
        · split <;> exact ⟨hs, Nat.zero_le _⟩
      · split
        · unfold procF
          split
          · split
            · exact ⟨hs, Nat.zero_le _⟩
            · split
              · exact ⟨hs, Nat.zero_le _⟩
              · split
                · exact ⟨hs, Nat.zero_le _⟩
                · split
                  · exact ⟨hs, Nat.zero_le _⟩
                  · split
                    · exact ⟨hs, Nat.zero_le _⟩
                    · rename_i i hi
                      refine ⟨⟨hs.1, ?_⟩, endAt_lt hi⟩
                      intro p hp
                      rcases List.mem_append.1 hp with hp | hp
                      · exact hs.2 p hp
                      · simp only [List.mem_cons, List.mem_nil_iff, or_false] at hp
                        subst hp
                        exact hr.tail.take i
          · split <;> exact ⟨hs, Nat.zero_le _⟩
        · split
          · exact ⟨hs, Nat.zero_le _⟩
          · split
            · unfold callF
              split
              · split
                · exact ⟨hs, Nat.zero_le _⟩
                · split
                  · exact ⟨hs, Nat.zero_le _⟩
                  · split
                    · exact ⟨hs, Nat.zero_le _⟩
                    · split
                      · exact ⟨hs, Nat.zero_le _⟩
                      · split
                        · refine ⟨⟨(readI_step _ _ _ _ (by exact hs.1)).1, ?_⟩, Nat.zero_le _⟩
                          show ∀ p ∈ (readT _ _ _ _).1.procs, _
                          rw [(readI_step _ _ _ _ (by exact hs.1)).2]
                          exact hs.2
                        · exact ⟨hs, Nat.zero_le _⟩
              · split <;> exact ⟨hs, Nat.zero_le _⟩
            · exact ⟨⟨(stmF_step hs.1).1, hs.2⟩, (stmF_step hs.1).2⟩
    · exact ⟨hs, Nat.zero_le _⟩

theorem linesF_le (n : Nat) : ∀ (l : List UInt8), l.length ≤ n → ∀ x ∈ linesF l, x.length ≤ n := by
  induction n using Nat.strongRecOn with
  | _ n ih =>
    intro l hl x hx
    by_cases h : l = []
    · subst h; rw [linesF_nil] at hx; cases hx
    · rw [linesF_cons h] at hx
      have hlt := lineTl_len h
      rcases List.mem_cons.1 hx with rfl | hx
      · have := (List.takeWhile_sublist (l := l) notNl).length_le
        omega
      · have := ih (n - 1) (by omega) (lineTl l) (by omega) x hx
        omega
theorem rowsFrom_mem : ∀ (k : Nat) (a : List (List UInt8)) (x : Row), x ∈ rowsFrom k a → x.2 ∈ a
  | k, t :: r, x, h => by
    rcases List.mem_cons.1 h with rfl | h
    · exact List.mem_cons_self ..
    · exact List.mem_cons_of_mem _ (rowsFrom_mem _ r x h)
theorem rows_ok {t : List UInt8} (ht : t.length ≤ 1000000) : rowsOk (rowsFrom 0 (linesF t)) := ⟨by have := linesF_len t; rw [rowsFrom_length]; omega, fun x hx => linesF_le 1000000 t ht _ (rowsFrom_mem _ _ _ hx)⟩

/-- Expand as the plain reader says. -/
theorem expand_full {t : List UInt8} {H : Hp} {K : Ending → Hp → Prop} (g : G0 H) (ht : t.length ≤ 1000000)
    (h : ∀ G v, Ext H G → StmsO H.size G v (expandF LFo t).1 → (v = .slice none 0 0 ∨ (expandF LFo t).2.2 = 0) → K (.returned (.tuple #[v, .int .i64 (expandF LFo t).2.1, .int .i64 (expandF LFo t).2.2])) G) :
    HCall Tryd.prog 19 #[.string (B t)] H K := by
  refine expand_o LFo Iv rowsOk g ht ⟨by decide, by rintro p h; cases h⟩ (rows_ok ht) ?_ ?_ h
  · intro s x rest hs hr _
    have := LFo_step hs hr
    exact ⟨this.1, this.2, hr.tail.drop _⟩
  · intro B0 R ms mp s G rv k t rest kn K2 hB0 hmsR hs hr hBG hg hrd hmk hrv hrl hk
    refine line_any LFi hrd hB0 hBG hg hmk hrv (hr.2 (k, t) (List.mem_cons_self ..)) (fun x hx => hr.tail.2 x hx) hrl hs.1 ?_ hk
    intro G1 wv words K3 E hwv hwl hwb _ hk3
    exact call_c (hrd.ext E) hB0 hmsR (by have := E.size; omega) (hg.ext E) (hrv.ext E) hwv hwl hwb hs.1 hs.2 hk3
end Go.Proofs.YtoabcmhiaknjiaaDoor

set_option maxRecDepth 100000
namespace Go.Proofs.YtoabcmhiaknjiaaDoor
open Go.Hw
/-! ### 5 dasd/dasdlaw39.JobtextCalls -/
def r5_0 : List O := [⟨some 2, .assign (.const (.bool false)), 4, none⟩]
def r5_1 : List O := [⟨some 15, .call { callee := .value (.func 9), args := #[], argTypes := #[] }, 4, none⟩,
  ⟨some 16, .unOp .not 4 (.tmp 15), 4, none⟩]
def r5_2 : List O := [⟨some 2, .assign (.const (.bool false)), 4, none⟩]
def r5_3 : List O := [⟨some 17, .move (.tmp 0), 24, none⟩,
  ⟨some 18, .call { callee := .builtin .len, args := #[.tmp 17], argTypes := #[24] }, 3, none⟩,
  ⟨some 19, .binOp .gtr 3 (.tmp 18) (.const (.int .i64 40)) 3, 4, none⟩]
def r5_4 : List O := [⟨some 2, .assign (.const (.bool true)), 4, none⟩]
def r5_5 : List O := [⟨some 3, .assign (.const (.string ⟨#[]⟩)), 9, none⟩]
def r5_6 : List O := [⟨some 20, .move (.tmp 0), 24, none⟩,
  ⟨some 21, .call { callee := .builtin .len, args := #[.tmp 20], argTypes := #[24] }, 3, none⟩,
  ⟨some 22, .move (.const (.int .i64 0)), 3, none⟩]
def r5_7 : List O := [⟨some 23, .binOp .lss 3 (.tmp 22) (.tmp 21) 3, 0, none⟩]
def r5_8 : List O := [⟨some 24, .indexAddr 24 (.tmp 20) (.tmp 22), 0, none⟩,
  ⟨some 25, .load 9 (.tmp 24), 9, none⟩,
  ⟨some 5, .assign (.tmp 25), 9, none⟩]
def r5_9 : List O := [⟨some 27, .move (.tmp 5), 9, none⟩,
  ⟨some 28, .call { callee := .value (.func 10), args := #[.tmp 27], argTypes := #[9] }, 26, none⟩,
  ⟨some 26, .move (.tmp 28), 26, none⟩,
  ⟨some 29, .extract (.tmp 26) 0, 24, none⟩,
  ⟨some 30, .extract (.tmp 26) 1, 25, none⟩,
  ⟨some 6, .assign (.tmp 29), 24, none⟩,
  ⟨some 7, .assign (.tmp 30), 25, none⟩]
def r5_10 : List O := [⟨some 31, .move (.tmp 5), 9, none⟩,
  ⟨some 32, .call { callee := .builtin .len, args := #[.tmp 31], argTypes := #[9] }, 3, none⟩,
  ⟨some 33, .binOp .gtr 3 (.tmp 32) (.const (.int .i64 100)) 3, 4, none⟩,
  ⟨some 34, .move (.tmp 33), 4, none⟩,
  ⟨some 35, .move (.tmp 5), 9, some (34, false)⟩,
  ⟨some 36, .call { callee := .value (.func 18), args := #[.tmp 35, .const (.string ⟨#[10]⟩)], argTypes := #[9, 9] }, 4, some (34, false)⟩,
  ⟨some 37, .pick (.tmp 34) (.const (.bool true)) (.tmp 36), 4, none⟩,
  ⟨some 38, .move (.tmp 37), 4, none⟩,
  ⟨some 39, .move (.tmp 5), 9, some (38, false)⟩,
  ⟨some 40, .call { callee := .value (.func 18), args := #[.tmp 39, .const (.string ⟨#[38]⟩)], argTypes := #[9, 9] }, 4, some (38, false)⟩,
  ⟨some 41, .pick (.tmp 38) (.const (.bool true)) (.tmp 40), 4, none⟩,
  ⟨some 42, .move (.tmp 41), 4, none⟩,
  ⟨some 43, .move (.tmp 6), 24, some (42, false)⟩,
  ⟨some 44, .call { callee := .builtin .len, args := #[.tmp 43], argTypes := #[24] }, 3, some (42, false)⟩,
  ⟨some 45, .binOp .gtr 3 (.tmp 44) (.const (.int .i64 0)) 3, 4, some (42, false)⟩,
  ⟨some 46, .move (.tmp 45), 4, some (42, false)⟩,
  ⟨some 47, .move (.tmp 6), 24, some (46, true)⟩,
  ⟨some 48, .indexAddr 24 (.tmp 47) (.const (.int .i64 0)), 0, some (46, true)⟩,
  ⟨some 49, .load 9 (.tmp 48), 9, some (46, true)⟩,
  ⟨some 50, .binOp .eql 9 (.tmp 49) (.const (.string ⟨#[115, 101, 116]⟩)) 9, 4, some (46, true)⟩,
  ⟨some 51, .move (.tmp 50), 4, some (46, true)⟩,
  ⟨some 52, .move (.tmp 6), 24, some (51, false)⟩,
  ⟨some 53, .indexAddr 24 (.tmp 52) (.const (.int .i64 0)), 0, some (51, false)⟩,
  ⟨some 54, .load 9 (.tmp 53), 9, some (51, false)⟩,
  ⟨some 55, .binOp .eql 9 (.tmp 54) (.const (.string ⟨#[112, 114, 111, 99]⟩)) 9, 4, some (51, false)⟩,
  ⟨some 56, .pick (.tmp 51) (.const (.bool true)) (.tmp 55), 4, some (46, true)⟩,
  ⟨some 57, .move (.tmp 56), 4, some (46, true)⟩,
  ⟨some 58, .move (.tmp 6), 24, some (57, false)⟩,
  ⟨some 59, .indexAddr 24 (.tmp 58) (.const (.int .i64 0)), 0, some (57, false)⟩,
  ⟨some 60, .load 9 (.tmp 59), 9, some (57, false)⟩,
  ⟨some 61, .binOp .eql 9 (.tmp 60) (.const (.string ⟨#[99, 97, 108, 108]⟩)) 9, 4, some (57, false)⟩,
  ⟨some 62, .pick (.tmp 57) (.const (.bool true)) (.tmp 61), 4, some (46, true)⟩,
  ⟨some 63, .move (.tmp 62), 4, some (46, true)⟩,
  ⟨some 64, .move (.tmp 6), 24, some (63, false)⟩,
  ⟨some 65, .indexAddr 24 (.tmp 64) (.const (.int .i64 0)), 0, some (63, false)⟩,
  ⟨some 66, .load 9 (.tmp 65), 9, some (63, false)⟩,
  ⟨some 67, .binOp .eql 9 (.tmp 66) (.const (.string ⟨#[101, 110, 100]⟩)) 9, 4, some (63, false)⟩,
  ⟨some 68, .pick (.tmp 63) (.const (.bool true)) (.tmp 67), 4, some (46, true)⟩,
  ⟨some 69, .pick (.tmp 46) (.tmp 68) (.const (.bool false)), 4, some (42, false)⟩,
  ⟨some 70, .pick (.tmp 42) (.const (.bool true)) (.tmp 69), 4, none⟩]
def r5_11 : List O := [⟨some 2, .assign (.const (.bool true)), 4, none⟩]
def r5_12 : List O := [⟨some 71, .move (.tmp 3), 9, none⟩,
  ⟨some 72, .move (.tmp 5), 9, none⟩,
  ⟨some 73, .binOp .add 9 (.tmp 72) (.const (.string ⟨#[10]⟩)) 9, 9, none⟩,
  ⟨some 74, .binOp .add 9 (.tmp 71) (.tmp 73) 9, 9, none⟩,
  ⟨some 3, .assign (.tmp 74), 9, none⟩]
def r5_13 : List O := [⟨some 75, .binOp .add 3 (.tmp 22) (.const (.int .i64 1)) 3, 3, none⟩,
  ⟨some 22, .move (.tmp 75), 3, none⟩]
def r5_14 : List O := [⟨some 77, .move (.tmp 3), 9, none⟩,
  ⟨some 78, .call { callee := .value (.func 19), args := #[.tmp 77], argTypes := #[9] }, 37, none⟩,
  ⟨some 76, .move (.tmp 78), 37, none⟩,
  ⟨some 79, .extract (.tmp 76) 0, 36, none⟩,
  ⟨some 80, .extract (.tmp 76) 1, 3, none⟩,
  ⟨some 81, .extract (.tmp 76) 2, 25, none⟩,
  ⟨some 8, .assign (.tmp 79), 36, none⟩,
  ⟨some 9, .assign (.tmp 80), 3, none⟩,
  ⟨some 10, .assign (.tmp 81), 25, none⟩]
def r5_15 : List O := [⟨some 83, .move (.tmp 3), 9, none⟩,
  ⟨some 84, .binOp .add 9 (.const (.string ⟨#[112, 114, 111, 99, 32, 80, 10]⟩)) (.tmp 83) 9, 9, none⟩,
  ⟨some 85, .binOp .add 9 (.tmp 84) (.const (.string ⟨#[101, 110, 100, 10, 99, 97, 108, 108, 32, 88, 32, 80, 10]⟩)) 9, 9, none⟩,
  ⟨some 86, .call { callee := .value (.func 19), args := #[.tmp 85], argTypes := #[9] }, 37, none⟩,
  ⟨some 82, .move (.tmp 86), 37, none⟩,
  ⟨some 87, .extract (.tmp 82) 0, 36, none⟩,
  ⟨some 88, .extract (.tmp 82) 1, 3, none⟩,
  ⟨some 89, .extract (.tmp 82) 2, 25, none⟩,
  ⟨some 11, .assign (.tmp 87), 36, none⟩,
  ⟨some 12, .assign (.tmp 88), 3, none⟩,
  ⟨some 13, .assign (.tmp 89), 25, none⟩]
def r5_16 : List O := [⟨some 90, .move (.tmp 10), 25, none⟩,
  ⟨some 91, .move (.tmp 13), 25, none⟩,
  ⟨some 92, .binOp .neq 25 (.tmp 90) (.tmp 91) 25, 4, none⟩,
  ⟨some 93, .move (.tmp 92), 4, none⟩,
  ⟨some 94, .move (.tmp 8), 36, some (93, false)⟩,
  ⟨some 95, .call { callee := .builtin .len, args := #[.tmp 94], argTypes := #[36] }, 3, some (93, false)⟩,
  ⟨some 96, .move (.tmp 11), 36, some (93, false)⟩,
  ⟨some 97, .call { callee := .builtin .len, args := #[.tmp 96], argTypes := #[36] }, 3, some (93, false)⟩,
  ⟨some 98, .binOp .neq 3 (.tmp 95) (.tmp 97) 3, 4, some (93, false)⟩,
  ⟨some 99, .pick (.tmp 93) (.const (.bool true)) (.tmp 98), 4, none⟩,
  ⟨some 100, .move (.tmp 99), 4, none⟩,
  ⟨some 101, .move (.tmp 10), 25, some (100, false)⟩,
  ⟨some 102, .binOp .neq 25 (.tmp 101) (.const (.int .i64 0)) 25, 4, some (100, false)⟩,
  ⟨some 103, .move (.tmp 102), 4, some (100, false)⟩,
  ⟨some 104, .move (.tmp 12), 3, some (103, true)⟩,
  ⟨some 105, .move (.tmp 9), 3, some (103, true)⟩,
  ⟨some 106, .binOp .add 3 (.tmp 105) (.const (.int .i64 1)) 3, 3, some (103, true)⟩,
  ⟨some 107, .binOp .neq 3 (.tmp 104) (.tmp 106) 3, 4, some (103, true)⟩,
  ⟨some 108, .pick (.tmp 103) (.tmp 107) (.const (.bool false)), 4, some (100, false)⟩,
  ⟨some 109, .pick (.tmp 100) (.const (.bool true)) (.tmp 108), 4, none⟩]
def r5_17 : List O := [⟨some 2, .assign (.const (.bool false)), 4, none⟩]
def r5_18 : List O := [⟨some 110, .move (.tmp 8), 36, none⟩,
  ⟨some 111, .call { callee := .builtin .len, args := #[.tmp 110], argTypes := #[36] }, 3, none⟩,
  ⟨some 112, .move (.const (.int .i64 0)), 3, none⟩]
def r5_19 : List O := [⟨some 113, .binOp .lss 3 (.tmp 112) (.tmp 111) 3, 0, none⟩]
def r5_20 : List O := [⟨some 114, .move (.tmp 112), 3, none⟩,
  ⟨some 14, .assign (.tmp 114), 3, none⟩]
def r5_21 : List O := [⟨some 115, .move (.tmp 8), 36, none⟩,
  ⟨some 116, .move (.tmp 14), 3, none⟩,
  ⟨some 117, .move (.tmp 8), 36, none⟩,
  ⟨some 118, .move (.tmp 14), 3, none⟩,
  ⟨some 119, .move (.tmp 8), 36, none⟩,
  ⟨some 120, .move (.tmp 14), 3, none⟩,
  ⟨some 121, .indexAddr 36 (.tmp 119) (.tmp 120), 0, none⟩,
  ⟨some 122, .fieldAddr 40 (.tmp 121) 0, 0, none⟩,
  ⟨some 123, .load 3 (.tmp 122), 3, none⟩,
  ⟨some 124, .binOp .add 3 (.tmp 123) (.const (.int .i64 1)) 3, 3, none⟩,
  ⟨some 125, .indexAddr 36 (.tmp 115) (.tmp 116), 0, none⟩,
  ⟨some 126, .fieldAddr 40 (.tmp 125) 0, 0, none⟩,
  ⟨none, .store 3 (.tmp 126) (.tmp 124), 0, none⟩,
  ⟨some 127, .indexAddr 36 (.tmp 117) (.tmp 118), 0, none⟩,
  ⟨some 128, .fieldAddr 40 (.tmp 127) 1, 0, none⟩,
  ⟨none, .store 9 (.tmp 128) (.const (.string ⟨#[88]⟩)), 0, none⟩]
def r5_22 : List O := [⟨some 129, .binOp .add 3 (.tmp 112) (.const (.int .i64 1)) 3, 3, none⟩,
  ⟨some 112, .move (.tmp 129), 3, none⟩]
def r5_23 : List O := [⟨some 130, .move (.tmp 8), 36, none⟩,
  ⟨some 131, .move (.tmp 11), 36, none⟩,
  ⟨some 132, .call { callee := .value (.func 20), args := #[.tmp 130, .tmp 131], argTypes := #[36, 36] }, 4, none⟩,
  ⟨some 2, .assign (.tmp 132), 4, none⟩]
def c5_0 : A := .seq (.reg r5_2 [2]) .ret
def c5_1 : A := .cond (.tmp 16) c5_0 .skip
def c5_2 : A := .seq (.reg r5_4 [2]) .ret
def c5_3 : A := .cond (.tmp 19) c5_2 .skip
def c5_4 : A := .seq (.reg r5_11 [2]) .ret
def c5_5 : A := .cond (.tmp 70) c5_4 .skip
def c5_6 : A := .seq (.seq (.reg r5_10 [3, 5, 20, 21, 22, 70]) c5_5) (.seq (.keep [3, 5, 20, 21, 22]) (.reg r5_12 [3, 20, 21, 22]))
def c5_7 : A := .seq (.reg r5_9 [3, 5, 6, 20, 21, 22]) c5_6
def c5_8 : A := .seq (.reg r5_8 [3, 5, 20, 21, 22]) c5_7
def c5_9 : A := .seq (.block 1 c5_8) (.reg r5_13 [3, 20, 21, 22])
def c5_10 : A := .seq (.cond (.tmp 23) .skip (.exit 0)) (.seq (.keep [3, 20, 21, 22]) c5_9)
def c5_11 : A := .seq (.reg r5_7 [3, 20, 21, 22, 23]) c5_10
def c5_12 : A := .seq c5_11 (.keep [3, 20, 21, 22])
def c5_13 : A := .loop c5_12
def c5_14 : A := .block 0 c5_13
def c5_15 : A := .seq (.reg r5_17 [2]) .ret
def c5_16 : A := .cond (.tmp 109) c5_15 .skip
def c5_17 : A := .seq (.reg r5_20 [8, 11, 14, 111, 112]) (.reg r5_21 [8, 11, 111, 112])
def c5_18 : A := .seq (.block 3 c5_17) (.reg r5_22 [8, 11, 111, 112])
def c5_19 : A := .seq (.cond (.tmp 113) .skip (.exit 2)) (.seq (.keep [8, 11, 111, 112]) c5_18)
def c5_20 : A := .seq (.reg r5_19 [8, 11, 111, 112, 113]) c5_19
def c5_21 : A := .seq c5_20 (.keep [8, 11, 111, 112])
def c5_22 : A := .loop c5_21
def c5_23 : A := .block 2 c5_22
def c5_24 : A := .seq (.reg r5_23 [2]) .ret
def c5_25 : A := .seq (.seq (.reg r5_18 [8, 11, 111, 112]) c5_23) c5_24
def c5_26 : A := .seq (.seq (.reg r5_16 [8, 11, 109]) c5_16) (.seq (.keep [8, 11]) c5_25)
def c5_27 : A := .seq (.reg r5_15 [8, 9, 10, 11, 12, 13]) c5_26
def c5_28 : A := .seq (.reg r5_14 [3, 8, 9, 10]) c5_27
def c5_29 : A := .seq (.seq (.reg r5_6 [3, 20, 21, 22]) c5_14) c5_28
def c5_30 : A := .seq (.reg r5_5 [0, 3]) c5_29
def c5_31 : A := .seq (.seq (.reg r5_3 [0, 19]) c5_3) (.seq (.keep [0]) c5_30)
def c5_32 : A := .seq (.seq (.reg r5_1 [0, 16]) c5_1) (.seq (.keep [0]) c5_31)
def c5 : A := .seq (.reg r5_0 [0]) c5_32
theorem B5 : Body Tryd.prog 5 133 [.tmp 2] c5 := ⟨by kernel_rfl, _, _, [(0, [0]), (1, [0, 16]), (2, [2]), (3, [0, 19]), (4, [2]), (5, [0, 3]), (6, [3, 20, 21, 22]), (7, [3, 20, 21, 22, 23]), (8, [3, 5, 20, 21, 22]), (9, [3, 5, 6, 20, 21, 22]), (10, [3, 5, 20, 21, 22, 70]), (11, [2]), (12, [3, 20, 21, 22]), (13, [3, 20, 21, 22]), (14, [3, 8, 9, 10]), (15, [8, 9, 10, 11, 12, 13]), (16, [8, 11, 109]), (17, [2]), (18, [8, 11, 111, 112]), (19, [8, 11, 111, 112, 113]), (20, [8, 11, 14, 111, 112]), (21, [8, 11, 111, 112]), (22, [8, 11, 111, 112]), (23, [2]), (1007, [3, 20, 21, 22]), (1019, [8, 11, 111, 112]), (2003, [0]), (2005, [0]), (2008, [3, 20, 21, 22]), (2012, [3, 5, 20, 21, 22]), (2018, [8, 11]), (2020, [8, 11, 111, 112])], Tryd.func5, rfl, rfl, rfl, by kernel_rfl⟩
/-! ### 8 dasd/dasdlaw39.JobtextIdle -/
/-! ### 20 dasd/dasdref39.Same -/
def r20_0 : List O := [⟨some 4, .assign (.const (.bool false)), 4, none⟩]
def r20_1 : List O := [⟨some 6, .move (.tmp 0), 36, none⟩,
  ⟨some 7, .call { callee := .builtin .len, args := #[.tmp 6], argTypes := #[36] }, 3, none⟩,
  ⟨some 8, .move (.tmp 1), 36, none⟩,
  ⟨some 9, .call { callee := .builtin .len, args := #[.tmp 8], argTypes := #[36] }, 3, none⟩,
  ⟨some 10, .binOp .neq 3 (.tmp 7) (.tmp 9) 3, 4, none⟩]
def r20_2 : List O := [⟨some 4, .assign (.const (.bool false)), 4, none⟩]
def r20_3 : List O := [⟨some 5, .assign (.const (.int .i64 0)), 3, none⟩]
def r20_4 : List O := [⟨some 11, .move (.tmp 5), 3, none⟩,
  ⟨some 12, .move (.tmp 0), 36, none⟩,
  ⟨some 13, .call { callee := .builtin .len, args := #[.tmp 12], argTypes := #[36] }, 3, none⟩,
  ⟨some 14, .binOp .lss 3 (.tmp 11) (.tmp 13) 3, 4, none⟩]
def r20_6 : List O := [⟨some 17, .move (.tmp 0), 36, none⟩,
  ⟨some 18, .move (.tmp 5), 3, none⟩,
  ⟨some 19, .indexAddr 36 (.tmp 17) (.tmp 18), 0, none⟩,
  ⟨some 20, .load 40 (.tmp 19), 40, none⟩,
  ⟨some 21, .move (.tmp 1), 36, none⟩,
  ⟨some 22, .move (.tmp 5), 3, none⟩,
  ⟨some 23, .indexAddr 36 (.tmp 21) (.tmp 22), 0, none⟩,
  ⟨some 24, .load 40 (.tmp 23), 40, none⟩,
  ⟨some 25, .call { callee := .value (.func 40), args := #[.tmp 20, .tmp 24], argTypes := #[40, 40] }, 4, none⟩,
  ⟨some 26, .unOp .not 4 (.tmp 25), 4, none⟩]
def r20_7 : List O := [⟨some 4, .assign (.const (.bool false)), 4, none⟩]
def r20_5 : List O := [⟨some 15, .move (.tmp 5), 3, none⟩,
  ⟨some 16, .binOp .add 3 (.tmp 15) (.const (.int .i64 1)) 3, 3, none⟩,
  ⟨some 5, .assign (.tmp 16), 3, none⟩]
def r20_8 : List O := [⟨some 4, .assign (.const (.bool true)), 4, none⟩]
def c20_0 : A := .seq (.reg r20_2 [4]) .ret
def c20_1 : A := .cond (.tmp 10) c20_0 .skip
def c20_2 : A := .cond (.tmp 14) .skip (.exit 0)
def c20_3 : A := .seq (.reg r20_7 [4]) .ret
def c20_4 : A := .cond (.tmp 26) c20_3 .skip
def c20_5 : A := .seq (.draw 8 r20_6 [0, 1, 5, 26]) c20_4
def c20_6 : A := .seq (.block 1 c20_5) (.reg r20_5 [0, 1, 5])
def c20_7 : A := .seq (.seq (.reg r20_4 [0, 1, 5, 14]) c20_2) (.seq (.keep [0, 1, 5]) c20_6)
def c20_8 : A := .seq c20_7 (.keep [0, 1, 5])
def c20_9 : A := .loop c20_8
def c20_10 : A := .block 0 c20_9
def c20_11 : A := .seq (.reg r20_8 [4]) .ret
def c20_12 : A := .seq (.seq (.reg r20_3 [0, 1, 5]) c20_10) c20_11
def c20_13 : A := .seq (.seq (.reg r20_1 [0, 1, 10]) c20_1) (.seq (.keep [0, 1]) c20_12)
def c20 : A := .seq (.reg r20_0 [0, 1]) c20_13
theorem B20 : Body Tryd.prog 20 27 [.tmp 4] c20 := ⟨by kernel_rfl, _, _, [(0, [0, 1]), (1, [0, 1, 10]), (2, [4]), (3, [0, 1, 5]), (4, [0, 1, 5, 14]), (5, [0, 1, 5]), (6, [0, 1, 5, 26]), (7, [4]), (8, [4]), (1004, [0, 1, 5]), (2003, [0, 1]), (2006, [0, 1, 5])], Tryd.func20, rfl, rfl, rfl, by kernel_rfl⟩
/-! ### 40 dasd/dasdref39.SameStatement -/
def r40_0 : List O := [⟨some 2, .box 40 (.tmp 0), 0, none⟩,
  ⟨some 3, .box 40 (.tmp 1), 0, none⟩,
  ⟨some 4, .assign (.const (.bool false)), 4, none⟩]
def r40_1 : List O := [⟨some 5, .fieldAddr 40 (.tmp 2) 0, 0, none⟩,
  ⟨some 6, .load 3 (.tmp 5), 3, none⟩,
  ⟨some 7, .fieldAddr 40 (.tmp 3) 0, 0, none⟩,
  ⟨some 8, .load 3 (.tmp 7), 3, none⟩,
  ⟨some 9, .binOp .eql 3 (.tmp 6) (.tmp 8) 3, 4, none⟩,
  ⟨some 10, .move (.tmp 9), 4, none⟩,
  ⟨some 11, .fieldAddr 40 (.tmp 2) 1, 0, some (10, true)⟩,
  ⟨some 12, .load 9 (.tmp 11), 9, some (10, true)⟩,
  ⟨some 13, .fieldAddr 40 (.tmp 3) 1, 0, some (10, true)⟩,
  ⟨some 14, .load 9 (.tmp 13), 9, some (10, true)⟩,
  ⟨some 15, .binOp .eql 9 (.tmp 12) (.tmp 14) 9, 4, some (10, true)⟩,
  ⟨some 16, .pick (.tmp 10) (.tmp 15) (.const (.bool false)), 4, none⟩,
  ⟨some 17, .move (.tmp 16), 4, none⟩,
  ⟨some 18, .fieldAddr 40 (.tmp 2) 2, 0, some (17, true)⟩,
  ⟨some 19, .load 24 (.tmp 18), 24, some (17, true)⟩,
  ⟨some 20, .fieldAddr 40 (.tmp 3) 2, 0, some (17, true)⟩,
  ⟨some 21, .load 24 (.tmp 20), 24, some (17, true)⟩,
  ⟨some 22, .call { callee := .value (.func 14), args := #[.tmp 19, .tmp 21], argTypes := #[24, 24] }, 4, some (17, true)⟩,
  ⟨some 23, .pick (.tmp 17) (.tmp 22) (.const (.bool false)), 4, none⟩,
  ⟨some 24, .move (.tmp 23), 4, none⟩,
  ⟨some 25, .fieldAddr 40 (.tmp 2) 3, 0, some (24, true)⟩,
  ⟨some 26, .load 24 (.tmp 25), 24, some (24, true)⟩,
  ⟨some 27, .fieldAddr 40 (.tmp 3) 3, 0, some (24, true)⟩,
  ⟨some 28, .load 24 (.tmp 27), 24, some (24, true)⟩,
  ⟨some 29, .call { callee := .value (.func 14), args := #[.tmp 26, .tmp 28], argTypes := #[24, 24] }, 4, some (24, true)⟩,
  ⟨some 30, .pick (.tmp 24) (.tmp 29) (.const (.bool false)), 4, none⟩,
  ⟨some 4, .assign (.tmp 30), 4, none⟩]
def c40_0 : A := .seq (.reg r40_1 [4]) .ret
def c40 : A := .seq (.reg r40_0 [2, 3]) c40_0
theorem B40 : Body Tryd.prog 40 31 [.tmp 4] c40 := ⟨by kernel_rfl, _, _, [(0, [2, 3]), (1, [4])], Tryd.func40, rfl, rfl, rfl, by kernel_rfl⟩
end Go.Proofs.YtoabcmhiaknjiaaDoor

/- The reference's comparison of statements; a store into a statement. -/
set_option maxRecDepth 100000
set_option linter.unusedSimpArgs false
set_option linter.unusedVariables false
namespace Go.Proofs.YtoabcmhiaknjiaaDoor
open Go.Hw

theorem stmC_at {H : Hp} : ∀ {l : List Stm} {cs : List Value} {i : Nat} {s : Stm}, stmC H l cs → l[i]? = some s →
    ∃ wv dv, cs[i * 4]? = some (.int .i64 s.line) ∧ cs[i * 4 + 1]? = some (.string (B s.call)) ∧ cs[i * 4 + 2]? = some wv ∧ cs[i * 4 + 3]? = some dv ∧ SlV H wv s.words ∧ SlV H dv s.data
  | x :: r, cs, 0, s, ⟨wv, dv, rest, h1, h2, h3, h4⟩, hi => by
    cases hi
    subst h1
    exact ⟨wv, dv, rfl, rfl, rfl, rfl, h2, h3⟩
  | x :: r, cs, i + 1, s, ⟨wv, dv, rest, h1, h2, h3, h4⟩, hi => by
    obtain ⟨wv', dv', q1, q2, q3, q4, q5, q6⟩ := stmC_at (i := i) h4 (by simpa using hi)
    subst h1
    refine ⟨wv', dv', ?_, ?_, ?_, ?_, q5, q6⟩
    · rw [show (i + 1) * 4 = i * 4 + 4 by omega]; exact q1
    · rw [show (i + 1) * 4 + 1 = (i * 4 + 1) + 4 by omega]; exact q2
    · rw [show (i + 1) * 4 + 2 = (i * 4 + 2) + 4 by omega]; exact q3
    · rw [show (i + 1) * 4 + 3 = (i * 4 + 3) + 4 by omega]; exact q4
/-- A statement of a slice of statements. -/
theorem stm_at {H : Hp} {v : Value} {l : List Stm} {i : Nat} {s : Stm} (h : StmsV H v l) (hi : l[i]? = some s) :
    ∃ b off c wv dv, v = .slice (some ⟨b, off, none⟩) l.length c ∧ cellsH H ⟨b, off + i * 4, none⟩ 0 4 = some [.int .i64 s.line, .string (B s.call), wv, dv] ∧ SlV H wv s.words ∧ SlV H dv s.data := by
  obtain ⟨cells, hsl, hst⟩ := h
  obtain ⟨wv, dv, q0, q1, q2, q3, q4, q5⟩ := stmC_at hst hi
  have hil : i < l.length := by
    rcases Nat.lt_or_ge i l.length with h | h
    · exact h
    · rw [List.getElem?_eq_none h] at hi; cases hi
  obtain ⟨b, off, c, hv, hc⟩ := hsl.cell hil
  refine ⟨b, off, c, wv, dv, hv, ?_, q4, q5⟩
  obtain ⟨u0, e0, c0⟩ := hc 0 (by decide)
  obtain ⟨u1, e1, c1⟩ := hc 1 (by decide)
  obtain ⟨u2, e2, c2⟩ := hc 2 (by decide)
  obtain ⟨u3, e3, c3⟩ := hc 3 (by decide)
  rw [Nat.add_zero, q0] at e0; cases e0
  rw [q1] at e1; cases e1
  rw [q2] at e2; cases e2
  rw [q3] at e3; cases e3
  have a0 : off + i * 4 + 0 = off + (i * 4 + 0) := by omega
  have a1 : off + i * 4 + (0 + 1) = off + (i * 4 + 1) := by omega
  have a2 : off + i * 4 + (0 + 1 + 1) = off + (i * 4 + 2) := by omega
  have a3 : off + i * 4 + (0 + 1 + 1 + 1) = off + (i * 4 + 3) := by omega
  simp only [cells_s, cells_0, a0, a1, a2, a3, c0, c1, c2, c3, Option.bind_some, Option.map_some]

/-- How long the parts of a statement are. -/
def smallS (s : Stm) : Prop := s.words.length ≤ 1000000 ∧ s.data.length ≤ 1000000

theorem sst_c {H : Hp} {K : Ending → Hp → Prop} {wa da wb db : Value} {s : Stm} (hs : smallS s) (h1 : SlV H wa s.words) (h2 : SlV H da s.data) (h3 : SlV H wb s.words) (h4 : SlV H db s.data) (h : ∀ G, Ext H G → K (.returned (.bool true)) G) :
    HCall Tryd.prog 40 #[.agg #[.int .i64 s.line, .string (B s.call), wa, da], .agg #[.int .i64 s.line, .string (B s.call), wb, db]] H K := by
  refine hcall mixed B40 (args := [.agg #[.int .i64 s.line, .string (B s.call), wa, da], .agg #[.int .i64 s.line, .string (B s.call), wb, db]]) (by simp) ?_
  obtain ⟨wa1, wa2, rfl⟩ := h1.form
  obtain ⟨da1, da2, rfl⟩ := h2.form
  obtain ⟨wb1, wb2, rfl⟩ := h3.form
  obtain ⟨db1, db2, rfl⟩ := h4.form
  simp only [go_sem, reduceCtorEq, Nat.reduceEqDiff, Nat.reduceAdd, withc_some, withcs_some, cells_0, cells_s, Option.bind_some, Option.map_some, List.getElem?_toArray, List.getElem?_cons_zero, List.getElem?_cons_succ, Nat.add_zero, Nat.zero_add, Value.cells, splice, List.setIfInBounds_toArray, List.set_cons_zero, List.set_cons_succ, bfill_nil, bfill_cons, bstep_some, withO_some, List.take_zero, List.take_succ_cons, List.drop_zero, List.drop_succ_cons, List.cons_append, List.nil_append, List.append_nil, List.length_cons, List.length_nil, Nat.reduceLeDiff, Nat.le_refl, and_true, true_and, and_self, decide_true, decide_false, Bool.not_true, Bool.not_false, c40, r40_0]
  refine box_kA fun b2 G1 e1 s1 q1 E1 => ?_
  simp only [go_sem, reduceCtorEq, Nat.reduceEqDiff, Nat.reduceAdd, withc_some, withcs_some, cells_0, cells_s, Option.bind_some, Option.map_some, List.getElem?_toArray, List.getElem?_cons_zero, List.getElem?_cons_succ, Nat.add_zero, Nat.zero_add, Value.cells, splice, List.setIfInBounds_toArray, List.set_cons_zero, List.set_cons_succ, bfill_nil, bfill_cons, bstep_some, withO_some, List.take_zero, List.take_succ_cons, List.drop_zero, List.drop_succ_cons, List.cons_append, List.nil_append, List.append_nil, List.length_cons, List.length_nil, Nat.reduceLeDiff, Nat.le_refl, and_true, true_and, and_self, decide_true, decide_false, Bool.not_true, Bool.not_false]
  refine box_kA fun b3 G2 e2 s2 q2 E2 => ?_
  have E := E1.trans E2
  have q12 := E2.get q1
  simp only [go_sem, reduceCtorEq, Nat.reduceEqDiff, Nat.reduceAdd, withc_some, withcs_some, cells_0, cells_s, Option.bind_some, Option.map_some, List.getElem?_toArray, List.getElem?_cons_zero, List.getElem?_cons_succ, Nat.add_zero, Nat.zero_add, Value.cells, splice, List.setIfInBounds_toArray, List.set_cons_zero, List.set_cons_succ, bfill_nil, bfill_cons, bstep_some, withO_some, List.take_zero, List.take_succ_cons, List.drop_zero, List.drop_succ_cons, List.cons_append, List.nil_append, List.append_nil, List.length_cons, List.length_nil, Nat.reduceLeDiff, Nat.le_refl, and_true, true_and, and_self, decide_true, decide_false, Bool.not_true, Bool.not_false, c40_0, r40_1, cell_of_blk q12, cell_of_blk q2, show decide ((s.line : Int) = (s.line : Int)) = true from decide_eq_true rfl, show (s.call == s.call) = true from by simp, B_toList, callA_fn0 pl14, fa40_0, fa40_1, fa40_2, fa40_3, ld24, ld3, ld9]
  refine texts_c _ _ s.words s.words ⟨SlE.src (h1.ext E), _, _, rfl⟩ ⟨SlE.src (h3.ext E), _, _, rfl⟩ (by have := hs.1; omega) ?_
  rw [decide_eq_true rfl]
  simp only [go_sem, reduceCtorEq, Nat.reduceEqDiff, Nat.reduceAdd, withc_some, withcs_some, cells_0, cells_s, Option.bind_some, Option.map_some, List.getElem?_toArray, List.getElem?_cons_zero, List.getElem?_cons_succ, Nat.add_zero, Nat.zero_add, Value.cells, splice, List.setIfInBounds_toArray, List.set_cons_zero, List.set_cons_succ, bfill_nil, bfill_cons, bstep_some, withO_some, List.take_zero, List.take_succ_cons, List.drop_zero, List.drop_succ_cons, List.cons_append, List.nil_append, List.append_nil, List.length_cons, List.length_nil, Nat.reduceLeDiff, Nat.le_refl, and_true, true_and, and_self, decide_true, decide_false, Bool.not_true, Bool.not_false, cell_of_blk q12, cell_of_blk q2, callA_fn0 pl14, fa40_0, fa40_1, fa40_2, fa40_3, ld24, ld3, ld9]
  refine texts_c _ _ s.data s.data ⟨SlE.src (h2.ext E), _, _, rfl⟩ ⟨SlE.src (h4.ext E), _, _, rfl⟩ (by have := hs.2; omega) ?_
  rw [decide_eq_true rfl]
  simp only [go_sem, reduceCtorEq, Nat.reduceEqDiff, Nat.reduceAdd, withc_some, withcs_some, cells_0, cells_s, Option.bind_some, Option.map_some, List.getElem?_toArray, List.getElem?_cons_zero, List.getElem?_cons_succ, Nat.add_zero, Nat.zero_add, Value.cells, splice, List.setIfInBounds_toArray, List.set_cons_zero, List.set_cons_succ, bfill_nil, bfill_cons, bstep_some, withO_some, List.take_zero, List.take_succ_cons, List.drop_zero, List.drop_succ_cons, List.cons_append, List.nil_append, List.append_nil, List.length_cons, List.length_nil, Nat.reduceLeDiff, Nat.le_refl, and_true, true_and, and_self, decide_true, decide_false, Bool.not_true, Bool.not_false, callA_fn0 pl14, fa40_0, fa40_1, fa40_2, fa40_3, ld24, ld3, ld9]
  exact h G2 E

theorem same_c {H : Hp} {K : Ending → Hp → Prop} {va vb : Value} {l : List Stm} (hl : l.length ≤ 1000000) (hs : ∀ s ∈ l, smallS s) (h1 : StmsV H va l) (h2 : StmsV H vb l) (h : ∀ G, Ext H G → K (.returned (.bool true)) G) :
    HCall Tryd.prog 20 #[va, vb] H K := by
  refine hcall mixed B20 (args := [va, vb]) (by simp) ?_
  obtain ⟨a1, c1, e1⟩ : ∃ a c, va = .slice a l.length c := by obtain ⟨cells, hsl, _⟩ := h1; exact hsl.form
  obtain ⟨a2, c2, e2⟩ : ∃ a c, vb = .slice a l.length c := by obtain ⟨cells, hsl, _⟩ := h2; exact hsl.form
  subst e1 e2
  simp only [go_sem, reduceCtorEq, Nat.reduceEqDiff, Nat.reduceAdd, withc_some, withcs_some, cells_0, cells_s, Option.bind_some, Option.map_some, List.getElem?_toArray, List.getElem?_cons_zero, List.getElem?_cons_succ, Nat.add_zero, Nat.zero_add, Value.cells, splice, List.setIfInBounds_toArray, List.set_cons_zero, List.set_cons_succ, bfill_nil, bfill_cons, bstep_some, withO_some, List.take_zero, List.take_succ_cons, List.drop_zero, List.drop_succ_cons, List.cons_append, List.nil_append, List.append_nil, List.length_cons, List.length_nil, Nat.reduceLeDiff, Nat.le_refl, and_true, true_and, and_self, decide_true, decide_false, Bool.not_true, Bool.not_false, c20, r20_0, c20_13, r20_1, show decide ((l.length : Int) = (l.length : Int)) = true from decide_eq_true rfl, c20_1, c20_12, r20_3, c20_10, len_slice Tryd.underlying36]
  refine aw_while (L := c20_9) rfl (fun m F G => ∃ i : Nat, m = l.length - i ∧ F = [(0, .slice a1 l.length c1), (1, .slice a2 l.length c2), (5, .int .i64 i)] ∧ Ext H G ∧ i ≤ l.length) (m := l.length)
    ⟨0, rfl, rfl, Ext.refl _, Nat.zero_le _⟩ ?_
  rintro m F G ih ⟨i, rfl, rfl, hE, hi⟩
  by_cases hlt : i < l.length
  · obtain ⟨s, hsi⟩ : ∃ s, l[i]? = some s := ⟨l[i], List.getElem?_eq_getElem hlt⟩
    have e3 : decide ((i : Int) < (l.length : Int)) = true := by rw [decide_eq_true_eq]; omega
    have x1 : StmsV G (.slice a1 l.length c1) l := by
      obtain ⟨cells, p1, p2⟩ := h1
      exact ⟨cells, SlE.ext p1 hE, stmC.mono (fun v ws hv => SlE.ext hv hE) _ _ p2⟩
    have x2 : StmsV G (.slice a2 l.length c2) l := by
      obtain ⟨cells, p1, p2⟩ := h2
      exact ⟨cells, SlE.ext p1 hE, stmC.mono (fun v ws hv => SlE.ext hv hE) _ _ p2⟩
    obtain ⟨b1, o1, cc1, wv1, dv1, ee1, k1, w1, d1⟩ := stm_at x1 hsi
    obtain ⟨b2, o2, cc2, wv2, dv2, ee2, k2, w2, d2⟩ := stm_at x2 hsi
    cases ee1
    cases ee2
    simp only [go_sem, reduceCtorEq, Nat.reduceEqDiff, Nat.reduceAdd, withc_some, withcs_some, cells_0, cells_s, Option.bind_some, Option.map_some, List.getElem?_toArray, List.getElem?_cons_zero, List.getElem?_cons_succ, Nat.add_zero, Nat.zero_add, Value.cells, splice, List.setIfInBounds_toArray, List.set_cons_zero, List.set_cons_succ, bfill_nil, bfill_cons, bstep_some, withO_some, List.take_zero, List.take_succ_cons, List.drop_zero, List.drop_succ_cons, List.cons_append, List.nil_append, List.append_nil, List.length_cons, List.length_nil, Nat.reduceLeDiff, Nat.le_refl, and_true, true_and, and_self, decide_true, decide_false, Bool.not_true, Bool.not_false, c20_8, c20_7, r20_4, e3, c20_2, c20_6, c20_5, r20_6, callA_fn0 pl40, callQ_fn0 pl40, ld40, len_slice Tryd.underlying36]
    rw [iadQ_slice Tryd.underlying36 ty40 (by omega) (by omega)]
    simp only [go_sem, reduceCtorEq, Nat.reduceEqDiff, Nat.reduceAdd, withc_some, withcs_some, cells_0, cells_s, Option.bind_some, Option.map_some, List.getElem?_toArray, List.getElem?_cons_zero, List.getElem?_cons_succ, Nat.add_zero, Nat.zero_add, Value.cells, splice, List.setIfInBounds_toArray, List.set_cons_zero, List.set_cons_succ, bfill_nil, bfill_cons, bstep_some, withO_some, List.take_zero, List.take_succ_cons, List.drop_zero, List.drop_succ_cons, List.cons_append, List.nil_append, List.append_nil, List.length_cons, List.length_nil, Nat.reduceLeDiff, Nat.le_refl, and_true, true_and, and_self, decide_true, decide_false, Bool.not_true, Bool.not_false, add_none, Int.toNat_natCast, callA_fn0 pl40, callQ_fn0 pl40, ld40, len_slice Tryd.underlying36]
    rw [loadQ_agg Tryd.underlying40 rfl ty40 k1]
    simp only [go_sem, reduceCtorEq, Nat.reduceEqDiff, Nat.reduceAdd, withc_some, withcs_some, cells_0, cells_s, Option.bind_some, Option.map_some, List.getElem?_toArray, List.getElem?_cons_zero, List.getElem?_cons_succ, Nat.add_zero, Nat.zero_add, Value.cells, splice, List.setIfInBounds_toArray, List.set_cons_zero, List.set_cons_succ, bfill_nil, bfill_cons, bstep_some, withO_some, List.take_zero, List.take_succ_cons, List.drop_zero, List.drop_succ_cons, List.cons_append, List.nil_append, List.append_nil, List.length_cons, List.length_nil, Nat.reduceLeDiff, Nat.le_refl, and_true, true_and, and_self, decide_true, decide_false, Bool.not_true, Bool.not_false, callA_fn0 pl40, callQ_fn0 pl40, ld40, len_slice Tryd.underlying36]
    rw [iadQ_slice Tryd.underlying36 ty40 (by omega) (by omega)]
    simp only [go_sem, reduceCtorEq, Nat.reduceEqDiff, Nat.reduceAdd, withc_some, withcs_some, cells_0, cells_s, Option.bind_some, Option.map_some, List.getElem?_toArray, List.getElem?_cons_zero, List.getElem?_cons_succ, Nat.add_zero, Nat.zero_add, Value.cells, splice, List.setIfInBounds_toArray, List.set_cons_zero, List.set_cons_succ, bfill_nil, bfill_cons, bstep_some, withO_some, List.take_zero, List.take_succ_cons, List.drop_zero, List.drop_succ_cons, List.cons_append, List.nil_append, List.append_nil, List.length_cons, List.length_nil, Nat.reduceLeDiff, Nat.le_refl, and_true, true_and, and_self, decide_true, decide_false, Bool.not_true, Bool.not_false, add_none, Int.toNat_natCast, callA_fn0 pl40, callQ_fn0 pl40, ld40, len_slice Tryd.underlying36]
    rw [loadQ_agg Tryd.underlying40 rfl ty40 k2]
    simp only [go_sem, reduceCtorEq, Nat.reduceEqDiff, Nat.reduceAdd, withc_some, withcs_some, cells_0, cells_s, Option.bind_some, Option.map_some, List.getElem?_toArray, List.getElem?_cons_zero, List.getElem?_cons_succ, Nat.add_zero, Nat.zero_add, Value.cells, splice, List.setIfInBounds_toArray, List.set_cons_zero, List.set_cons_succ, bfill_nil, bfill_cons, bstep_some, withO_some, List.take_zero, List.take_succ_cons, List.drop_zero, List.drop_succ_cons, List.cons_append, List.nil_append, List.append_nil, List.length_cons, List.length_nil, Nat.reduceLeDiff, Nat.le_refl, and_true, true_and, and_self, decide_true, decide_false, Bool.not_true, Bool.not_false, callA_fn0 pl40, callQ_fn0 pl40, ld40, len_slice Tryd.underlying36]
    refine sst_c (hs s (List.mem_of_getElem? hsi)) w1 d1 w2 d2 fun G1 E1 => ?_
    simp only [go_sem, reduceCtorEq, Nat.reduceEqDiff, Nat.reduceAdd, withc_some, withcs_some, cells_0, cells_s, Option.bind_some, Option.map_some, List.getElem?_toArray, List.getElem?_cons_zero, List.getElem?_cons_succ, Nat.add_zero, Nat.zero_add, Value.cells, splice, List.setIfInBounds_toArray, List.set_cons_zero, List.set_cons_succ, bfill_nil, bfill_cons, bstep_some, withO_some, List.take_zero, List.take_succ_cons, List.drop_zero, List.drop_succ_cons, List.cons_append, List.nil_append, List.append_nil, List.length_cons, List.length_nil, Nat.reduceLeDiff, Nat.le_refl, and_true, true_and, and_self, decide_true, decide_false, Bool.not_true, Bool.not_false, c20_4, r20_5, wrap_one (show i + 1 ≤ 9223372036854775807 by omega), callA_fn0 pl40, callQ_fn0 pl40, ld40, len_slice Tryd.underlying36]
    exact ih _ _ _ (by omega) ⟨i + 1, rfl, rfl, hE.trans E1, by omega⟩
  · have e3 : decide ((i : Int) < (l.length : Int)) = false := by rw [decide_eq_false_iff_not]; omega
    simp only [go_sem, reduceCtorEq, Nat.reduceEqDiff, Nat.reduceAdd, withc_some, withcs_some, cells_0, cells_s, Option.bind_some, Option.map_some, List.getElem?_toArray, List.getElem?_cons_zero, List.getElem?_cons_succ, Nat.add_zero, Nat.zero_add, Value.cells, splice, List.setIfInBounds_toArray, List.set_cons_zero, List.set_cons_succ, bfill_nil, bfill_cons, bstep_some, withO_some, List.take_zero, List.take_succ_cons, List.drop_zero, List.drop_succ_cons, List.cons_append, List.nil_append, List.append_nil, List.length_cons, List.length_nil, Nat.reduceLeDiff, Nat.le_refl, and_true, true_and, and_self, decide_true, decide_false, Bool.not_true, Bool.not_false, c20_8, c20_7, r20_4, e3, c20_2, c20_11, r20_8, callA_fn0 pl40, callQ_fn0 pl40, ld40, len_slice Tryd.underlying36]
    exact h G hE
end Go.Proofs.YtoabcmhiaknjiaaDoor

/- Rows whose numbers are moved; a procedure without symbols. -/
set_option maxRecDepth 100000
set_option linter.unusedVariables false
set_option linter.unusedSimpArgs false
namespace Go.Proofs.YtoabcmhiaknjiaaDoor
open Go.Hw

def shR (d : Nat) (x : Row) : Row := (x.1 + d, x.2)
def shH (d : Nat) (h : HR) : HR := ⟨h.n, if h.code = 0 then h.line else h.line + d, h.code⟩
theorem shH_0 (d n : Nat) : shH d ⟨n, 0, 0⟩ = ⟨n, 0, 0⟩ := rfl
theorem shH_e {d n k : Nat} {c : Int} (h : c ≠ 0) : shH d ⟨n, k, c⟩ = ⟨n, k + d, c⟩ := by simp [shH, h]
theorem rowsFrom_shR (d : Nat) : ∀ (k : Nat) (a : List (List UInt8)), (rowsFrom k a).map (shR d) = rowsFrom (k + d) a
  | k, [] => rfl
  | k, t :: r => by
    show shR d (k + 1, t) :: (rowsFrom (k + 1) r).map (shR d) = (k + d + 1, t) :: rowsFrom (k + d + 1) r
    rw [rowsFrom_shR d (k + 1) r]
    simp [shR, Nat.add_right_comm]

theorem readT_map {LF LF' : RS → Row → List Row → RS × HR} (f : RS → RS) (d : Nat) (Ok : Row → Prop) (Good : RS → Prop)
    (h : ∀ s x rest, (∀ y ∈ x :: rest, Ok y) → Good s → LF' (f s) (shR d x) (rest.map (shR d)) = (f (LF s x rest).1, shH d (LF s x rest).2) ∧ Good (LF s x rest).1) :
    ∀ (n : Nat) (s : RS) (rows : List Row), (∀ y ∈ rows, Ok y) → Good s → readT LF' n (f s) (rows.map (shR d)) = (f (readT LF n s rows).1, (if (readT LF n s rows).2.2 = 0 then (readT LF n s rows).2.1 else (readT LF n s rows).2.1 + d), (readT LF n s rows).2.2)
  | 0, s, rows, _, _ => rfl
  | n + 1, s, [], _, _ => rfl
  | n + 1, s, x :: rest, ho, hg => by
    obtain ⟨h1, h2⟩ := h s x rest ho hg
    rw [List.map_cons]
    unfold readT
    rw [h1]
    show (if (LF s x rest).2.code = 0 then _ else _) = _
    by_cases hc : (LF s x rest).2.code = 0
    · rw [if_pos hc, if_pos hc]
      show readT LF' n (f (LF s x rest).1) ((rest.map (shR d)).drop (LF s x rest).2.n) = _
      rw [← List.map_drop]
      exact readT_map f d Ok Good h n _ _ (fun y hy => ho y (List.mem_cons_of_mem _ (List.mem_of_mem_drop hy))) h2
    · rw [if_neg hc, if_neg hc]
      show (f (LF s x rest).1, (shH d (LF s x rest).2).line, (shH d (LF s x rest).2).code) = (_, (if (LF s x rest).2.code = 0 then _ else _), _)
      rw [if_neg hc]
      show (_, (if (LF s x rest).2.code = 0 then _ else _), _) = _
      rw [if_neg hc]
      rfl
theorem inlineT_sh (d k : Nat) : ∀ (r : List Row) (acc : List (List UInt8)), inlineT (k + d) (r.map (shR d)) acc = match inlineT k r acc with | .error p => .error (p.1 + d, p.2) | .ok l => .ok l
  | [], acc => rfl
  | (m, t) :: r, acc => by
    have e : ∀ (k m : Nat) (R : List Row), inlineT k ((m, t) :: R) acc = if t = [47, 42] then .ok acc else if 64 ≤ acc.length ∨ 200 < t.length then .error (m, 8) else inlineT k R (acc ++ [t]) := fun _ _ _ => rfl
    show inlineT (k + d) ((m + d, t) :: r.map (shR d)) acc = _
    rw [e, e]
    by_cases h1 : t = [47, 42]
    · rw [if_pos h1, if_pos h1]
    · rw [if_neg h1, if_neg h1]
      by_cases h2 : 64 ≤ acc.length ∨ 200 < t.length
      · rw [if_pos h2, if_pos h2]
      · rw [if_neg h2, if_neg h2]
        exact inlineT_sh d k r _
theorem stmF_sh {d : Nat} {c0 c1 : List UInt8} (g : Stm → Stm) (hg : ∀ (k : Nat) (w l : List (List UInt8)), g ⟨k, c0, w, l⟩ = ⟨k + d, c1, w, l⟩) (out : List Stm) (k : Nat) (rest : List Row) (ws : List (List UInt8)) :
    stmF (out.map g) c1 (k + d) (rest.map (shR d)) ws = ((stmF out c0 k rest ws).1.map g, shH d (stmF out c0 k rest ws).2) := by
  unfold stmF
  rw [List.length_map]
  by_cases h1 : 400 ≤ out.length
  · rw [if_pos h1, if_pos h1]; rfl
  · rw [if_neg h1, if_neg h1]
    by_cases h2 : ws[0]? = some [100, 100] ∧ ws.length = 3 ∧ ws[2]? = some [105, 110, 108, 105, 110, 101]
    · rw [if_pos h2, if_pos h2, inlineT_sh]
      cases hi : inlineT k rest [] with
      | error p =>
        obtain ⟨m, c⟩ := p
        have hc := inlineT_err k rest [] m c hi
        show (out.map g, (⟨0, m + d, c⟩ : HR)) = (out.map g, shH d ⟨0, m, c⟩)
        rw [shH_e hc]
      | ok l =>
        show ((out.map g) ++ [(⟨k + d, c1, ws, l⟩ : Stm)], (⟨l.length + 1, 0, 0⟩ : HR)) = ((out ++ [(⟨k, c0, ws, l⟩ : Stm)]).map g, shH d ⟨l.length + 1, 0, 0⟩)
        rw [List.map_append, List.map_cons, hg, shH_0]; rfl
    · rw [if_neg h2, if_neg h2, List.map_append, List.map_cons, hg]; rfl

theorem lineW_err {sym : List UInt8 → Option (List UInt8)} {t : List UInt8} {e : Int} (h : lineW sym t = .error e) : e ≠ 0 := by
  unfold lineW at h
  split at h
  · cases h
  · split at h
    · split at h
      · cases h; decide
      · cases h
    · rename_i hn
      cases h; exact hn
theorem lineR_sh {d : Nat} {s s' : RS} {k : Nat} {t : List UInt8} {known : List UInt8 → Bool} {hf hf' : List (List UInt8) → RS × HR} (f : RS → RS) (hs : s' = f s) (hy : s'.syms = s.syms)
    (h : ∀ w ws, lineW (s.syms.lookup ·) t = .ok (w :: ws) → known w = true → hf' (w :: ws) = (f (hf (w :: ws)).1, shH d (hf (w :: ws)).2)) :
    lineR s' (k + d) t known hf' = (f (lineR s k t known hf).1, shH d (lineR s k t known hf).2) := by
  unfold lineR
  rw [hy]
  cases hl : lineW (s.syms.lookup ·) t with
  | error e =>
    show (s', (⟨0, k + d, e⟩ : HR)) = (f s, shH d ⟨0, k, e⟩)
    rw [shH_e (lineW_err hl), hs]
  | ok l =>
    match l, hl with
    | [], hl => show (s', (⟨0, 0, 0⟩ : HR)) = (f s, shH d ⟨0, 0, 0⟩); rw [shH_0, hs]
    | w :: ws, hl =>
      show (if known w = true then hf' (w :: ws) else (s', ⟨0, k + d, 3⟩)) = (f (if known w = true then hf (w :: ws) else (s, ⟨0, k, 3⟩)).1, shH d (if known w = true then hf (w :: ws) else (s, ⟨0, k, 3⟩)).2)
      by_cases hk : known w = true
      · rw [if_pos hk, if_pos hk]; exact h w ws hl hk
      · rw [if_neg hk, if_neg hk, hs]
        show (f s, (⟨0, k + d, 3⟩ : HR)) = (f s, shH d ⟨0, k, 3⟩)
        rw [shH_e (by decide)]

/-! ### Idle lines: all numbers move -/
theorem expandF_eq' (LF : RS → Row → List Row → RS × HR) (t : List UInt8) : expandF LF t = if 16384 < t.length ∨ 512 < (linesF t).length then ([], 0, 8) else
    if (readT LF (linesF t).length ⟨[], [], []⟩ (rowsFrom 0 (linesF t))).2.2 = 0 then ((readT LF (linesF t).length ⟨[], [], []⟩ (rowsFrom 0 (linesF t))).1.out, 0, 0)
      else ([], (readT LF (linesF t).length ⟨[], [], []⟩ (rowsFrom 0 (linesF t))).2.1, (readT LF (linesF t).length ⟨[], [], []⟩ (rowsFrom 0 (linesF t))).2.2) := rfl
end Go.Proofs.YtoabcmhiaknjiaaDoor

/- A store into a statement of an own slice. -/
set_option maxRecDepth 100000
set_option linter.unusedSimpArgs false
set_option linter.unusedVariables false
namespace Go.Proofs.YtoabcmhiaknjiaaDoor
open Go.Hw

/-- Setting a cell of a slice of the call's own. -/
theorem own_setC {P : Program} {H : Hp} {t : TypeId} {K : Value → Hp → Prop} {X : List PanicEntry → Hp → Prop} {ok : Nat → Prop} {E : TypeId} {sz b q : Nat} {u : Value} {n by_ cap : Nat} {l : List Value} {z : Option Value} (own : OwnS ok E sz H (.slice (some ⟨b, 0, none⟩) n cap) n l) (hi : q < n * sz) (ht : TyOK P t z 1 by_) (hu : u.cells = #[u]) (h1 : oneC u = true)
    (k : ∀ H', OwnS ok E sz H' (.slice (some ⟨b, 0, none⟩) n cap) n (l.set q u) → Keep (· = b) H H' → H'.size = H.size → K undef H') : storeA P t (.pointer (some ⟨b, q, none⟩)) u K X H := by
  rcases own with ⟨h, _⟩ | ⟨b', cap', c, f, he, h2, h3, h4, h5, h6, h7, h8⟩
  · cases h
  cases he
  have hcap : n * sz ≤ cap * sz := Nat.mul_le_mul_right _ h5
  have hp := putH_blk (e := E) (f := f) [u] 0 H c (off := q) h3 (by intro w hw; simp at hw; subst hw; exact h1) (by simp; omega) (fun j _ _ => h8 j)
  rw [storeA_put ht (by rw [hu]; rfl) (by rw [hu]; exact hp)]
  have hb := get_lt h3
  refine k _ (.inr ⟨b, cap, splice c (q + 0) [u], f, rfl, h2, by rw [Array.getElem?_setIfInBounds]; simp [hb], by rw [size_splice]; exact h4, h5, by rw [List.length_set]; exact h6, ?_, h8⟩) ⟨by simp, fun j hj hn => ?_⟩ (by simp)
  · have : (splice c (q + 0) [u]).toList = c.toList.set q u := by
      simp [splice, Array.toList_setIfInBounds]
    rw [this, ← h7, List.take_set]
  · rw [Array.getElem?_setIfInBounds, if_neg]
    exact fun hbj => hn hbj.symm
theorem stmC_set {H : Hp} {m : Nat} {cl : List UInt8} : ∀ {l : List Stm} {cs : List Value} {i : Nat} {s : Stm}, stmC H l cs → l[i]? = some s →
    stmC H (l.set i { s with line := m }) (cs.set (i * 4) (.int .i64 m)) ∧ stmC H (l.set i { s with call := cl }) (cs.set (i * 4 + 1) (.string (B cl)))
  | x :: r, cs, 0, s, ⟨wv, dv, rest, h1, h2, h3, h4⟩, hi => by
    cases hi
    subst h1
    exact ⟨⟨wv, dv, rest, rfl, h2, h3, h4⟩, ⟨wv, dv, rest, rfl, h2, h3, h4⟩⟩
  | x :: r, cs, i + 1, s, ⟨wv, dv, rest, h1, h2, h3, h4⟩, hi => by
    obtain ⟨q1, q2⟩ := stmC_set (m := m) (cl := cl) (i := i) h4 (by simpa using hi)
    subst h1
    refine ⟨⟨wv, dv, _, ?_, h2, h3, q1⟩, ⟨wv, dv, _, ?_, h2, h3, q2⟩⟩
    · rw [show (i + 1) * 4 = i * 4 + 4 by omega]; rfl
    · rw [show (i + 1) * 4 + 1 = (i * 4 + 1) + 4 by omega]; rfl
/-- What another slice of statements sees of a store. -/
theorem StmsO.keep {B b : Nat} {G G' : Hp} {v : Value} {l : List Stm} {c : Array Value} {f : Nat × Nat} (h : StmsO B G v l) (hb : G[b]? = some (.cells c 40 f)) (hlt : b < B) (k : Keep (· = b) G G') : StmsO B G' v l := by
  obtain ⟨cells, h1, h2⟩ := h
  refine ⟨cells, ?_, stmC.mono (fun v ws hv => sl_kk hv (keepK_of hb k) (by decide)) _ _ h2⟩
  rcases h1 with h | ⟨b', cap, c', f', o1, o2, o3, o4⟩
  · exact .inl h
  · refine .inr ⟨b', cap, c', f', o1, o2, k.get o3 ?_, o4⟩
    intro e; subst e; exact absurd o2 (by show ¬ B ≤ b'; omega)
theorem StmsO.ext {B : Nat} {G G' : Hp} {v : Value} {l : List Stm} (h : StmsO B G v l) (e : Ext G G') : StmsO B G' v l := by
  obtain ⟨cells, h1, h2⟩ := h
  exact ⟨cells, h1.ext e, stmC.mono (fun v ws hv => SlE.ext hv e) _ _ h2⟩
theorem StmsO.form {B : Nat} {G : Hp} {v : Value} {l : List Stm} (h : StmsO B G v l) : ∃ a c, v = .slice a l.length c := by
  obtain ⟨cells, h1, h2⟩ := h
  exact (SlE.own h1).form
/-- A statement of an own slice: where it lies, and what a store does. -/
theorem stm_own {B : Nat} {G : Hp} {v : Value} {l : List Stm} {i : Nat} {s : Stm} (h : StmsO B G v l) (hi : l[i]? = some s) :
    ∃ b c cc ff, v = .slice (some ⟨b, 0, none⟩) l.length c ∧ B ≤ b ∧ G[b]? = some (.cells cc 40 ff) ∧ cellH G ⟨b, i * 4, none⟩ = some (.int .i64 s.line) ∧
      (∀ (m : Nat) (K : Value → Hp → Prop) (X : List PanicEntry → Hp → Prop), (∀ G', StmsO B G' v (l.set i { s with line := m }) → Keep (· = b) G G' → G'.size = G.size → K undef G') → storeA Tryd.prog 3 (.pointer (some ⟨b, i * 4, none⟩)) (.int .i64 m) K X G) ∧
      (∀ (m : List UInt8) (K : Value → Hp → Prop) (X : List PanicEntry → Hp → Prop), (∀ G', StmsO B G' v (l.set i { s with call := m }) → Keep (· = b) G G' → G'.size = G.size → K undef G') → storeA Tryd.prog 9 (.pointer (some ⟨b, i * 4 + 1, none⟩)) (.string (Go.Hw.B m)) K X G) := by
  obtain ⟨cells, h1, h2⟩ := h
  have hil : i < l.length := by
    rcases Nat.lt_or_ge i l.length with h | h
    · exact h
    · rw [List.getElem?_eq_none h] at hi; cases hi
  obtain ⟨wv, dv, q0, _⟩ := stmC_at h2 hi
  have h1' := h1
  rcases h1 with ⟨_, h, _⟩ | ⟨b, cap, c, f, rfl, o2, o3, o4, o5, o6, o7, o8⟩
  · omega
  have hw : ∀ {G' : Hp} (k : Keep (· = b) G G') (v : Value) (ws : List (List UInt8)), SlV G v ws → SlV G' v ws := fun k v ws hv => sl_kk hv (keepK_of o3 k) (by decide)
  refine ⟨b, cap, c, f, rfl, o2, o3, ?_, ?_, ?_⟩
  · obtain ⟨b', off', c', e, hc⟩ := (SlE.own h1').cell hil
    obtain ⟨u, e1, e2⟩ := hc 0 (by decide)
    cases e
    rw [Nat.add_zero, q0] at e1
    cases e1
    rw [Nat.add_zero, Nat.zero_add] at e2
    exact e2
  · intro m K X k
    refine own_setC h1' (by omega) ty3 rfl rfl fun G' own' k' s' => k G' ⟨_, by rw [List.length_set]; exact own', stmC.mono (hw k') _ _ (stmC_set (m := m) (cl := []) h2 hi).1⟩ k' s'
  · intro m K X k
    refine own_setC h1' (by omega) ty9 rfl rfl fun G' own' k' s' => k G' ⟨_, by rw [List.length_set]; exact own', stmC.mono (hw k') _ _ (stmC_set (m := 0) (cl := m) h2 hi).2⟩ k' s'
end Go.Proofs.YtoabcmhiaknjiaaDoor

/- How large the statements are that a text gives. -/
set_option maxRecDepth 100000
set_option linter.unusedVariables false
set_option linter.unusedSimpArgs false
namespace Go.Proofs.YtoabcmhiaknjiaaDoor
open Go.Hw

def smallM (M : Nat) (s : Stm) : Prop := s.line ≤ M ∧ s.words.length ≤ 1000 ∧ s.data.length ≤ 64
structure Sm (M : Nat) (s : RS) : Prop where
  len : s.out.length ≤ 400
  out : ∀ x ∈ s.out, smallM M x
  procs : ∀ p ∈ s.procs, ∀ y ∈ p.2.2, y.1 ≤ M
theorem lineW_count {sym : List UInt8 → Option (List UInt8)} {t : List UInt8} {ws : List (List UInt8)} (h : lineW sym t = .ok ws) : ws.length ≤ 1000 := by
  unfold lineW at h
  split at h
  · cases h; simp
  · split at h
    · have hb : (replR sym t).1.length ≤ 1000 := by
        unfold replR
        split
        · split
          · simp
          · simp; omega
        · simp
      cases hs : scanF (replR sym t).1 with
      | none => rw [hs] at h; cases h
      | some w =>
        rw [hs] at h
        cases h
        have := scanF_len hs
        omega
    · cases h
theorem stmF_small {M : Nat} {out : List Stm} {call : List UInt8} {k : Nat} {rest : List Row} {ws : List (List UInt8)} (h1 : out.length ≤ 400) (h2 : ∀ x ∈ out, smallM M x) (hk : k ≤ M) (hw : ws.length ≤ 1000) :
    (stmF out call k rest ws).1.length ≤ 400 ∧ ∀ x ∈ (stmF out call k rest ws).1, smallM M x := by
  have add : ∀ l : List (List UInt8), l.length ≤ 64 → ∀ x ∈ out ++ [(⟨k, call, ws, l⟩ : Stm)], smallM M x := by
    intro l hl x hx
    rcases List.mem_append.1 hx with hx | hx
    · exact h2 x hx
    · simp only [List.mem_cons, List.mem_nil_iff, or_false] at hx
      subst hx
      exact ⟨hk, hw, hl⟩
  unfold stmF
  split
  · exact ⟨h1, h2⟩
  · split
    · cases hi : inlineT k rest [] with
      | error p => exact ⟨h1, h2⟩
      | ok l => exact ⟨by simp; omega, add l (inlineT_len k rest [] l (by simp) hi)⟩
    · exact ⟨by simp; omega, add [] (by simp)⟩
theorem lineR_inv {I : RS → Prop} {s : RS} {k : Nat} {t : List UInt8} {known : List UInt8 → Bool} {hf : List (List UInt8) → RS × HR} (hs : I s) (h : ∀ w ws, lineW (s.syms.lookup ·) t = .ok (w :: ws) → I (hf (w :: ws)).1) : I (lineR s k t known hf).1 := by
  unfold lineR
  cases hl : lineW (s.syms.lookup ·) t with
  | error e => exact hs
  | ok l =>
    match l, hl with
    | [], hl => exact hs
    | w :: ws, hl =>
      show I (if known w = true then hf (w :: ws) else (s, ⟨0, k, 3⟩)).1
      by_cases hk : known w = true
      · rw [if_pos hk]; exact h w ws hl
      · rw [if_neg hk]; exact hs
theorem readT_inv {LF : RS → Row → List Row → RS × HR} (I : RS → Prop) (Ok : Row → Prop) (h : ∀ s x rest, (∀ y ∈ x :: rest, Ok y) → I s → I (LF s x rest).1) : ∀ (n : Nat) (s : RS) (rows : List Row), (∀ y ∈ rows, Ok y) → I s → I (readT LF n s rows).1
  | 0, s, rows, _, hs => hs
  | n + 1, s, [], _, hs => hs
  | n + 1, s, x :: rest, ho, hs => by
    unfold readT
    split
    · exact readT_inv I Ok h n _ _ (fun y hy => ho y (List.mem_cons_of_mem _ (List.mem_of_mem_drop hy))) (h s x rest ho hs)
    · exact h s x rest ho hs
theorem setF_sm {M : Nat} {inn : Bool} {s : RS} {k : Nat} {ws : List (List UInt8)} (hs : Sm M s) : Sm M (setF inn s k ws).1 := by
  unfold setF
  split
  · split
    · exact hs
    · split
      · exact ⟨hs.len, hs.out, hs.procs⟩
      · exact hs
  · split <;> exact hs
theorem procF_sm {M : Nat} {inn : Bool} {s : RS} {k : Nat} {rest : List Row} {ws : List (List UInt8)} (hr : ∀ y ∈ rest, y.1 ≤ M) (hs : Sm M s) : Sm M (procF inn s k rest ws).1 := by
  unfold procF
  split
  · split
    · exact hs
    · split
      · exact hs
      · split
        · exact hs
        · split
          · exact hs
          · split
            · exact hs
            · refine ⟨hs.len, hs.out, ?_⟩
              intro p hp
              rcases List.mem_append.1 hp with hp | hp
              · exact hs.procs p hp
              · simp only [List.mem_cons, List.mem_nil_iff, or_false] at hp
                subst hp
                exact fun y hy => hr y (List.mem_of_mem_take hy)
  · split <;> exact hs
theorem stm_sm {M : Nat} {s : RS} {call : List UInt8} {k : Nat} {rest : List Row} {ws : List (List UInt8)} (hs : Sm M s) (hk : k ≤ M) (hw : ws.length ≤ 1000) : Sm M { s with out := (stmF s.out call k rest ws).1 } :=
  ⟨(stmF_small hs.len hs.out hk hw).1, (stmF_small hs.len hs.out hk hw).2, hs.procs⟩
theorem LFi_sm {M : Nat} {call : List UInt8} {s : RS} {x : Row} {rest : List Row} (hr : ∀ y ∈ x :: rest, y.1 ≤ M) (hs : Sm M s) : Sm M (LFi call s x rest).1 := by
  unfold LFi
  refine lineR_inv hs fun w ws hl => ?_
  unfold hfF
  split
  · exact setF_sm hs
  · split
    · exact procF_sm (fun y hy => hr y (List.mem_cons_of_mem _ hy)) hs
    · split
      · exact hs
      · split
        · unfold callF
          split <;> exact hs
        · exact stm_sm hs (hr x (List.mem_cons_self ..)) (lineW_count hl)
theorem callF_sm {M : Nat} {s : RS} {k : Nat} {ws : List (List UInt8)} (hs : Sm M s) : Sm M (callF LFi false s k ws).1 := by
  unfold callF
  split
  · split
    · exact hs
    · split
      · exact hs
      · split
        · exact hs
        · split
          · exact hs
          · rename_i pv rows hl
            split
            · have h1 : ∀ y ∈ rows, y.1 ≤ M := by
                obtain ⟨p, hp, he⟩ := lookup_mem hl
                have := hs.procs p hp
                rw [he] at this
                exact this
              have key : ∀ (c : List UInt8) (v : Sym), Sm M (readT (LFi c) rows.length { s with syms := v } rows).1 := fun c v =>
                readT_inv (LF := LFi c) (Sm M) (fun y => y.1 ≤ M) (fun s x rest ho h => LFi_sm ho h) rows.length _ rows h1 (show Sm M { s with syms := v } from ⟨hs.len, hs.out, hs.procs⟩)
              exact ⟨(key _ _).len, (key _ _).out, (key _ _).procs⟩
            · exact hs
  · split <;> exact hs
theorem LFo_sm {M : Nat} {s : RS} {x : Row} {rest : List Row} (hr : ∀ y ∈ x :: rest, y.1 ≤ M) (hs : Sm M s) : Sm M (LFo s x rest).1 := by
  unfold LFo
  refine lineR_inv hs fun w ws hl => ?_
  unfold hfF
  split
  · exact setF_sm hs
  · split
    · exact procF_sm (fun y hy => hr y (List.mem_cons_of_mem _ hy)) hs
    · split
      · exact hs
      · split
        · exact callF_sm hs
        · exact stm_sm hs (hr x (List.mem_cons_self ..)) (lineW_count hl)
theorem rowsFrom_le : ∀ (k : Nat) (a : List (List UInt8)), ∀ y ∈ rowsFrom k a, y.1 ≤ k + a.length
  | k, t :: r, y, h => by
    rcases List.mem_cons.1 h with rfl | h
    · simp
    · have := rowsFrom_le (k + 1) r y h
      simp only [List.length_cons]; omega
theorem expand_small (t : List UInt8) : (expandF LFo t).1.length ≤ 400 ∧ ∀ x ∈ (expandF LFo t).1, smallM 512 x := by
  unfold expandF
  split
  · exact ⟨by simp, by simp⟩
  · rename_i hn
    split
    · have := readT_inv (LF := LFo) (Sm 512) (fun y => y.1 ≤ 512) (fun s x rest ho h => LFo_sm ho h) (linesF t).length ⟨[], [], []⟩ (rowsFrom 0 (linesF t)) (fun y hy => by have := rowsFrom_le _ _ y hy; omega) ⟨by simp, by simp, by simp⟩
      exact ⟨this.len, this.out⟩
    · exact ⟨by simp, by simp⟩

/-! ### The line of an error -/
theorem inlineT_lineM {M k : Nat} (hk : k ≤ M) : ∀ (r : List Row) (acc : List (List UInt8)) (m : Nat) (c : Int), (∀ y ∈ r, y.1 ≤ M) → inlineT k r acc = .error (m, c) → m ≤ M
  | [], acc, m, c, _, h => by simp [inlineT] at h; omega
  | (x, t) :: r, acc, m, c, hr, h => by
    unfold inlineT at h
    split at h
    · cases h
    · split at h
      · cases h; exact hr (x, t) (List.mem_cons_self ..)
      · exact inlineT_lineM hk r _ _ _ (fun y hy => hr y (List.mem_cons_of_mem _ hy)) h
theorem stmF_lineM {M : Nat} {out : List Stm} {call : List UInt8} {k : Nat} {rest : List Row} {ws : List (List UInt8)} (hk : k ≤ M) (hr : ∀ y ∈ rest, y.1 ≤ M) : (stmF out call k rest ws).2.line ≤ M := by
  unfold stmF
  split
  · exact hk
  · split
    · cases hi : inlineT k rest [] with
      | error p => exact inlineT_lineM hk rest [] p.1 p.2 hr hi
      | ok l => exact Nat.zero_le _
    · exact Nat.zero_le _
theorem lineR_lineM {M : Nat} {s : RS} {k : Nat} {t : List UInt8} {known : List UInt8 → Bool} {hf : List (List UInt8) → RS × HR} (hk : k ≤ M) (h : ∀ w ws, (hf (w :: ws)).2.line ≤ M) : (lineR s k t known hf).2.line ≤ M := by
  unfold lineR
  split
  · exact hk
  · exact Nat.zero_le _
  · split
    · exact h _ _
    · exact hk
theorem readT_lineM {M : Nat} {LF : RS → Row → List Row → RS × HR} (I : RS → Prop) (Ok : Row → Prop) (hi : ∀ s x rest, (∀ y ∈ x :: rest, Ok y) → I s → I (LF s x rest).1) (h : ∀ s x rest, (∀ y ∈ x :: rest, Ok y) → I s → (LF s x rest).2.line ≤ M) : ∀ (n : Nat) (s : RS) (rows : List Row), (∀ y ∈ rows, Ok y) → I s → (readT LF n s rows).2.1 ≤ M
  | 0, s, rows, _, hs => Nat.zero_le _
  | n + 1, s, [], _, hs => Nat.zero_le _
  | n + 1, s, x :: rest, ho, hs => by
    unfold readT
    split
    · exact readT_lineM I Ok hi h n _ _ (fun y hy => ho y (List.mem_cons_of_mem _ (List.mem_of_mem_drop hy))) (hi s x rest ho hs)
    · exact h s x rest ho hs
theorem setF_lineM {M : Nat} {inn : Bool} {s : RS} {k : Nat} {ws : List (List UInt8)} (hk : k ≤ M) : (setF inn s k ws).2.line ≤ M := by
  unfold setF
  split
  · split
    · exact hk
    · split
      · exact Nat.zero_le _
      · exact hk
  · split <;> exact hk
theorem procF_lineM {M : Nat} {inn : Bool} {s : RS} {k : Nat} {rest : List Row} {ws : List (List UInt8)} (hk : k ≤ M) : (procF inn s k rest ws).2.line ≤ M := by
  unfold procF
  split
  · split
    · exact hk
    · split
      · exact hk
      · split
        · exact hk
        · split
          · exact hk
          · split
            · exact hk
            · exact Nat.zero_le _
  · split <;> exact hk
theorem LFi_lineM {M : Nat} {call : List UInt8} {s : RS} {x : Row} {rest : List Row} (hr : ∀ y ∈ x :: rest, y.1 ≤ M) : (LFi call s x rest).2.line ≤ M := by
  have hk := hr x (List.mem_cons_self ..)
  unfold LFi
  refine lineR_lineM hk fun w ws => ?_
  unfold hfF
  split
  · exact setF_lineM hk
  · split
    · exact procF_lineM hk
    · split
      · exact hk
      · split
        · unfold callF
          split <;> exact hk
        · exact stmF_lineM hk fun y hy => hr y (List.mem_cons_of_mem _ hy)
theorem callF_lineM {M : Nat} {s : RS} {k : Nat} {ws : List (List UInt8)} (hk : k ≤ M) (hs : Sm M s) : (callF LFi false s k ws).2.line ≤ M := by
  unfold callF
  split
  · split
    · exact hk
    · split
      · exact hk
      · split
        · exact hk
        · split
          · exact hk
          · rename_i pv rows hl
            split
            · have h1 : ∀ y ∈ rows, y.1 ≤ M := by
                obtain ⟨p, hp, he⟩ := lookup_mem hl
                have := hs.procs p hp
                rw [he] at this
                exact this
              exact readT_lineM (fun _ => True) (fun y => y.1 ≤ M) (fun _ _ _ _ _ => trivial) (fun s x rest ho _ => LFi_lineM ho) _ _ _ h1 trivial
            · exact hk
  · split <;> exact hk
theorem LFo_lineM {M : Nat} {s : RS} {x : Row} {rest : List Row} (hr : ∀ y ∈ x :: rest, y.1 ≤ M) (hs : Sm M s) : (LFo s x rest).2.line ≤ M := by
  have hk := hr x (List.mem_cons_self ..)
  unfold LFo
  refine lineR_lineM hk fun w ws => ?_
  unfold hfF
  split
  · exact setF_lineM hk
  · split
    · exact procF_lineM hk
    · split
      · exact hk
      · split
        · exact callF_lineM hk hs
        · exact stmF_lineM hk fun y hy => hr y (List.mem_cons_of_mem _ hy)
theorem expand_lineM (t : List UInt8) : (expandF LFo t).2.1 ≤ 512 := by
  unfold expandF
  split
  · exact Nat.zero_le _
  · rename_i hn
    split
    · exact Nat.zero_le _
    · exact readT_lineM (LF := LFo) (Sm 512) (fun y => y.1 ≤ 512) (fun s x rest ho h => LFo_sm ho h) (fun s x rest ho h => LFo_lineM ho h) (linesF t).length ⟨[], [], []⟩ (rowsFrom 0 (linesF t)) (fun y hy => by have := rowsFrom_le _ _ y hy; omega) ⟨by simp, by simp, by simp⟩
end Go.Proofs.YtoabcmhiaknjiaaDoor

/- A procedure without symbols, called once. -/
set_option maxRecDepth 100000
set_option linter.unusedVariables false
set_option linter.unusedSimpArgs false
namespace Go.Proofs.YtoabcmhiaknjiaaDoor
open Go.Hw

theorem contains_byte (c : UInt8) (s : List UInt8) : Lib.contains s [c] = decide (c ∈ s) := by
  unfold Lib.contains
  rcases index_one c s with ⟨h1, h2⟩ | ⟨k, h1, h2, _⟩
  · rw [h1]
    have : ¬ c ∈ s := fun h => h2 c h rfl
    simp [this]
  · rw [h1]
    have : c ∈ s := List.mem_of_getElem? h2
    simp [this]
def badW (w : List UInt8) : Prop := w = [115, 101, 116] ∨ w = [112, 114, 111, 99] ∨ w = [99, 97, 108, 108] ∨ w = [101, 110, 100]
def goodC (s : List UInt8) : Prop := s.length ≤ 100 ∧ 10 ∉ s ∧ 38 ∉ s ∧ ∀ w ws, scanF s = some (w :: ws) → ¬ badW w
def gC (s : Stm) : Stm := { s with line := s.line + 1, call := [88] }
def pP : List UInt8 := [80]
def fC (rows : List Row) (s : RS) : RS := ⟨[], [(pP, [], rows)], s.out.map gC⟩
theorem lineW_words_of {sym : List UInt8 → Option (List UInt8)} {t w : List UInt8} {ws : List (List UInt8)} (hr : replR sym t = (t, 0)) (h : lineW sym t = .ok (w :: ws)) : scanF t = some (w :: ws) := by
  unfold lineW at h
  split at h
  · cases h
  · rw [hr] at h
    simp only [if_true] at h
    split at h
    · cases h
    · rename_i x hx
      cases h; exact hx
theorem hfF_plain {LI : List UInt8 → RS → Row → List Row → RS × HR} {inn : Bool} {call : List UInt8} {s : RS} {k : Nat} {rest : List Row} {w : List UInt8} {ws : List (List UInt8)} (h : ¬ badW w) :
    hfF LI inn call s k rest (w :: ws) = ({ s with out := (stmF s.out call k rest (w :: ws)).1 }, (stmF s.out call k rest (w :: ws)).2) := by
  unfold badW at h
  unfold hfF
  simp only [List.head?_cons, Option.some.injEq]
  rw [if_neg (fun h1 => h (.inl h1)), if_neg (fun h1 => h (.inr (.inl h1))), if_neg (fun h1 => h (.inr (.inr (.inr h1)))), if_neg (fun h1 => h (.inr (.inr (.inl h1))))]
theorem LFi_call {rows : List Row} {s : RS} {x : Row} {rest : List Row} (hx : goodC x.2) (hs : s.syms = []) (hr : ∀ sym, replR sym x.2 = (x.2, 0)) :
    LFi [88] (fC rows s) (shR 1 x) (rest.map (shR 1)) = (fC rows (LFo s x rest).1, shH 1 (LFo s x rest).2) ∧ (LFo s x rest).1.syms = [] := by
  constructor
  · unfold LFi LFo
    refine lineR_sh (fC rows) rfl (by rw [hs]; rfl) fun w ws hl _ => ?_
    have hb := hx.2.2.2 w ws (lineW_words_of (hr _) hl)
    rw [hfF_plain hb, hfF_plain hb]
    have := stmF_sh (d := 1) (c0 := []) (c1 := [88]) gC (fun k w l => rfl) s.out x.1 rest (w :: ws)
    show ((⟨[], _, (stmF (s.out.map gC) [88] (x.1 + 1) (rest.map (shR 1)) (w :: ws)).1⟩ : RS), (stmF (s.out.map gC) [88] (x.1 + 1) (rest.map (shR 1)) (w :: ws)).2) = _
    rw [this]; rfl
  · unfold LFo
    refine lineR_inv (I := fun s => s.syms = []) hs fun w ws hl => ?_
    have hb := hx.2.2.2 w ws (lineW_words_of (hr _) hl)
    rw [hfF_plain hb]
    exact hs

def prL : List UInt8 := [112, 114, 111, 99, 32, 80]
def enL : List UInt8 := [101, 110, 100]
def caL : List UInt8 := [99, 97, 108, 108, 32, 88, 32, 80]
theorem enL_scan : scanF enL = some [[101, 110, 100]] := by
  have e : enL.dropWhile blank = enL := rfl
  unfold scanF
  rw [e, scanT_step _ (by decide) (by decide) (by decide)]
  show scanT [] _ = _
  rw [scanT_nil]
  rfl
theorem prL_word (sym : List UInt8 → Option (List UInt8)) : lineW sym prL = .ok [[112, 114, 111, 99], [80]] := by
  have hr : replR sym prL = (prL, 0) := rfl
  have hs : scanF prL = some [[112, 114, 111, 99], [80]] := by
    have e : prL.dropWhile blank = prL := rfl
    unfold scanF
    rw [e, scanT_step _ (by decide) (by decide) (by decide)]
    rw [show ((firstV prL).2.1.dropWhile blank) = prL.drop 5 from rfl, scanT_step _ (by decide) (by decide) (by decide)]
    show scanT [] _ = _
    rw [scanT_nil]
    rfl
  unfold lineW
  rw [if_neg (by decide), hr, if_pos rfl]
  simp only [hs]
theorem caL_word (sym : List UInt8 → Option (List UInt8)) : lineW sym caL = .ok [[99, 97, 108, 108], [88], [80]] := by
  have hr : replR sym caL = (caL, 0) := rfl
  have hs : scanF caL = some [[99, 97, 108, 108], [88], [80]] := by
    have e : caL.dropWhile blank = caL := rfl
    unfold scanF
    rw [e, scanT_step _ (by decide) (by decide) (by decide)]
    rw [show ((firstV caL).2.1.dropWhile blank) = caL.drop 5 from rfl, scanT_step _ (by decide) (by decide) (by decide)]
    rw [show ((firstV (caL.drop 5)).2.1.dropWhile blank) = caL.drop 7 from rfl, scanT_step _ (by decide) (by decide) (by decide)]
    show scanT [] _ = _
    rw [scanT_nil]
    rfl
  unfold lineW
  rw [if_neg (by decide), hr, if_pos rfl]
  simp only [hs]
theorem endAt_good {r : List Row} : ∀ (ls : List (List UInt8)) (k : Nat), (∀ s ∈ ls, goodC s) → endAt (rowsFrom k ls ++ (k + ls.length + 1, enL) :: r) = some ls.length
  | [], k, _ => by
    show endAt ((k + 0 + 1, enL) :: r) = some 0
    unfold endAt
    rw [if_pos enL_scan]
  | s :: ls, k, h => by
    show endAt ((k + 1, s) :: (rowsFrom (k + 1) ls ++ (k + (ls.length + 1) + 1, enL) :: r)) = some (ls.length + 1)
    unfold endAt
    have hs : ¬ scanF s = some [[101, 110, 100]] := fun e => (h s (List.mem_cons_self ..)).2.2.2 _ _ e (.inr (.inr (.inr rfl)))
    rw [if_neg hs, show k + (ls.length + 1) + 1 = k + 1 + ls.length + 1 by omega, endAt_good ls (k + 1) fun x hx => h x (List.mem_cons_of_mem _ hx)]
    rfl
/-- The law of calls. -/
theorem calls_exp {ls : List (List UInt8)} (hg : ∀ s ∈ ls, goodC s) (hr : ∀ s ∈ ls, ∀ sym, replR sym s = (s, 0)) (hn : ls.length ≤ 40) :
    expandF LFo (txt ([prL] ++ ls ++ [enL, caL])) = ((expandF LFo (txt ls)).1.map gC, (if (expandF LFo (txt ls)).2.2 = 0 then 0 else (expandF LFo (txt ls)).2.1 + 1), (expandF LFo (txt ls)).2.2) := by
  have nl : ∀ s ∈ [prL] ++ ls ++ [enL, caL], (10 : UInt8) ∉ s := by
    intro s hs
    rcases List.mem_append.1 hs with hs | hs
    · rcases List.mem_append.1 hs with hs | hs
      · simp at hs; subst hs; decide
      · exact (hg s hs).2.1
    · simp at hs; rcases hs with rfl | rfl <;> decide
  have L2 : linesF (txt ([prL] ++ ls ++ [enL, caL])) = prL :: (ls ++ [enL, caL]) := by
    have := linesF_txt [] _ nl
    rw [List.append_nil, linesF_nil, List.append_nil] at this
    rw [this]; simp
  have L1 : linesF (txt ls) = ls := by
    have := linesF_txt [] ls fun s hs => (hg s hs).2.1
    rw [List.append_nil, linesF_nil, List.append_nil] at this
    exact this
  have t1 := txt_len ls 100 fun s hs => (hg s hs).1
  have t2 : (txt ([prL] ++ ls ++ [enL, caL])).length = (txt ls).length + 20 := by
    rw [txt_append, txt_append, List.length_append, List.length_append]
    show 7 + (txt ls).length + 13 = _
    omega
  have n2 : ¬ (16384 < (txt ([prL] ++ ls ++ [enL, caL])).length ∨ 512 < (prL :: (ls ++ [enL, caL])).length) := by
    rw [t2]; simp; omega
  have n1 : ¬ (16384 < (txt ls).length ∨ 512 < ls.length) := by omega
  rw [expandF_eq' LFo (txt ([prL] ++ ls ++ [enL, caL])), expandF_eq' LFo (txt ls), L1, L2, if_neg n1, if_neg n2]
  have hrest : rowsFrom 0 (prL :: (ls ++ [enL, caL])) = (1, prL) :: (rowsFrom 1 ls ++ (1 + ls.length + 1, enL) :: [(1 + ls.length + 1 + 1, caL)]) := by
    show (1, prL) :: rowsFrom 1 (ls ++ [enL, caL]) = _
    rw [rowsFrom_append]; rfl
  have hlen : (prL :: (ls ++ [enL, caL])).length = ls.length + 1 + 1 + 1 := by simp
  rw [hrest, hlen]
  have step1 : LFo ⟨[], [], []⟩ (1, prL) (rowsFrom 1 ls ++ (1 + ls.length + 1, enL) :: [(1 + ls.length + 1 + 1, caL)]) = (fC (rowsFrom 1 ls) ⟨[], [], []⟩, ⟨ls.length + 1, 0, 0⟩) := by
    unfold LFo lineR
    rw [prL_word]
    show (if knownW [112, 114, 111, 99] = true then _ else _) = _
    rw [if_pos (by decide)]
    unfold hfF
    rw [if_neg (by decide), if_pos (by decide)]
    unfold procF
    simp only [Bool.false_eq_true, if_false]
    rw [if_neg (by decide), show valuesF [] [] = some [] from rfl]
    simp only
    rw [if_neg (by decide), endAt_good ls 1 hg]
    simp only
    rw [List.take_left' (by rw [rowsFrom_length])]
    rfl
  have step2 : ∀ k, LFo (fC (rowsFrom 1 ls) ⟨[], [], []⟩) (k, caL) [] = ({ (readT (LFi [88]) ls.length (fC (rowsFrom 1 ls) ⟨[], [], []⟩) (rowsFrom 1 ls)).1 with syms := [] }, ⟨0, (readT (LFi [88]) ls.length (fC (rowsFrom 1 ls) ⟨[], [], []⟩) (rowsFrom 1 ls)).2.1, (readT (LFi [88]) ls.length (fC (rowsFrom 1 ls) ⟨[], [], []⟩) (rowsFrom 1 ls)).2.2⟩) := by
    intro k
    unfold LFo lineR
    rw [caL_word]
    show (if knownW [99, 97, 108, 108] = true then _ else _) = _
    rw [if_pos (by decide)]
    unfold hfF
    rw [if_neg (by decide), if_neg (by decide), if_neg (by decide), if_pos (by decide)]
    unfold callF
    simp only [Bool.false_eq_true, if_false]
    rw [if_neg (by decide), show valuesF [] [] = some [] from rfl]
    simp only
    rw [show (fC (rowsFrom 1 ls) ⟨[], [], []⟩).procs.lookup [80] = some ([], rowsFrom 1 ls) from rfl]
    simp only [List.all_nil, if_true, rowsFrom_length]
    rfl
  have sim := readT_map (LF := LFo) (LF' := LFi [88]) (fC (rowsFrom 1 ls)) 1 (fun x => x.2 ∈ ls) (fun s => s.syms = []) (fun s x rest ho hs => LFi_call (hg _ (ho x (List.mem_cons_self ..))) hs (hr _ (ho x (List.mem_cons_self ..))))
    ls.length ⟨[], [], []⟩ (rowsFrom 0 ls) (by
      intro y hy
      have : ∀ (l : List (List UInt8)) (j : Nat), y ∈ rowsFrom j l → y.2 ∈ l := by
        intro l
        induction l with
        | nil => intro j h; cases h
        | cons a l ih =>
          intro j h
          rcases List.mem_cons.1 h with rfl | h
          · exact List.mem_cons_self ..
          · exact List.mem_cons_of_mem _ (ih _ h)
      exact this _ _ hy) rfl
  rw [rowsFrom_shR, show 0 + 1 = 1 from rfl] at sim
  rw [sim] at step2
  conv => lhs; unfold readT
  rw [step1]
  simp only [if_true]
  rw [show (rowsFrom 1 ls ++ (1 + ls.length + 1, enL) :: [(1 + ls.length + 1 + 1, caL)]).drop (ls.length + 1) = [(1 + ls.length + 1 + 1, caL)] by
    rw [List.drop_append, rowsFrom_length, List.drop_of_length_le (by rw [rowsFrom_length]; omega), show ls.length + 1 - ls.length = 1 by omega]; rfl]
  conv => lhs; unfold readT
  rw [step2]
  generalize readT LFo ls.length ⟨[], [], []⟩ (rowsFrom 0 ls) = res
  by_cases hc : res.2.2 = 0
  · simp only [hc, if_true]
    unfold readT
    rfl
  · simp only [hc, if_false]; rfl
end Go.Proofs.YtoabcmhiaknjiaaDoor

set_option maxRecDepth 100000
namespace Go.Proofs.YtoabcmhiaknjiaaDoor
open Go.Hw
/-! ### 16 dasd/dasdref39.Quote -/
end Go.Proofs.YtoabcmhiaknjiaaDoor

/- The reference's Quote. -/
set_option maxRecDepth 100000
set_option linter.unusedSimpArgs false
set_option linter.unusedVariables false
namespace Go.Proofs.YtoabcmhiaknjiaaDoor
open Go.Hw
variable {H : Hp} {K : Ending → Hp → Prop}

end Go.Proofs.YtoabcmhiaknjiaaDoor

/- Words that are quoted and joined by blanks are read as they were. -/
set_option linter.unusedVariables false
namespace Go.Proofs.YtoabcmhiaknjiaaDoor
open Go.Hw

end Go.Proofs.YtoabcmhiaknjiaaDoor

/- JobtextIdle returns true. -/
set_option maxRecDepth 100000
set_option linter.unusedSimpArgs false
set_option linter.unusedVariables false
namespace Go.Proofs.YtoabcmhiaknjiaaDoor
open Go.Hw

theorem mid_set {f : Stm → Stm} : ∀ {l : List Stm} {i : Nat} {s : Stm}, l[i]? = some s → ((l.take i).map f ++ l.drop i).set i (f s) = (l.take (i + 1)).map f ++ l.drop (i + 1) ∧ ((l.take i).map f ++ l.drop i)[i]? = some s
  | x :: r, 0, s, h => by cases h; exact ⟨rfl, rfl⟩
  | x :: r, i + 1, s, h => by
    obtain ⟨h1, h2⟩ := mid_set (f := f) (l := r) (i := i) (s := s) (by simpa using h)
    refine ⟨?_, ?_⟩
    · show f x :: (((r.take i).map f ++ r.drop i).set i (f s)) = _
      rw [h1]; rfl
    · exact h2

end Go.Proofs.YtoabcmhiaknjiaaDoor

/- JobtextCalls returns true. -/
set_option maxRecDepth 100000
set_option linter.unusedSimpArgs false
set_option linter.unusedVariables false
namespace Go.Proofs.YtoabcmhiaknjiaaDoor
open Go.Hw

theorem replT_plain (sym : List UInt8 → Option (List UInt8)) : ∀ (l acc : List UInt8) (n : Nat), 38 ∉ l → replT sym (n + 1) l acc = .ok (acc ++ l)
  | [], acc, n, _ => by rw [replT_nil, List.append_nil]
  | c :: r, acc, n, h => by
    rw [replT_other n r acc (fun e => h (by rw [e]; exact List.mem_cons_self ..)), replT_plain sym r _ n (fun hm => h (List.mem_cons_of_mem _ hm)), List.append_assoc]
    rfl
theorem replR_plain {l : List UInt8} (h : 38 ∉ l) (hl : l.length ≤ 1000) (sym : List UInt8 → Option (List UInt8)) : replR sym l = (l, 0) := by
  unfold replR
  have e : replT sym l.length l [] = .ok l := by
    match l, h with
    | [], _ => rfl
    | c :: r, h => exact replT_plain sym _ [] _ h
  rw [e]
  simp only
  rw [if_neg (by omega)]

set_option maxHeartbeats 400000 in
theorem calls_law {pv : Value} {ls : List (List UInt8)} {H : Hp} {K : Ending → Hp → Prop} (g : G0 H) (hp : StrsV H pv ls) (hl : ∀ s ∈ ls, s.length ≤ 1048576) (hn : ls.length ≤ 1048576) (h : ∀ G, Ext H G → K (.returned (.bool true)) G) :
    HCall Tryd.prog 5 #[pv] H K := by
  refine hcall mixed B5 (args := [pv]) (by simp) ?_
  obtain ⟨pa, pc, rfl⟩ := hp.2
  simp only [go_sem, reduceCtorEq, Nat.reduceEqDiff, Nat.reduceAdd, withc_some, withcs_some, cells_0, cells_s, Option.bind_some, Option.map_some, List.getElem?_toArray, List.getElem?_cons_zero, List.getElem?_cons_succ, Nat.add_zero, Nat.zero_add, Value.cells, splice, List.setIfInBounds_toArray, List.set_cons_zero, List.set_cons_succ, bfill_nil, bfill_cons, bstep_some, withO_some, List.take_zero, List.take_succ_cons, List.drop_zero, List.drop_succ_cons, List.cons_append, List.nil_append, List.append_nil, List.length_cons, List.length_nil, Nat.reduceLeDiff, Nat.le_refl, and_true, true_and, and_self, decide_true, decide_false, Bool.not_true, Bool.not_false, c5, r5_0, c5_32, r5_1, callA_fn0 pl9]
  refine awake_c g fun G1 E1 => ?_
  simp only [go_sem, reduceCtorEq, Nat.reduceEqDiff, Nat.reduceAdd, withc_some, withcs_some, cells_0, cells_s, Option.bind_some, Option.map_some, List.getElem?_toArray, List.getElem?_cons_zero, List.getElem?_cons_succ, Nat.add_zero, Nat.zero_add, Value.cells, splice, List.setIfInBounds_toArray, List.set_cons_zero, List.set_cons_succ, bfill_nil, bfill_cons, bstep_some, withO_some, List.take_zero, List.take_succ_cons, List.drop_zero, List.drop_succ_cons, List.cons_append, List.nil_append, List.append_nil, List.length_cons, List.length_nil, Nat.reduceLeDiff, Nat.le_refl, and_true, true_and, and_self, decide_true, decide_false, Bool.not_true, Bool.not_false, c5_1, c5_31, r5_3, callA_fn0 pl9, len_slice Tryd.underlying24]
  by_cases h40 : 40 < ls.length
  · have e1 : decide ((40 : Int) < (ls.length : Int)) = true := by rw [decide_eq_true_eq]; omega
    simp only [go_sem, reduceCtorEq, Nat.reduceEqDiff, Nat.reduceAdd, withc_some, withcs_some, cells_0, cells_s, Option.bind_some, Option.map_some, List.getElem?_toArray, List.getElem?_cons_zero, List.getElem?_cons_succ, Nat.add_zero, Nat.zero_add, Value.cells, splice, List.setIfInBounds_toArray, List.set_cons_zero, List.set_cons_succ, bfill_nil, bfill_cons, bstep_some, withO_some, List.take_zero, List.take_succ_cons, List.drop_zero, List.drop_succ_cons, List.cons_append, List.nil_append, List.append_nil, List.length_cons, List.length_nil, Nat.reduceLeDiff, Nat.le_refl, and_true, true_and, and_self, decide_true, decide_false, Bool.not_true, Bool.not_false, e1, c5_3, c5_2, r5_4, callA_fn0 pl9, len_slice Tryd.underlying24]
    exact h G1 E1
  have e1 : decide ((40 : Int) < (ls.length : Int)) = false := by rw [decide_eq_false_iff_not]; omega
  simp only [go_sem, reduceCtorEq, Nat.reduceEqDiff, Nat.reduceAdd, withc_some, withcs_some, cells_0, cells_s, Option.bind_some, Option.map_some, List.getElem?_toArray, List.getElem?_cons_zero, List.getElem?_cons_succ, Nat.add_zero, Nat.zero_add, Value.cells, splice, List.setIfInBounds_toArray, List.set_cons_zero, List.set_cons_succ, bfill_nil, bfill_cons, bstep_some, withO_some, List.take_zero, List.take_succ_cons, List.drop_zero, List.drop_succ_cons, List.cons_append, List.nil_append, List.append_nil, List.length_cons, List.length_nil, Nat.reduceLeDiff, Nat.le_refl, and_true, true_and, and_self, decide_true, decide_false, Bool.not_true, Bool.not_false, e1, c5_3, c5_30, r5_5, c5_29, r5_6, c5_14, B_lit, callA_fn0 pl9, len_slice Tryd.underlying24]
  refine aw_while (L := c5_13) rfl (fun m' F G => ∃ i : Nat, m' = ls.length - i ∧ F = [(3, .string (B (txt (ls.take i)))), (20, .slice pa ls.length pc), (21, .int .i64 ls.length), (22, .int .i64 i)] ∧ Ext H G ∧ i ≤ ls.length ∧ ∀ s ∈ ls.take i, goodC s) (m := ls.length)
    ⟨0, rfl, rfl, E1, Nat.zero_le _, by intro s hs; simp at hs⟩ ?_
  rintro m' F G ih ⟨i, rfl, rfl, hE, hi, hgood⟩
  have hti : (ls.take i).length = i := by simp; omega
  have hL := txt_len (ls.take i) 100 fun s hs => (hgood s hs).1
  rw [hti] at hL
  by_cases hlt : i < ls.length
  · obtain ⟨s, hsi⟩ : ∃ s, ls[i]? = some s := ⟨ls[i], List.getElem?_eq_getElem hlt⟩
    have e3 : decide ((i : Int) < (ls.length : Int)) = true := by rw [decide_eq_true_eq]; omega
    obtain ⟨ad, pc', ew, hcell⟩ := (hp.ext hE).cell hsi
    cases ew
    simp only [go_sem, reduceCtorEq, Nat.reduceEqDiff, Nat.reduceAdd, withc_some, withcs_some, cells_0, cells_s, Option.bind_some, Option.map_some, List.getElem?_toArray, List.getElem?_cons_zero, List.getElem?_cons_succ, Nat.add_zero, Nat.zero_add, Value.cells, splice, List.setIfInBounds_toArray, List.set_cons_zero, List.set_cons_succ, bfill_nil, bfill_cons, bstep_some, withO_some, List.take_zero, List.take_succ_cons, List.drop_zero, List.drop_succ_cons, List.cons_append, List.nil_append, List.append_nil, List.length_cons, List.length_nil, Nat.reduceLeDiff, Nat.le_refl, and_true, true_and, and_self, decide_true, decide_false, Bool.not_true, Bool.not_false, c5_12, c5_11, r5_7, e3, c5_10, c5_9, c5_8, r5_8, callA_fn0 pl9, ld9, len_slice Tryd.underlying24]
    rw [iadA_slice uStrs ty9 (by omega) (by omega)]
    have hss := hl s (List.mem_of_getElem? hsi)
    simp only [go_sem, reduceCtorEq, Nat.reduceEqDiff, Nat.reduceAdd, withc_some, withcs_some, cells_0, cells_s, Option.bind_some, Option.map_some, List.getElem?_toArray, List.getElem?_cons_zero, List.getElem?_cons_succ, Nat.add_zero, Nat.zero_add, Value.cells, splice, List.setIfInBounds_toArray, List.set_cons_zero, List.set_cons_succ, bfill_nil, bfill_cons, bstep_some, withO_some, List.take_zero, List.take_succ_cons, List.drop_zero, List.drop_succ_cons, List.cons_append, List.nil_append, List.append_nil, List.length_cons, List.length_nil, Nat.reduceLeDiff, Nat.le_refl, and_true, true_and, and_self, decide_true, decide_false, Bool.not_true, Bool.not_false, Int.toNat_natCast, hcell, c5_7, r5_9, callA_fn0 pl10, callA_fn0 pl9, ld9, len_slice Tryd.underlying24]
    refine scan s G (by omega) fun G2 v e E2 hs => ?_
    have hE2 := hE.trans E2
    have fin70 : ∀ bb : Bool, (bb = false → goodC s) → aw Tryd.prog 133 c5_5 (seqQ Tryd.prog 133 (.seq (.keep [3, 5, 20, 21, 22]) (.reg r5_12 [3, 20, 21, 22])) (blkE 1 (seqQ Tryd.prog 133 (A.reg r5_13 [3, 20, 21, 22]) (seqQ Tryd.prog 133 (A.keep [3, 20, 21, 22]) (seqQ Tryd.prog 133 c5_13 (blkE 0 (seqQ Tryd.prog 133 c5_28 (retK Tryd.prog [ResultVar.tmp 2] K))))))))
        [(3, .string (B (txt (ls.take i)))), (5, .string (B s)), (20, .slice (some ad) ls.length pc), (21, .int .i64 ls.length), (22, .int .i64 i), (70, .bool bb)] G2 := by
      intro bb hb
      cases bb with
      | true =>
        simp only [go_sem, reduceCtorEq, Nat.reduceEqDiff, Nat.reduceAdd, withc_some, withcs_some, cells_0, cells_s, Option.bind_some, Option.map_some, List.getElem?_toArray, List.getElem?_cons_zero, List.getElem?_cons_succ, Nat.add_zero, Nat.zero_add, Value.cells, splice, List.setIfInBounds_toArray, List.set_cons_zero, List.set_cons_succ, bfill_nil, bfill_cons, bstep_some, withO_some, List.take_zero, List.take_succ_cons, List.drop_zero, List.drop_succ_cons, List.cons_append, List.nil_append, List.append_nil, List.length_cons, List.length_nil, Nat.reduceLeDiff, Nat.le_refl, and_true, true_and, and_self, decide_true, decide_false, Bool.not_true, Bool.not_false, c5_5, c5_4, r5_11, callA_fn0 pl10, callA_fn0 pl9, ld9, len_slice Tryd.underlying24]
        exact h G2 hE2
      | false =>
        have hg := hb rfl
        have h100 := hg.1
        have htt : txt (ls.take (i + 1)) = txt (ls.take i) ++ (s ++ [10]) := by
          rw [List.take_add_one, hsi]
          simp [txt]
        simp only [go_sem, reduceCtorEq, Nat.reduceEqDiff, Nat.reduceAdd, withc_some, withcs_some, cells_0, cells_s, Option.bind_some, Option.map_some, List.getElem?_toArray, List.getElem?_cons_zero, List.getElem?_cons_succ, Nat.add_zero, Nat.zero_add, Value.cells, splice, List.setIfInBounds_toArray, List.set_cons_zero, List.set_cons_succ, bfill_nil, bfill_cons, bstep_some, withO_some, List.take_zero, List.take_succ_cons, List.drop_zero, List.drop_succ_cons, List.cons_append, List.nil_append, List.append_nil, List.length_cons, List.length_nil, Nat.reduceLeDiff, Nat.le_refl, and_true, true_and, and_self, decide_true, decide_false, Bool.not_true, Bool.not_false, c5_5, r5_12, B_lit, binA_cat (show s.length + ([10] : List UInt8).length ≤ 9223372036854775807 by simp; omega), binA_cat (show (txt (ls.take i)).length + (s ++ [10]).length ≤ 9223372036854775807 by simp; omega), r5_13, wrap_one (show i + 1 ≤ 9223372036854775807 by omega), callA_fn0 pl10, callA_fn0 pl9, ld9, len_slice Tryd.underlying24]
        rw [← htt]
        refine ih _ _ _ (by omega) ⟨i + 1, rfl, rfl, hE2, by omega, ?_⟩
        intro x hx
        rw [List.take_add_one, hsi] at hx
        rcases List.mem_append.1 hx with hx | hx
        · exact hgood x hx
        · simp at hx; subst hx; exact hg
    obtain ⟨ws0, hv0, hw0⟩ : ∃ ws0, StrsV G2 v ws0 ∧ ∀ w ws, scanF s = some (w :: ws) → ws0 = w :: ws := by
      unfold ScanR at hs
      cases hsc : scanF s with
      | none =>
        rw [hsc] at hs
        obtain ⟨_, rfl⟩ := hs
        exact ⟨[], ⟨.inr (.inl ⟨0, rfl, rfl, rfl⟩), _, _, rfl⟩, fun w ws e => by cases e⟩
      | some ws =>
        rw [hsc] at hs
        exact ⟨ws, StrsV.own hs.2, fun w ws' e => by cases e; rfl⟩
    obtain ⟨va, vc, rfl⟩ := hv0.2
    simp only [go_sem, reduceCtorEq, Nat.reduceEqDiff, Nat.reduceAdd, withc_some, withcs_some, cells_0, cells_s, Option.bind_some, Option.map_some, List.getElem?_toArray, List.getElem?_cons_zero, List.getElem?_cons_succ, Nat.add_zero, Nat.zero_add, Value.cells, splice, List.setIfInBounds_toArray, List.set_cons_zero, List.set_cons_succ, bfill_nil, bfill_cons, bstep_some, withO_some, List.take_zero, List.take_succ_cons, List.drop_zero, List.drop_succ_cons, List.cons_append, List.nil_append, List.append_nil, List.length_cons, List.length_nil, Nat.reduceLeDiff, Nat.le_refl, and_true, true_and, and_self, decide_true, decide_false, Bool.not_true, Bool.not_false, c5_6, r5_10, callA_fn0 pl10, callA_fn0 pl18, callA_fn0 pl9, ld9, len_B Tryd.underlying9, len_slice Tryd.underlying24]
    by_cases h100 : 100 < s.length
    · have e4 : decide ((100 : Int) < (s.length : Int)) = true := by rw [decide_eq_true_eq]; omega
      simp only [go_sem, reduceCtorEq, Nat.reduceEqDiff, Nat.reduceAdd, withc_some, withcs_some, cells_0, cells_s, Option.bind_some, Option.map_some, List.getElem?_toArray, List.getElem?_cons_zero, List.getElem?_cons_succ, Nat.add_zero, Nat.zero_add, Value.cells, splice, List.setIfInBounds_toArray, List.set_cons_zero, List.set_cons_succ, bfill_nil, bfill_cons, bstep_some, withO_some, List.take_zero, List.take_succ_cons, List.drop_zero, List.drop_succ_cons, List.cons_append, List.nil_append, List.append_nil, List.length_cons, List.length_nil, Nat.reduceLeDiff, Nat.le_refl, and_true, true_and, and_self, decide_true, decide_false, Bool.not_true, Bool.not_false, e4, callA_fn0 pl10, callA_fn0 pl18, callA_fn0 pl9, ld9, len_B Tryd.underlying9, len_slice Tryd.underlying24]
      exact fin70 true fun h => by cases h
    have e4 : decide ((100 : Int) < (s.length : Int)) = false := by rw [decide_eq_false_iff_not]; omega
    simp only [go_sem, reduceCtorEq, Nat.reduceEqDiff, Nat.reduceAdd, withc_some, withcs_some, cells_0, cells_s, Option.bind_some, Option.map_some, List.getElem?_toArray, List.getElem?_cons_zero, List.getElem?_cons_succ, Nat.add_zero, Nat.zero_add, Value.cells, splice, List.setIfInBounds_toArray, List.set_cons_zero, List.set_cons_succ, bfill_nil, bfill_cons, bstep_some, withO_some, List.take_zero, List.take_succ_cons, List.drop_zero, List.drop_succ_cons, List.cons_append, List.nil_append, List.append_nil, List.length_cons, List.length_nil, Nat.reduceLeDiff, Nat.le_refl, and_true, true_and, and_self, decide_true, decide_false, Bool.not_true, Bool.not_false, e4, B_lit, callA_fn0 pl10, callA_fn0 pl18, callA_fn0 pl9, ld9, len_B Tryd.underlying9, len_slice Tryd.underlying24]
    refine contains_c s [10] (by omega) (g.ext hE2) ?_
    rw [contains_byte]
    by_cases h10 : (10 : UInt8) ∈ s
    · rw [decide_eq_true h10]
      simp only [go_sem, reduceCtorEq, Nat.reduceEqDiff, Nat.reduceAdd, withc_some, withcs_some, cells_0, cells_s, Option.bind_some, Option.map_some, List.getElem?_toArray, List.getElem?_cons_zero, List.getElem?_cons_succ, Nat.add_zero, Nat.zero_add, Value.cells, splice, List.setIfInBounds_toArray, List.set_cons_zero, List.set_cons_succ, bfill_nil, bfill_cons, bstep_some, withO_some, List.take_zero, List.take_succ_cons, List.drop_zero, List.drop_succ_cons, List.cons_append, List.nil_append, List.append_nil, List.length_cons, List.length_nil, Nat.reduceLeDiff, Nat.le_refl, and_true, true_and, and_self, decide_true, decide_false, Bool.not_true, Bool.not_false, callA_fn0 pl10, callA_fn0 pl18, callA_fn0 pl9, ld9, len_B Tryd.underlying9, len_slice Tryd.underlying24]
      exact fin70 true fun h => by cases h
    rw [decide_eq_false h10]
    simp only [go_sem, reduceCtorEq, Nat.reduceEqDiff, Nat.reduceAdd, withc_some, withcs_some, cells_0, cells_s, Option.bind_some, Option.map_some, List.getElem?_toArray, List.getElem?_cons_zero, List.getElem?_cons_succ, Nat.add_zero, Nat.zero_add, Value.cells, splice, List.setIfInBounds_toArray, List.set_cons_zero, List.set_cons_succ, bfill_nil, bfill_cons, bstep_some, withO_some, List.take_zero, List.take_succ_cons, List.drop_zero, List.drop_succ_cons, List.cons_append, List.nil_append, List.append_nil, List.length_cons, List.length_nil, Nat.reduceLeDiff, Nat.le_refl, and_true, true_and, and_self, decide_true, decide_false, Bool.not_true, Bool.not_false, B_lit, callA_fn0 pl10, callA_fn0 pl18, callA_fn0 pl9, ld9, len_B Tryd.underlying9, len_slice Tryd.underlying24]
    refine contains_c s [38] (by omega) (g.ext hE2) ?_
    rw [contains_byte]
    by_cases h38 : (38 : UInt8) ∈ s
    · rw [decide_eq_true h38]
      simp only [go_sem, reduceCtorEq, Nat.reduceEqDiff, Nat.reduceAdd, withc_some, withcs_some, cells_0, cells_s, Option.bind_some, Option.map_some, List.getElem?_toArray, List.getElem?_cons_zero, List.getElem?_cons_succ, Nat.add_zero, Nat.zero_add, Value.cells, splice, List.setIfInBounds_toArray, List.set_cons_zero, List.set_cons_succ, bfill_nil, bfill_cons, bstep_some, withO_some, List.take_zero, List.take_succ_cons, List.drop_zero, List.drop_succ_cons, List.cons_append, List.nil_append, List.append_nil, List.length_cons, List.length_nil, Nat.reduceLeDiff, Nat.le_refl, and_true, true_and, and_self, decide_true, decide_false, Bool.not_true, Bool.not_false, callA_fn0 pl10, callA_fn0 pl18, callA_fn0 pl9, ld9, len_B Tryd.underlying9, len_slice Tryd.underlying24]
      exact fin70 true fun h => by cases h
    rw [decide_eq_false h38]
    match ws0, hv0, hw0 with
    | [], hv0, hw0 =>
      simp only [go_sem, reduceCtorEq, Nat.reduceEqDiff, Nat.reduceAdd, withc_some, withcs_some, cells_0, cells_s, Option.bind_some, Option.map_some, List.getElem?_toArray, List.getElem?_cons_zero, List.getElem?_cons_succ, Nat.add_zero, Nat.zero_add, Value.cells, splice, List.setIfInBounds_toArray, List.set_cons_zero, List.set_cons_succ, bfill_nil, bfill_cons, bstep_some, withO_some, List.take_zero, List.take_succ_cons, List.drop_zero, List.drop_succ_cons, List.cons_append, List.nil_append, List.append_nil, List.length_cons, List.length_nil, Nat.reduceLeDiff, Nat.le_refl, and_true, true_and, and_self, decide_true, decide_false, Bool.not_true, Bool.not_false, List.length_nil, show decide ((0 : Int) < ((0 : Nat) : Int)) = false from rfl, callA_fn0 pl10, callA_fn0 pl18, callA_fn0 pl9, ld9, len_B Tryd.underlying9, len_slice Tryd.underlying24]
      exact fin70 false fun _ => ⟨by omega, h10, h38, fun w ws e => by cases hw0 w ws e⟩
    | w :: ws, hv0, hw0 =>
      have e5 : decide ((0 : Int) < ((ws.length + 1 : Nat) : Int)) = true := by rw [decide_eq_true_eq]; omega
      obtain ⟨ad', vc', ew, hc0⟩ := hv0.cell (i := 0) (w := w) rfl
      cases ew
      have hc1 : cellH G2 ad' = some (.string (B w)) := by
        have h1 : ad'.add (0 * 1) = ad' := by
          unfold Addr.add
          split <;> simp_all
        rw [h1] at hc0
        exact hc0
      simp only [go_sem, reduceCtorEq, Nat.reduceEqDiff, Nat.reduceAdd, withc_some, withcs_some, cells_0, cells_s, Option.bind_some, Option.map_some, List.getElem?_toArray, List.getElem?_cons_zero, List.getElem?_cons_succ, Nat.add_zero, Nat.zero_add, Value.cells, splice, List.setIfInBounds_toArray, List.set_cons_zero, List.set_cons_succ, bfill_nil, bfill_cons, bstep_some, withO_some, List.take_zero, List.take_succ_cons, List.drop_zero, List.drop_succ_cons, List.cons_append, List.nil_append, List.append_nil, List.length_cons, List.length_nil, Nat.reduceLeDiff, Nat.le_refl, and_true, true_and, and_self, decide_true, decide_false, Bool.not_true, Bool.not_false, List.length_cons, e5, callA_fn0 pl10, callA_fn0 pl18, callA_fn0 pl9, ld9, len_B Tryd.underlying9, len_slice Tryd.underlying24]
      rw [iadA_slice uStrs ty9 (by omega) (by omega)]
      by_cases h0 : w = [115, 101, 116]
      · have f0 : (w == [115, 101, 116]) = true := by simpa using h0
        simp only [go_sem, reduceCtorEq, Nat.reduceEqDiff, Nat.reduceAdd, withc_some, withcs_some, cells_0, cells_s, Option.bind_some, Option.map_some, List.getElem?_toArray, List.getElem?_cons_zero, List.getElem?_cons_succ, Nat.add_zero, Nat.zero_add, Value.cells, splice, List.setIfInBounds_toArray, List.set_cons_zero, List.set_cons_succ, bfill_nil, bfill_cons, bstep_some, withO_some, List.take_zero, List.take_succ_cons, List.drop_zero, List.drop_succ_cons, List.cons_append, List.nil_append, List.append_nil, List.length_cons, List.length_nil, Nat.reduceLeDiff, Nat.le_refl, and_true, true_and, and_self, decide_true, decide_false, Bool.not_true, Bool.not_false, Int.toNat_zero, Nat.mul_one, hc1, B_lit, B_toList, f0, callA_fn0 pl10, callA_fn0 pl18, callA_fn0 pl9, ld9, len_B Tryd.underlying9, len_slice Tryd.underlying24]
        exact fin70 true fun h => by cases h
      have f0 : (w == [115, 101, 116]) = false := by simpa using h0
      simp only [go_sem, reduceCtorEq, Nat.reduceEqDiff, Nat.reduceAdd, withc_some, withcs_some, cells_0, cells_s, Option.bind_some, Option.map_some, List.getElem?_toArray, List.getElem?_cons_zero, List.getElem?_cons_succ, Nat.add_zero, Nat.zero_add, Value.cells, splice, List.setIfInBounds_toArray, List.set_cons_zero, List.set_cons_succ, bfill_nil, bfill_cons, bstep_some, withO_some, List.take_zero, List.take_succ_cons, List.drop_zero, List.drop_succ_cons, List.cons_append, List.nil_append, List.append_nil, List.length_cons, List.length_nil, Nat.reduceLeDiff, Nat.le_refl, and_true, true_and, and_self, decide_true, decide_false, Bool.not_true, Bool.not_false, Int.toNat_zero, Nat.mul_one, hc1, B_lit, B_toList, f0, callA_fn0 pl10, callA_fn0 pl18, callA_fn0 pl9, ld9, len_B Tryd.underlying9, len_slice Tryd.underlying24]
      rw [iadA_slice uStrs ty9 (by omega) (by omega)]
      by_cases h1 : w = [112, 114, 111, 99]
      · have f1 : (w == [112, 114, 111, 99]) = true := by simpa using h1
        simp only [go_sem, reduceCtorEq, Nat.reduceEqDiff, Nat.reduceAdd, withc_some, withcs_some, cells_0, cells_s, Option.bind_some, Option.map_some, List.getElem?_toArray, List.getElem?_cons_zero, List.getElem?_cons_succ, Nat.add_zero, Nat.zero_add, Value.cells, splice, List.setIfInBounds_toArray, List.set_cons_zero, List.set_cons_succ, bfill_nil, bfill_cons, bstep_some, withO_some, List.take_zero, List.take_succ_cons, List.drop_zero, List.drop_succ_cons, List.cons_append, List.nil_append, List.append_nil, List.length_cons, List.length_nil, Nat.reduceLeDiff, Nat.le_refl, and_true, true_and, and_self, decide_true, decide_false, Bool.not_true, Bool.not_false, Int.toNat_zero, Nat.mul_one, hc1, B_lit, B_toList, f1, callA_fn0 pl10, callA_fn0 pl18, callA_fn0 pl9, ld9, len_B Tryd.underlying9, len_slice Tryd.underlying24]
        exact fin70 true fun h => by cases h
      have f1 : (w == [112, 114, 111, 99]) = false := by simpa using h1
      simp only [go_sem, reduceCtorEq, Nat.reduceEqDiff, Nat.reduceAdd, withc_some, withcs_some, cells_0, cells_s, Option.bind_some, Option.map_some, List.getElem?_toArray, List.getElem?_cons_zero, List.getElem?_cons_succ, Nat.add_zero, Nat.zero_add, Value.cells, splice, List.setIfInBounds_toArray, List.set_cons_zero, List.set_cons_succ, bfill_nil, bfill_cons, bstep_some, withO_some, List.take_zero, List.take_succ_cons, List.drop_zero, List.drop_succ_cons, List.cons_append, List.nil_append, List.append_nil, List.length_cons, List.length_nil, Nat.reduceLeDiff, Nat.le_refl, and_true, true_and, and_self, decide_true, decide_false, Bool.not_true, Bool.not_false, Int.toNat_zero, Nat.mul_one, hc1, B_lit, B_toList, f1, callA_fn0 pl10, callA_fn0 pl18, callA_fn0 pl9, ld9, len_B Tryd.underlying9, len_slice Tryd.underlying24]
      rw [iadA_slice uStrs ty9 (by omega) (by omega)]
      by_cases h2 : w = [99, 97, 108, 108]
      · have f2 : (w == [99, 97, 108, 108]) = true := by simpa using h2
        simp only [go_sem, reduceCtorEq, Nat.reduceEqDiff, Nat.reduceAdd, withc_some, withcs_some, cells_0, cells_s, Option.bind_some, Option.map_some, List.getElem?_toArray, List.getElem?_cons_zero, List.getElem?_cons_succ, Nat.add_zero, Nat.zero_add, Value.cells, splice, List.setIfInBounds_toArray, List.set_cons_zero, List.set_cons_succ, bfill_nil, bfill_cons, bstep_some, withO_some, List.take_zero, List.take_succ_cons, List.drop_zero, List.drop_succ_cons, List.cons_append, List.nil_append, List.append_nil, List.length_cons, List.length_nil, Nat.reduceLeDiff, Nat.le_refl, and_true, true_and, and_self, decide_true, decide_false, Bool.not_true, Bool.not_false, Int.toNat_zero, Nat.mul_one, hc1, B_lit, B_toList, f2, callA_fn0 pl10, callA_fn0 pl18, callA_fn0 pl9, ld9, len_B Tryd.underlying9, len_slice Tryd.underlying24]
        exact fin70 true fun h => by cases h
      have f2 : (w == [99, 97, 108, 108]) = false := by simpa using h2
      simp only [go_sem, reduceCtorEq, Nat.reduceEqDiff, Nat.reduceAdd, withc_some, withcs_some, cells_0, cells_s, Option.bind_some, Option.map_some, List.getElem?_toArray, List.getElem?_cons_zero, List.getElem?_cons_succ, Nat.add_zero, Nat.zero_add, Value.cells, splice, List.setIfInBounds_toArray, List.set_cons_zero, List.set_cons_succ, bfill_nil, bfill_cons, bstep_some, withO_some, List.take_zero, List.take_succ_cons, List.drop_zero, List.drop_succ_cons, List.cons_append, List.nil_append, List.append_nil, List.length_cons, List.length_nil, Nat.reduceLeDiff, Nat.le_refl, and_true, true_and, and_self, decide_true, decide_false, Bool.not_true, Bool.not_false, Int.toNat_zero, Nat.mul_one, hc1, B_lit, B_toList, f2, callA_fn0 pl10, callA_fn0 pl18, callA_fn0 pl9, ld9, len_B Tryd.underlying9, len_slice Tryd.underlying24]
      rw [iadA_slice uStrs ty9 (by omega) (by omega)]
      by_cases h3 : w = [101, 110, 100]
      · have f3 : (w == [101, 110, 100]) = true := by simpa using h3
        simp only [go_sem, reduceCtorEq, Nat.reduceEqDiff, Nat.reduceAdd, withc_some, withcs_some, cells_0, cells_s, Option.bind_some, Option.map_some, List.getElem?_toArray, List.getElem?_cons_zero, List.getElem?_cons_succ, Nat.add_zero, Nat.zero_add, Value.cells, splice, List.setIfInBounds_toArray, List.set_cons_zero, List.set_cons_succ, bfill_nil, bfill_cons, bstep_some, withO_some, List.take_zero, List.take_succ_cons, List.drop_zero, List.drop_succ_cons, List.cons_append, List.nil_append, List.append_nil, List.length_cons, List.length_nil, Nat.reduceLeDiff, Nat.le_refl, and_true, true_and, and_self, decide_true, decide_false, Bool.not_true, Bool.not_false, Int.toNat_zero, Nat.mul_one, hc1, B_lit, B_toList, f3, callA_fn0 pl10, callA_fn0 pl18, callA_fn0 pl9, ld9, len_B Tryd.underlying9, len_slice Tryd.underlying24]
        exact fin70 true fun h => by cases h
      have f3 : (w == [101, 110, 100]) = false := by simpa using h3
      simp only [go_sem, reduceCtorEq, Nat.reduceEqDiff, Nat.reduceAdd, withc_some, withcs_some, cells_0, cells_s, Option.bind_some, Option.map_some, List.getElem?_toArray, List.getElem?_cons_zero, List.getElem?_cons_succ, Nat.add_zero, Nat.zero_add, Value.cells, splice, List.setIfInBounds_toArray, List.set_cons_zero, List.set_cons_succ, bfill_nil, bfill_cons, bstep_some, withO_some, List.take_zero, List.take_succ_cons, List.drop_zero, List.drop_succ_cons, List.cons_append, List.nil_append, List.append_nil, List.length_cons, List.length_nil, Nat.reduceLeDiff, Nat.le_refl, and_true, true_and, and_self, decide_true, decide_false, Bool.not_true, Bool.not_false, Int.toNat_zero, Nat.mul_one, hc1, B_lit, B_toList, f3, callA_fn0 pl10, callA_fn0 pl18, callA_fn0 pl9, ld9, len_B Tryd.underlying9, len_slice Tryd.underlying24]
      refine fin70 false fun _ => ⟨by omega, h10, h38, fun w' ws' e => ?_⟩
      have := hw0 w' ws' e
      cases this
      rintro (rfl | rfl | rfl | rfl)
      · exact h0 rfl
      · exact h1 rfl
      · exact h2 rfl
      · exact h3 rfl
  · have e3 : decide ((i : Int) < (ls.length : Int)) = false := by rw [decide_eq_false_iff_not]; omega
    have hil : i = ls.length := by omega
    subst hil
    rw [List.take_length] at hgood hL
    have hexp := calls_exp hgood (fun s hs sym => replR_plain (hgood s hs).2.2.1 (by have := (hgood s hs).1; omega) sym) (by omega)
    have htt : txt ([prL] ++ ls ++ [enL, caL]) = 112 :: 114 :: 111 :: 99 :: 32 :: 80 :: 10 :: (txt ls ++ [101, 110, 100, 10, 99, 97, 108, 108, 32, 88, 32, 80, 10]) := by
      rw [txt_append, txt_append, show txt [prL] = [112, 114, 111, 99, 32, 80, 10] from rfl, show txt [enL, caL] = [101, 110, 100, 10, 99, 97, 108, 108, 32, 88, 32, 80, 10] from rfl]
      rfl
    rw [htt] at hexp
    have hsm := expand_small (txt ls)
    have hlm := expand_lineM (txt ls)
    simp only [go_sem, reduceCtorEq, Nat.reduceEqDiff, Nat.reduceAdd, withc_some, withcs_some, cells_0, cells_s, Option.bind_some, Option.map_some, List.getElem?_toArray, List.getElem?_cons_zero, List.getElem?_cons_succ, Nat.add_zero, Nat.zero_add, Value.cells, splice, List.setIfInBounds_toArray, List.set_cons_zero, List.set_cons_succ, bfill_nil, bfill_cons, bstep_some, withO_some, List.take_zero, List.take_succ_cons, List.drop_zero, List.drop_succ_cons, List.cons_append, List.nil_append, List.append_nil, List.length_cons, List.length_nil, Nat.reduceLeDiff, Nat.le_refl, and_true, true_and, and_self, decide_true, decide_false, Bool.not_true, Bool.not_false, List.take_length, c5_12, c5_11, r5_7, e3, c5_10, c5_28, r5_14, callA_fn0 pl10, callA_fn0 pl18, callA_fn0 pl19, callA_fn0 pl9, ld9, len_B Tryd.underlying9, len_slice Tryd.underlying24]
    refine expand_full (g.ext hE) (by omega) fun G2 va E2 hsa _ => ?_
    have hE2 := hE.trans E2
    simp only [go_sem, reduceCtorEq, Nat.reduceEqDiff, Nat.reduceAdd, withc_some, withcs_some, cells_0, cells_s, Option.bind_some, Option.map_some, List.getElem?_toArray, List.getElem?_cons_zero, List.getElem?_cons_succ, Nat.add_zero, Nat.zero_add, Value.cells, splice, List.setIfInBounds_toArray, List.set_cons_zero, List.set_cons_succ, bfill_nil, bfill_cons, bstep_some, withO_some, List.take_zero, List.take_succ_cons, List.drop_zero, List.drop_succ_cons, List.cons_append, List.nil_append, List.append_nil, List.length_cons, List.length_nil, Nat.reduceLeDiff, Nat.le_refl, and_true, true_and, and_self, decide_true, decide_false, Bool.not_true, Bool.not_false, c5_27, r5_15, B_lit, binA_cat (show ([112, 114, 111, 99, 32, 80, 10] : List UInt8).length + (txt ls).length ≤ 9223372036854775807 by simp; omega),
      binA_cat (show (112 :: 114 :: 111 :: 99 :: 32 :: 80 :: 10 :: txt ls : List UInt8).length + ([101, 110, 100, 10, 99, 97, 108, 108, 32, 88, 32, 80, 10] : List UInt8).length ≤ 9223372036854775807 by simp; omega), callA_fn0 pl10, callA_fn0 pl18, callA_fn0 pl19, callA_fn0 pl9, ld9, len_B Tryd.underlying9, len_slice Tryd.underlying24]
    refine expand_full (t := 112 :: 114 :: 111 :: 99 :: 32 :: 80 :: 10 :: (txt ls ++ [101, 110, 100, 10, 99, 97, 108, 108, 32, 88, 32, 80, 10])) (g.ext hE2) (by simp; omega) fun G3 vb E3 hsb _ => ?_
    have hE3 := hE2.trans E3
    rw [hexp] at hsb ⊢
    have hsa3 := hsa.ext E3
    generalize expandF LFo (txt ls) = res at *
    obtain ⟨l, n, e⟩ := res
    simp only at hsa hsb hsm hsa3 hlm ⊢
    obtain ⟨va1, va2, rfl⟩ := hsa.form
    obtain ⟨vb1, vb2, rfl⟩ := hsb.form
    rw [List.length_map] at hsb ⊢
    have ec : decide (e = e) = true := decide_eq_true rfl
    have el : decide ((l.length : Int) = (l.length : Int)) = true := decide_eq_true rfl
    have fin : aw Tryd.prog 133 c5_25 (retK Tryd.prog [.tmp 2] K) [(8, .slice va1 l.length va2), (11, .slice vb1 l.length vb2)] G3 := by
      simp only [go_sem, reduceCtorEq, Nat.reduceEqDiff, Nat.reduceAdd, withc_some, withcs_some, cells_0, cells_s, Option.bind_some, Option.map_some, List.getElem?_toArray, List.getElem?_cons_zero, List.getElem?_cons_succ, Nat.add_zero, Nat.zero_add, Value.cells, splice, List.setIfInBounds_toArray, List.set_cons_zero, List.set_cons_succ, bfill_nil, bfill_cons, bstep_some, withO_some, List.take_zero, List.take_succ_cons, List.drop_zero, List.drop_succ_cons, List.cons_append, List.nil_append, List.append_nil, List.length_cons, List.length_nil, Nat.reduceLeDiff, Nat.le_refl, and_true, true_and, and_self, decide_true, decide_false, Bool.not_true, Bool.not_false, c5_25, r5_18, c5_23, callA_fn0 pl10, callA_fn0 pl18, callA_fn0 pl19, callA_fn0 pl9, ld9, len_B Tryd.underlying9, len_slice Tryd.underlying24, len_slice Tryd.underlying36]
      refine aw_while (L := c5_22) rfl (fun m' F G' => ∃ i : Nat, m' = l.length - i ∧ F = [(8, .slice va1 l.length va2), (11, .slice vb1 l.length vb2), (111, .int .i64 l.length), (112, .int .i64 i)] ∧ Ext H G' ∧ i ≤ l.length ∧ StmsO G.size G' (.slice va1 l.length va2) ((l.take i).map gC ++ l.drop i) ∧ StmsO G2.size G' (.slice vb1 l.length vb2) (l.map gC) ∧ (∀ b off, va1 = some ⟨b, off, none⟩ → b < G2.size)) (m := l.length)
        ⟨0, rfl, rfl, hE3, Nat.zero_le _, hsa3, hsb, ?_⟩ ?_
      · intro b off hv
        obtain ⟨cells, h1, _⟩ := hsa
        rcases h1 with ⟨h1, _⟩ | ⟨b', cap, c, f, h1, _, h3, _⟩
        · rw [hv] at h1; cases h1
        · rw [hv] at h1
          cases h1
          exact get_lt h3
      rintro m' F G' ih ⟨i, rfl, rfl, hE', hi, ha, hb, hab⟩
      by_cases hlt : i < l.length
      · obtain ⟨s, hsi⟩ : ∃ s, l[i]? = some s := ⟨l[i], List.getElem?_eq_getElem hlt⟩
        have hms := mid_set (f := gC) hsi
        obtain ⟨b, c, cc, ff, ev, hGb, hcb, hcell, hst, _⟩ := stm_own ha hms.2
        simp only [Value.slice.injEq] at ev
        obtain ⟨rfl, _, rfl⟩ := ev
        have hbG := hab b 0 rfl
        have e3 : decide ((i : Int) < (l.length : Int)) = true := by rw [decide_eq_true_eq]; omega
        have hsl := (hsm.2 s (List.mem_of_getElem? hsi)).1
        simp only [go_sem, reduceCtorEq, Nat.reduceEqDiff, Nat.reduceAdd, withc_some, withcs_some, cells_0, cells_s, Option.bind_some, Option.map_some, List.getElem?_toArray, List.getElem?_cons_zero, List.getElem?_cons_succ, Nat.add_zero, Nat.zero_add, Value.cells, splice, List.setIfInBounds_toArray, List.set_cons_zero, List.set_cons_succ, bfill_nil, bfill_cons, bstep_some, withO_some, List.take_zero, List.take_succ_cons, List.drop_zero, List.drop_succ_cons, List.cons_append, List.nil_append, List.append_nil, List.length_cons, List.length_nil, Nat.reduceLeDiff, Nat.le_refl, and_true, true_and, and_self, decide_true, decide_false, Bool.not_true, Bool.not_false, c5_21, c5_20, r5_19, e3, c5_19, c5_18, c5_17, r5_20, r5_21, callA_fn0 pl10, callA_fn0 pl18, callA_fn0 pl19, callA_fn0 pl9, fa40_0, fa40_1, ld3, ld9, len_B Tryd.underlying9, len_slice Tryd.underlying24, len_slice Tryd.underlying36]
        rw [iadA_slice Tryd.underlying36 ty40 (by omega) (by omega)]
        simp only [go_sem, reduceCtorEq, Nat.reduceEqDiff, Nat.reduceAdd, withc_some, withcs_some, cells_0, cells_s, Option.bind_some, Option.map_some, List.getElem?_toArray, List.getElem?_cons_zero, List.getElem?_cons_succ, Nat.add_zero, Nat.zero_add, Value.cells, splice, List.setIfInBounds_toArray, List.set_cons_zero, List.set_cons_succ, bfill_nil, bfill_cons, bstep_some, withO_some, List.take_zero, List.take_succ_cons, List.drop_zero, List.drop_succ_cons, List.cons_append, List.nil_append, List.append_nil, List.length_cons, List.length_nil, Nat.reduceLeDiff, Nat.le_refl, and_true, true_and, and_self, decide_true, decide_false, Bool.not_true, Bool.not_false, add_none, Int.toNat_natCast, Nat.zero_add, hcell, wrap_one (show s.line + 1 ≤ 9223372036854775807 by omega), callA_fn0 pl10, callA_fn0 pl18, callA_fn0 pl19, callA_fn0 pl9, fa40_0, fa40_1, ld3, ld9, len_B Tryd.underlying9, len_slice Tryd.underlying24, len_slice Tryd.underlying36]
        rw [iadA_slice Tryd.underlying36 ty40 (by omega) (by omega)]
        simp only [go_sem, reduceCtorEq, Nat.reduceEqDiff, Nat.reduceAdd, withc_some, withcs_some, cells_0, cells_s, Option.bind_some, Option.map_some, List.getElem?_toArray, List.getElem?_cons_zero, List.getElem?_cons_succ, Nat.add_zero, Nat.zero_add, Value.cells, splice, List.setIfInBounds_toArray, List.set_cons_zero, List.set_cons_succ, bfill_nil, bfill_cons, bstep_some, withO_some, List.take_zero, List.take_succ_cons, List.drop_zero, List.drop_succ_cons, List.cons_append, List.nil_append, List.append_nil, List.length_cons, List.length_nil, Nat.reduceLeDiff, Nat.le_refl, and_true, true_and, and_self, decide_true, decide_false, Bool.not_true, Bool.not_false, add_none, Int.toNat_natCast, Nat.zero_add, callA_fn0 pl10, callA_fn0 pl18, callA_fn0 pl19, callA_fn0 pl9, fa40_0, fa40_1, ld3, ld9, len_B Tryd.underlying9, len_slice Tryd.underlying24, len_slice Tryd.underlying36]
        refine hst (s.line + 1) _ _ fun G4 h4 k4 s4 => ?_
        simp only [go_sem, reduceCtorEq, Nat.reduceEqDiff, Nat.reduceAdd, withc_some, withcs_some, cells_0, cells_s, Option.bind_some, Option.map_some, List.getElem?_toArray, List.getElem?_cons_zero, List.getElem?_cons_succ, Nat.add_zero, Nat.zero_add, Value.cells, splice, List.setIfInBounds_toArray, List.set_cons_zero, List.set_cons_succ, bfill_nil, bfill_cons, bstep_some, withO_some, List.take_zero, List.take_succ_cons, List.drop_zero, List.drop_succ_cons, List.cons_append, List.nil_append, List.append_nil, List.length_cons, List.length_nil, Nat.reduceLeDiff, Nat.le_refl, and_true, true_and, and_self, decide_true, decide_false, Bool.not_true, Bool.not_false, callA_fn0 pl10, callA_fn0 pl18, callA_fn0 pl19, callA_fn0 pl9, fa40_0, fa40_1, ld3, ld9, len_B Tryd.underlying9, len_slice Tryd.underlying24, len_slice Tryd.underlying36]
        rw [iadA_slice Tryd.underlying36 ty40 (by omega) (by omega)]
        simp only [go_sem, reduceCtorEq, Nat.reduceEqDiff, Nat.reduceAdd, withc_some, withcs_some, cells_0, cells_s, Option.bind_some, Option.map_some, List.getElem?_toArray, List.getElem?_cons_zero, List.getElem?_cons_succ, Nat.add_zero, Nat.zero_add, Value.cells, splice, List.setIfInBounds_toArray, List.set_cons_zero, List.set_cons_succ, bfill_nil, bfill_cons, bstep_some, withO_some, List.take_zero, List.take_succ_cons, List.drop_zero, List.drop_succ_cons, List.cons_append, List.nil_append, List.append_nil, List.length_cons, List.length_nil, Nat.reduceLeDiff, Nat.le_refl, and_true, true_and, and_self, decide_true, decide_false, Bool.not_true, Bool.not_false, add_none, Int.toNat_natCast, Nat.zero_add, B_lit, callA_fn0 pl10, callA_fn0 pl18, callA_fn0 pl19, callA_fn0 pl9, fa40_0, fa40_1, ld3, ld9, len_B Tryd.underlying9, len_slice Tryd.underlying24, len_slice Tryd.underlying36]
        have hget : (((l.take i).map gC ++ l.drop i).set i { s with line := s.line + 1 })[i]? = some { s with line := s.line + 1 } := by
          rw [List.getElem?_set_self]
          rcases Nat.lt_or_ge i ((l.take i).map gC ++ l.drop i).length with h | h
          · exact h
          · rw [List.getElem?_eq_none h] at hms; cases hms.2
        obtain ⟨b', c', cc', ff', ev', hGb', hcb', _, _, hst'⟩ := stm_own h4 hget
        simp only [Value.slice.injEq] at ev'
        obtain ⟨eb, _, _⟩ := ev'
        cases eb
        refine hst' [88] _ _ fun G5 h5 k5 s5 => ?_
        simp only [go_sem, reduceCtorEq, Nat.reduceEqDiff, Nat.reduceAdd, withc_some, withcs_some, cells_0, cells_s, Option.bind_some, Option.map_some, List.getElem?_toArray, List.getElem?_cons_zero, List.getElem?_cons_succ, Nat.add_zero, Nat.zero_add, Value.cells, splice, List.setIfInBounds_toArray, List.set_cons_zero, List.set_cons_succ, bfill_nil, bfill_cons, bstep_some, withO_some, List.take_zero, List.take_succ_cons, List.drop_zero, List.drop_succ_cons, List.cons_append, List.nil_append, List.append_nil, List.length_cons, List.length_nil, Nat.reduceLeDiff, Nat.le_refl, and_true, true_and, and_self, decide_true, decide_false, Bool.not_true, Bool.not_false, r5_22, wrap_one (show i + 1 ≤ 9223372036854775807 by omega), callA_fn0 pl10, callA_fn0 pl18, callA_fn0 pl19, callA_fn0 pl9, fa40_0, fa40_1, ld3, ld9, len_B Tryd.underlying9, len_slice Tryd.underlying24, len_slice Tryd.underlying36]
        refine ih _ _ _ (by omega) ⟨i + 1, rfl, rfl, k5.two (k4.two hE' (by have := hE.size; omega)) (by have := hE.size; omega), by omega, ?_, (hb.keep hcb hbG k4).keep hcb' hbG k5, hab⟩
        rw [← hms.1]
        rw [List.set_set] at h5
        exact h5
      · have e3 : decide ((i : Int) < (l.length : Int)) = false := by rw [decide_eq_false_iff_not]; omega
        have hil : i = l.length := by omega
        subst hil
        rw [List.take_length, List.drop_length, List.append_nil] at ha
        simp only [go_sem, reduceCtorEq, Nat.reduceEqDiff, Nat.reduceAdd, withc_some, withcs_some, cells_0, cells_s, Option.bind_some, Option.map_some, List.getElem?_toArray, List.getElem?_cons_zero, List.getElem?_cons_succ, Nat.add_zero, Nat.zero_add, Value.cells, splice, List.setIfInBounds_toArray, List.set_cons_zero, List.set_cons_succ, bfill_nil, bfill_cons, bstep_some, withO_some, List.take_zero, List.take_succ_cons, List.drop_zero, List.drop_succ_cons, List.cons_append, List.nil_append, List.append_nil, List.length_cons, List.length_nil, Nat.reduceLeDiff, Nat.le_refl, and_true, true_and, and_self, decide_true, decide_false, Bool.not_true, Bool.not_false, c5_21, c5_20, r5_19, e3, c5_19, c5_24, r5_23, callA_fn0 pl10, callA_fn0 pl18, callA_fn0 pl19, callA_fn0 pl20, callA_fn0 pl9, fa40_0, fa40_1, ld3, ld9, len_B Tryd.underlying9, len_slice Tryd.underlying24, len_slice Tryd.underlying36]
        refine same_c (l := l.map gC) (by rw [List.length_map]; omega) ?_ ha.V hb.V fun G4 E4 => ?_
        · intro x hx
          obtain ⟨y, hy, rfl⟩ := List.mem_map.1 hx
          have := hsm.2 y hy
          exact ⟨by show y.words.length ≤ _; have := this.2.1; omega, by show y.data.length ≤ _; have := this.2.2; omega⟩
        · simp only [go_sem, reduceCtorEq, Nat.reduceEqDiff, Nat.reduceAdd, withc_some, withcs_some, cells_0, cells_s, Option.bind_some, Option.map_some, List.getElem?_toArray, List.getElem?_cons_zero, List.getElem?_cons_succ, Nat.add_zero, Nat.zero_add, Value.cells, splice, List.setIfInBounds_toArray, List.set_cons_zero, List.set_cons_succ, bfill_nil, bfill_cons, bstep_some, withO_some, List.take_zero, List.take_succ_cons, List.drop_zero, List.drop_succ_cons, List.cons_append, List.nil_append, List.append_nil, List.length_cons, List.length_nil, Nat.reduceLeDiff, Nat.le_refl, and_true, true_and, and_self, decide_true, decide_false, Bool.not_true, Bool.not_false, callA_fn0 pl10, callA_fn0 pl18, callA_fn0 pl19, callA_fn0 pl20, callA_fn0 pl9, fa40_0, fa40_1, ld3, ld9, len_B Tryd.underlying9, len_slice Tryd.underlying24, len_slice Tryd.underlying36]
          exact h G4 (hE'.trans E4)
    by_cases hc : e = 0
    · have e0 : decide (e = 0) = true := decide_eq_true hc
      simp only [go_sem, reduceCtorEq, Nat.reduceEqDiff, Nat.reduceAdd, withc_some, withcs_some, cells_0, cells_s, Option.bind_some, Option.map_some, List.getElem?_toArray, List.getElem?_cons_zero, List.getElem?_cons_succ, Nat.add_zero, Nat.zero_add, Value.cells, splice, List.setIfInBounds_toArray, List.set_cons_zero, List.set_cons_succ, bfill_nil, bfill_cons, bstep_some, withO_some, List.take_zero, List.take_succ_cons, List.drop_zero, List.drop_succ_cons, List.cons_append, List.nil_append, List.append_nil, List.length_cons, List.length_nil, Nat.reduceLeDiff, Nat.le_refl, and_true, true_and, and_self, decide_true, decide_false, Bool.not_true, Bool.not_false, c5_26, r5_16, ec, el, e0, c5_16, callA_fn0 pl10, callA_fn0 pl18, callA_fn0 pl19, callA_fn0 pl20, callA_fn0 pl9, fa40_0, fa40_1, ld3, ld9, len_B Tryd.underlying9, len_slice Tryd.underlying24, len_slice Tryd.underlying36]
      exact fin
    · have e0 : decide (e = 0) = false := decide_eq_false hc
      rw [if_neg hc]
      simp only [go_sem, reduceCtorEq, Nat.reduceEqDiff, Nat.reduceAdd, withc_some, withcs_some, cells_0, cells_s, Option.bind_some, Option.map_some, List.getElem?_toArray, List.getElem?_cons_zero, List.getElem?_cons_succ, Nat.add_zero, Nat.zero_add, Value.cells, splice, List.setIfInBounds_toArray, List.set_cons_zero, List.set_cons_succ, bfill_nil, bfill_cons, bstep_some, withO_some, List.take_zero, List.take_succ_cons, List.drop_zero, List.drop_succ_cons, List.cons_append, List.nil_append, List.append_nil, List.length_cons, List.length_nil, Nat.reduceLeDiff, Nat.le_refl, and_true, true_and, and_self, decide_true, decide_false, Bool.not_true, Bool.not_false, c5_26, r5_16, ec, el, e0, wrap_one (show n + 1 ≤ 9223372036854775807 by omega), show decide (((n + 1 : Nat) : Int) = ((n + 1 : Nat) : Int)) = true from decide_eq_true rfl, c5_16, callA_fn0 pl10, callA_fn0 pl18, callA_fn0 pl19, callA_fn0 pl20, callA_fn0 pl9, fa40_0, fa40_1, ld3, ld9, len_B Tryd.underlying9, len_slice Tryd.underlying24, len_slice Tryd.underlying36]
      exact fin
end Go.Proofs.YtoabcmhiaknjiaaDoor

/- A law's row out of a contract over the heap alone: it returns true, and what was in memory is as it was. -/
set_option linter.unusedVariables false
namespace Go.Hw
open Go Go.ChangeShapes Go.WideShapes Go.ChangeAt Go.RowKit

theorem below_of {W W' : World} (e : EnvEq W W') (x : Ext W.heap W'.heap) : Below W.heap.size W W' := ⟨e.os, e.tape, e.output, e.size, x.blk⟩

theorem trodAll_below {H : Type} {enc : TypeId × Value → H} {P : Program} (hl : laidOutB P = true) {W W' : World} (hb : Below W.heap.size W W') :
    ∀ {ts : List TypeId} {vs : List Value} {ds : List (DataW H)} {ps : List MemPlace}, (∀ t ∈ ts, P.readableRec t = true ∧ t < P.types.size) → DataW.TrodAll enc P W 0 (fun _ => true) true ts vs ds ps → (∀ x ∈ ps, x.block < W.heap.size) →
      DataW.TrodAll enc P W' 0 (fun b => decide (b < W.heap.size)) true ts vs ds ps
  | [], vs, ds, ps, _, h, _ => by
    obtain ⟨rfl, rfl, rfl⟩ := trodAll_nil h
    exact rfl
  | t :: ts, vs, ds, ps, hr, h, hlt => by
    obtain ⟨v, vs', d, ds', p, q, rfl, rfl, rfl, h1, h2⟩ := trodAll_cons h
    have ht := hr t (List.mem_cons_self ..)
    exact ⟨p, q, Below.trod hl ht.1 ht.2 h1 hb (fun x hx => hlt x (List.mem_append_left _ hx)),
      trodAll_below hl hb (fun t' ht' => hr t' (List.mem_cons_of_mem _ ht')) h2 (fun x hx => hlt x (List.mem_append_right _ hx)), rfl⟩

end Go.Hw

/- The arguments of a law, opened. -/
set_option maxRecDepth 100000
set_option linter.unusedVariables false
namespace Go.Proofs.YtoabcmhiaknjiaaDoor
open Go.Hw Go.ChangeShapes Go.WideShapes Go.ChangeAt Go.RowKit Go.WideMaps Go.ChangeMaps

theorem cellsH_of_each {H : Hp} {a : Addr} (f : Nat → Value) : ∀ (n i : Nat), (∀ j, i ≤ j → j < i + n → cellH H (a.add j) = some (f j)) → cellsH H a i n = some ((List.range n).map fun j => f (i + j))
  | 0, i, _ => rfl
  | n + 1, i, h => by
    unfold cellsH
    rw [h i (Nat.le_refl _) (by omega)]
    simp only
    rw [cellsH_of_each f n (i + 1) (fun j h1 h2 => h j (by omega) (by omega))]
    simp [List.range_succ_eq_map, Nat.add_assoc, Nat.add_comm 1]
theorem cellsOf_str : Tryd.prog.cellsOf 9 = 1 := by kernel_rfl
theorem B_data (s : ByteArray) : B s.data.toList = s := by cases s; simp [B]

end Go.Proofs.YtoabcmhiaknjiaaDoor

/- What every law's row of this seat leans on. -/
set_option maxRecDepth 100000
set_option linter.unusedVariables false
namespace Go.Proofs.YtoabcmhiaknjiaaDoor
open Go.Hw Go.ChangeShapes Go.WideShapes Go.ChangeAt Go.RowKit Go.WideMaps Go.ChangeMaps

theorem own_knob : ownKnob Tryd.prog.godebug = none := by kernel_rfl
theorem laid_out : laidOutB Tryd.prog = true := by kernel_rfl

theorem g0_of {W : World} (h : W.ShapedOpen Tryd.prog) : G0 W.heap := by
  obtain ⟨m, hm⟩ := cell_of_shapedOpen_int (P := Tryd.prog) (g := 0) (t := 3) (zero := #[.int .i64 0]) (k := .i64) h (of_decide_eq_true (by kernel_rfl)) (by kernel_rfl) rfl (by kernel_rfl) (by kernel_rfl) Tryd.underlying3
  exact ⟨m, by rw [← cellH_eq]; exact hm⟩

end Go.Proofs.YtoabcmhiaknjiaaDoor
